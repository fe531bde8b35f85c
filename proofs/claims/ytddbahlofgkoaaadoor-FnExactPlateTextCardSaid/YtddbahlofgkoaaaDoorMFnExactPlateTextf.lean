/- What the row of FnExactPlateText rests on, part 5: words, plain facts, functions and their contracts. No condition. -/
import Derived.Test.YtddbahlofgkoaaaDoorMFnExactPlateTexte
namespace Go.Proofs.YtddbahlofgkoaaaDoor.PA
open Go.RowKit Go.Proofs.YtddbahlofgkoaaaDoorW.PrintWords Go.Proofs.YtddbahlofgkoaaaDoorW.PrintLast Go.Proofs.YtddbahlofgkoaaaDoorW.PrintMore
attribute [local go_sem] max2_int min2_int max_two min_two max_three min_three max_four min_four   -- for this text's walks alone
set_option linter.unusedVariables false
set_option linter.unusedSimpArgs false

/-! ### impl_body_apart: function 75 -/
section
open Edges Go.Shelf
/-- A loop of a plate, as it lies in memory: its block, and its points. -/
structure Nd where
  b : Nat
  A : Option Addr
  c : Nat
  l : List S97
def Nd.ptr : List Nd → Value
  | [] => .pointer none
  | n :: _ => .pointer (some ⟨n.b, 0, none⟩)
theorem Nd.ptr_nil : Nd.ptr [] = .pointer none := rfl
theorem Nd.ptr_cons (n : Nd) (r : List Nd) : Nd.ptr (n :: r) = .pointer (some ⟨n.b, 0, none⟩) := rfl
def IsBlk (w : World) (b : Nat) : Prop := ∃ ca ta, w.heap[b]? = some (.cells ca ta (0, 0))
theorem IsBlk.below {w w' : World} {b : Nat} (hb : Below w.heap.size w w') (h : IsBlk w b) : IsBlk w' b := by
  obtain ⟨ca, ta, h⟩ := h
  exact ⟨ca, ta, (hb.block b (Array.getElem?_eq_some_iff.1 h).1).trans h⟩
theorem ring_info : (Tryd.prog.info? 73).map (fun i => i.size) = some 2 := by kernel_rfl
theorem neqRing {w : World} {x m : Nat} (hx : IsBlk w x) (hm : IsBlk w m) (hne : ¬ x = m) : (binOp .neq 71 (.pointer (some ⟨x, 0, none⟩)) (.pointer (some ⟨m, 0, none⟩))).run Tryd.prog w = .ok (.bool true) w := by
  obtain ⟨ca, ta, hx⟩ := hx
  obtain ⟨cb, tb, hm⟩ := hm
  have hp : Tryd.prog.underlying 71 = some (.pointer 73) := by kernel_rfl
  obtain ⟨j, hj, hz⟩ := Option.map_eq_some_iff.1 ring_info
  have hne' : (⟨x, 0, none⟩ : Addr) ≠ ⟨m, 0, none⟩ := fun e => hne (by injection e)
  have hs : j.size ≠ 0 := by rw [hz]; decide
  have h : ∀ d : Nat, (Op.equalIn (d + 1) 71 (.pointer (some ⟨x, 0, none⟩)) (.pointer (some ⟨m, 0, none⟩))).run Tryd.prog w = .ok false w := fun d => by
    simp [Op.equalIn, run_underlying hp, sizeOf, typeInfo, hj, hs, run_sameAddr_other w hne' hx hm]
  simp only [binOp]
  simp [Op.equal, Op.maxDepth, h 9999]
theorem neqRing_d {w : World} {x m : Nat} (hx : IsBlk w x) (hm : IsBlk w m) (hne : ¬ x = m) : (binOp .neq 71 (.pointer (some ⟨x, 0, none⟩)) (.pointer (some ⟨m, 0, none⟩))).run Tryd.prog w.drew = .ok (.bool true) w.drew := neqRing (w := w.drew) hx hm hne
theorem neqRing_same {w : World} {x : Nat} : (binOp .neq 71 (.pointer (some ⟨x, 0, none⟩)) (.pointer (some ⟨x, 0, none⟩))).run Tryd.prog w = .ok (.bool false) w := by
  have hp : Tryd.prog.underlying 71 = some (.pointer 73) := by kernel_rfl
  obtain ⟨j, hj, hz⟩ := Option.map_eq_some_iff.1 ring_info
  have h : ∀ d : Nat, (Op.equalIn (d + 1) 71 (.pointer (some ⟨x, 0, none⟩)) (.pointer (some ⟨x, 0, none⟩))).run Tryd.prog w = .ok true w := fun d => by
    simp [Op.equalIn, run_underlying hp, sizeOf, typeInfo, hj, run_sameAddr_same]
  simp only [binOp]
  simp [Op.equal, Op.maxDepth, h 9999]
def Chain (w : World) : List Nd → Prop
  | [] => True
  | n :: r => (w.cell? ⟨n.b, 0, none⟩ = some (.slice n.A n.l.length n.c) ∧ w.cell? ⟨n.b, 1, none⟩ = some (Nd.ptr r) ∧ Kd.C k97 w n.A n.l.length n.l ∧ n.l.length ≤ n.c ∧ IsBlk w n.b) ∧ Chain w r
theorem Chain.below {w w' : World} (hb : Below w.heap.size w w') : ∀ {ns : List Nd}, Chain w ns → Chain w' ns
  | [], _ => trivial
  | n :: r, h => ⟨⟨(hb.cell (p := ⟨n.b, 0, none⟩) (World.block_lt_of_cell? w _ h.1.1)).trans h.1.1, (hb.cell (p := ⟨n.b, 1, none⟩) (World.block_lt_of_cell? w _ h.1.2.1)).trans h.1.2.1, Kd.C_below h.1.2.2.1 hb, h.1.2.2.2.1, h.1.2.2.2.2.below hb⟩, Chain.below hb h.2⟩
def apartB : List (List S97) → Bool
  | [] => true
  | l :: r => r.all (fun m => !impl_ring_meets.any l m) && apartB r
set_option maxRecDepth 100000 in
set_option maxHeartbeats 4000000 in
theorem impl_body_apart.calls (n : Nd) (ns : List Nd) (w : World) (h : Chain w (n :: ns)) :
    Calls Tryd.prog 75 #[.pointer (some ⟨n.b, 0, none⟩)] w fun e w' => e = .returned (.bool (apartB ((n :: ns).map Nd.l))) ∧ Below w.heap.size w w' := by
  have hu3 := Tryd.underlying73
  have hu4 := Tryd.underlying76
  obtain ⟨all, hall⟩ : ∃ all, all = n :: ns := ⟨_, rfl⟩
  have hp : Value.pointer (some ⟨n.b, 0, none⟩) = Nd.ptr all := by rw [hall]; rfl
  rw [← hall] at h ⊢
  have HP := Aside0.mk hp
  have HA := Aside0.mk hall
  have HC := Aside0.mk h
  clear hp hall h
  go_enter Tryd.func75, Tryd.ntmps75
  go_wp2
  go_loopg [3] (all.length + 1) (fun kq v3 w' => ∃ rest, v3 = Nd.ptr rest ∧ kq = rest.length + 1 ∧ Chain w' rest ∧ apartB (all.map Nd.l) = apartB (rest.map Nd.l) ∧ Below w.heap.size w w')
  case atStart => exact ⟨all, HP.out, rfl, HC.out, rfl, Below.refl _ _⟩
  case round =>
    obtain ⟨rest, rfl, hk, hc, ha, hb⟩ := hrel
    cases gk with
    | zero => omega
    | succ k1 =>
      cases rest with
      | nil =>
        simp only [Nd.ptr_nil, Nd.ptr_cons]
        go_wp2
        go_ret
        exact ⟨by rw [ha]; rfl, hb⟩
      | cons m r =>
        simp only [Nd.ptr_nil, Nd.ptr_cons]
        obtain ⟨⟨c0, c1, cC⟩, hc'⟩ := hc
        go_wp2
        have HCm := Aside0.mk (show Chain wr (m :: r) from ⟨⟨c0, c1, cC⟩, hc'⟩)
        have HK := Aside0.mk hk
        have HR := Aside0.mk ha
        have HB := Aside0.mk hb
        clear c0 c1 cC hc' hk ha hb
        go_loopg [4] (r.length + 1) (fun kq v4 w' => ∃ mid, v4 = Nd.ptr mid ∧ kq = mid.length + 1 ∧ Chain w' mid ∧ Chain w' (m :: r) ∧ r.all (fun z => !impl_ring_meets.any m.l z.l) = mid.all (fun z => !impl_ring_meets.any m.l z.l) ∧ Below w.heap.size w w')
        case atStart => exact ⟨r, rfl, rfl, HCm.out.2, HCm.out, rfl, HB.out⟩
        case round =>
          clear HCm HB
          obtain ⟨mid, rfl, hk2, hcm, ⟨⟨m0, m1, mC⟩, hcr⟩, ha2, hb2⟩ := hrel
          cases gk with
          | zero => omega
          | succ k2 =>
            cases mid with
            | nil =>
              simp only [Nd.ptr_nil, Nd.ptr_cons]
              go_wp2
              go_roundg k1
              case measure => have := HK.out; simp at this; omega
              case rel => exact ⟨r, rfl, by have := HK.out; simp at this; omega, hcr, by rw [HR.out]; simp [apartB, List.all_map, Function.comp_def, ha2], hb2⟩
            | cons x mid' =>
              simp only [Nd.ptr_nil, Nd.ptr_cons]
              obtain ⟨⟨x0, x1, xC⟩, hcx⟩ := hcm
              obtain ⟨v, hv⟩ : ∃ v, impl_ring_meets.any m.l x.l = v := ⟨_, rfl⟩
              have HV := Aside0.mk hv
              have HA2 := Aside0.mk ha2
              have HK2 := Aside0.mk hk2
              have HB2 := Aside0.mk hb2
              have HMR := Aside0.mk (show Chain wr (m :: r) from ⟨⟨m0, m1, mC⟩, hcr⟩)
              have HXM := Aside0.mk (show Chain wr (x :: mid') from ⟨⟨x0, x1, xC⟩, hcx⟩)
              clear hv ha2 hk2 hb2 m0 m1 mC hcr x0 x1 xC hcx
              go_wp2_with (first | (go_at_call 96; refine (impl_ring_meets.calls m.b x.b _ _ _ _ _ _ _ HMR.out.1.2.2.1 HXM.out.1.2.2.1 HMR.out.1.1 HXM.out.1.1).mono ?_; rintro e w1 ⟨rfl, hb1⟩; rw [HV.out]; have HMR1 := Aside0.mk (Chain.below hb1 HMR.out); have HXM1 := Aside0.mk (Chain.below hb1 HXM.out); have HB3 := Aside0.mk (HB2.out.trans (hb1.mono HB2.out.size)); have x1 := HXM1.out.1.2.1; clear hb1))
              · go_ret
                rename_i hv
                refine ⟨?_, HB3.out⟩
                have e : apartB ((m :: r).map Nd.l) = false := by
                  simp only [List.map_cons, apartB, List.all_map, Function.comp_def, HA2.out, List.all_cons, HV.out, hv, Bool.not_true, Bool.false_and]
                rw [HR.out, e]; rfl
              · rename_i hv
                go_roundg k2
                case measure => have := HK2.out; simp at this; omega
                case rel => exact ⟨mid', rfl, by have := HK2.out; simp at this; omega, HXM1.out.2, HMR1.out, by rw [HA2.out, List.all_cons, HV.out, hv]; rfl, HB3.out⟩
end

end Go.Proofs.YtddbahlofgkoaaaDoor.PA
namespace Go.Proofs.YtddbahlofgkoaaaDoor.PA
open Go.RowKit Go.Proofs.YtddbahlofgkoaaaDoorW.PrintWords Go.Proofs.YtddbahlofgkoaaaDoorW.PrintLast Go.Proofs.YtddbahlofgkoaaaDoorW.PrintMore
attribute [local go_sem] max2_int min2_int max_two min_two max_three min_three max_four min_four   -- for this text's walks alone
set_option linter.unusedVariables false
set_option linter.unusedSimpArgs false

/-! ### impl_body_nested: function 76 -/
section
open Edges Go.Shelf
attribute [local go_sem] neqRing neqRing_d neqRing_same

def insF (l : List S97) (p : S97) : Int := (impl_insideOf.f l p.f0 p.f1).getD 0
theorem insF_eq (l : List S97) (p : S97) : impl_insideOf.f l p.f0 p.f1 = some (insF l p) := rfl
def hd0 (l : List S97) : S97 := rd_T97 l 0
def nestedM (n : Nd) (ns : List Nd) (m : Nd) : Bool := decide (insF n.l (hd0 m.l) = 1) && ns.all (fun x => decide (x.b = m.b) || decide (insF x.l (hd0 m.l) = -1))
def nestedN (n : Nd) (ns : List Nd) : Bool := ns.all (nestedM n ns)
def impl_body_nested.T10 : Bool × List (List Nat × List Nat) := (true, [([], []), ([], []), ([0, 1], [0, 1]), ([2], [2]), ([3], [3]), ([4, 3], [3, 4]), ([5, 3], [3, 5]), ([6, 3], [3, 6]), ([3], [3]), ([7, 8, 3, 3], [3, 7, 8]), ([9, 3], [3, 9]), ([3, 10], [3, 10])])
def impl_body_nested.B10 : List Nat := [0, 0, 3, 7, 15, 31, 63, 127, 15, 511, 1023, 2047]
theorem impl_body_nested.tab10 : rtab .any (opsOf Tryd.f76 10) = impl_body_nested.T10 := by kernel_rfl
theorem impl_body_nested.bits10 : waitsOk impl_body_nested.T10.2 impl_body_nested.B10 = true := by kernel_rfl
theorem impl_body_nested.fin4 {a b c d : Prop} (x : a ∧ b ∧ c ∧ d) : d := x.2.2.2
theorem impl_body_nested.fin6 {a b c d e f : Prop} (x : a ∧ b ∧ c ∧ d ∧ e ∧ f) : f := x.2.2.2.2.2
theorem impl_body_nested.stepB {W w1 w' : World} (h : Below W.heap.size W w1) (hb : Below w1.heap.size w1 w') : Below W.heap.size W w' := h.trans (hb.mono h.size)
set_option maxRecDepth 100000 in
set_option maxHeartbeats 4000000 in
theorem impl_body_nested.calls (n : Nd) (ns : List Nd) (w : World) (h : Chain w (n :: ns)) (hlen : ∀ m ∈ ns, 0 < m.l.length) :
    Calls Tryd.prog 76 #[.pointer (some ⟨n.b, 0, none⟩)] w fun e w' => e = .returned (.bool (nestedN n ns)) ∧ Below w.heap.size w w' := by
  have hu1 := Tryd.underlying97
  have hu3 := Tryd.underlying73
  have hu4 := Tryd.underlying76
  have HC := Aside0.mk h
  have HL := Aside0.mk hlen
  have n1 := h.1.2.1
  clear h hlen
  go_enter Tryd.func76, Tryd.ntmps76
  go_wp2
  clear n1
  go_loopg [3] (ns.length + 1) (fun kq v3 w' => ∃ rest, v3 = Nd.ptr rest ∧ kq = rest.length + 1 ∧ Chain w' rest ∧ Chain w' (n :: ns) ∧ (∀ m ∈ rest, 0 < m.l.length) ∧ nestedN n ns = rest.all (nestedM n ns) ∧ Below w.heap.size w w')
  case atStart => exact ⟨ns, rfl, rfl, HC.out.2, HC.out, HL.out, rfl, Below.refl _ _⟩
  case round =>
    obtain ⟨rest, rfl, hk, hc, hN, hl, ha, hb⟩ := hrel
    cases gk with
    | zero => omega
    | succ k1 =>
      cases rest with
      | nil =>
        simp only [Nd.ptr_nil]
        clear hc hN
        go_wp2
        go_ret
        exact ⟨by rw [ha]; rfl, hb⟩
      | cons m r =>
        simp only [Nd.ptr_cons]
        obtain ⟨⟨c0, c1, cC, cl⟩, hc'⟩ := hc
        have hm0 : 0 < m.l.length := hl m (List.mem_cons_self ..)
        obtain ⟨ad, hA, p0, p1⟩ := at_T97 cC (0 : Int) (by omega) (by omega)
        have HM := Aside0.mk (show Chain wr (m :: r) from ⟨⟨c0, c1, cC, cl⟩, hc'⟩)
        have HN := Aside0.mk hN
        have HK := Aside0.mk hk
        have HR := Aside0.mk ha
        have HB := Aside0.mk hb
        have HL2 := Aside0.mk hl
        have HM0 := Aside0.mk hm0
        rw [hA] at c0
        have q0 : wr.cell? ad = some (.int .i64 (hd0 m.l).f0) := p0
        have q1 : wr.cell? ⟨ad.block, ad.off + 1, none⟩ = some (.int .i64 (hd0 m.l).f1) := p1
        clear p0 p1 c1 cC cl hc' hN hk ha hb hl
        go_wp2
        clear c0 q0 q1
        have hBW : Below wr.heap.size wr (wr.alloc (.cells #[.int .i64 (hd0 m.l).f0, .int .i64 (hd0 m.l).f1] 97)) := (Below.refl _ wr).alloc (Nat.le_refl _) _
        have HN1 := Aside0.mk (Chain.below hBW HN.out)
        have HM1 := Aside0.mk (Chain.below hBW HM.out)
        have HB1 := Aside0.mk (HB.out.trans (hBW.mono HB.out.size))
        have HF := Aside0.mk (blk_new wr (.cells #[.int .i64 (hd0 m.l).f0, .int .i64 (hd0 m.l).f1] 97))
        have HW := Aside0.mk (show wr.heap.size < (wr.alloc (.cells #[.int .i64 (hd0 m.l).f0, .int .i64 (hd0 m.l).f1] 97)).heap.size by simp)
        obtain ⟨F, hF⟩ : ∃ F, wr.heap.size = F := ⟨_, rfl⟩
        rw [hF] at HF HW ⊢
        obtain ⟨W1, hW1⟩ : ∃ W1, wr.alloc (.cells #[.int .i64 (hd0 m.l).f0, .int .i64 (hd0 m.l).f1] 97) = W1 := ⟨_, rfl⟩
        rw [hW1] at HN1 HM1 HB1 HF HW ⊢
        clear HM HN HB hBW hW1 hF
        have KS : Aside0 (∀ w', Below W1.heap.size W1 w' → w'.cell? ⟨n.b, 0, none⟩ = some (.slice n.A n.l.length n.c) ∧ w'.cell? ⟨F, 0, none⟩ = some (.int .i64 (hd0 m.l).f0) ∧ w'.cell? ⟨F, 1, none⟩ = some (.int .i64 (hd0 m.l).f1) ∧ Below W1.heap.size W1 w') :=
          ⟨fun w' hb => ⟨(hb.cell (p := ⟨n.b, 0, none⟩) (World.block_lt_of_cell? W1 _ HN1.out.1.1)).trans HN1.out.1.1, (hb.cell (p := ⟨F, 0, none⟩) HW.out).trans (blk_cell HF.out 0), (hb.cell (p := ⟨F, 1, none⟩) HW.out).trans (blk_cell HF.out 1), hb⟩⟩
        obtain ⟨v, hv⟩ : ∃ v, insF n.l (hd0 m.l) = v := ⟨_, rfl⟩
        have HV := Aside0.mk (show impl_insideOf.f n.l (hd0 m.l).f0 (hd0 m.l).f1 = some v by rw [insF_eq, hv])
        have HV' := Aside0.mk hv
        clear hv
        go_region_held3 (fun w' => w'.cell? ⟨n.b, 0, none⟩ = some (.slice n.A n.l.length n.c) ∧ w'.cell? ⟨F, 0, none⟩ = some (.int .i64 (hd0 m.l).f0) ∧ w'.cell? ⟨F, 1, none⟩ = some (.int .i64 (hd0 m.l).f1) ∧ Below W1.heap.size W1 w') (first | assumption | (refine KS.out _ ?_; repeat (first | exact Below.refl _ _ | exact impl_body_nested.fin4 (by assumption) | exact impl_body_nested.stepB (impl_body_nested.fin4 (by assumption)) hb1 | apply below_drew1 | apply pw_below_drewN))) (first | (go_at_call 97; refine (impl_insideOf.calls n.A n.c n.l _ _ v _ ?sc HN1.out.1.2.2.2.1 HV.out).mono ?_; (case sc => refine Kd.C_below HN1.out.1.2.2.1 ?_; repeat (first | exact Below.refl _ _ | exact impl_body_nested.fin4 (by assumption) | apply below_drew1 | apply pw_below_drewN)); rintro e w1 ⟨rfl, hb1⟩))
        have hb2 : Below W1.heap.size W1 w1 := impl_body_nested.fin4 (by assumption)
        have HN2 := Aside0.mk (Chain.below hb2 HN1.out)
        have HM2 := Aside0.mk (Chain.below hb2 HM1.out)
        have HB2 := Aside0.mk (HB1.out.trans (hb2.mono HB1.out.size))
        have HF2 := Aside0.mk ((hb2.block F HW.out).trans HF.out)
        have n1 := HN2.out.1.2.1
        clear hb2 HN1 HM1 HB1 HF HW KS
        go_wp2
        · rename_i hv1
          go_ret
          refine ⟨?_, HB2.out⟩
          have e : (m :: r).all (nestedM n ns) = false := by
            rw [List.all_cons, nestedM, HV'.out]
            simp only [bne_iff_ne, ne_eq] at hv1
            rw [decide_eq_false hv1]; rfl
          rw [HR.out, e]; rfl
        · rename_i hv1
          clear n1
          have HV1 := Aside0.mk (show v = 1 by simpa using hv1)
          clear hv1
          go_loopg [5] (ns.length + 1) (fun kq v5 w' => ∃ mid, v5 = Nd.ptr mid ∧ kq = mid.length + 1 ∧ Chain w' mid ∧ Chain w' (n :: ns) ∧ Chain w' (m :: r) ∧ w'.heap[F]? = some (.cells #[.int .i64 (hd0 m.l).f0, .int .i64 (hd0 m.l).f1] 97 (0, 0)) ∧ ns.all (fun x => decide (x.b = m.b) || decide (insF x.l (hd0 m.l) = -1)) = mid.all (fun x => decide (x.b = m.b) || decide (insF x.l (hd0 m.l) = -1)) ∧ Below w.heap.size w w')
          case atStart => exact ⟨ns, rfl, rfl, HN2.out.2, HN2.out, HM2.out, HF2.out, rfl, HB2.out⟩
          case round =>
            clear HN2 HM2 HB2 HF2
            obtain ⟨mid, rfl, hk2, hcx, hN, hM, hF, ha2, hb2⟩ := hrel
            have HN := Aside0.mk hN
            have HM := Aside0.mk hM
            have HF := Aside0.mk hF
            have HA2 := Aside0.mk ha2
            have HB2 := Aside0.mk hb2
            have HK2 := Aside0.mk hk2
            clear hN hM hF ha2 hb2 hk2
            cases gk with
            | zero => have := HK2.out; omega
            | succ k2 =>
              cases mid with
              | nil =>
                simp only [Nd.ptr_nil]
                have m1 := HM.out.1.2.1
                clear hcx
                go_wp2
                go_roundg k1
                case measure => have := HK.out; simp at this; omega
                case rel =>
                  refine ⟨r, rfl, by have := HK.out; simp at this; omega, HM.out.2, HN.out, fun z hz => HL2.out z (List.mem_cons_of_mem _ hz), ?_, HB2.out⟩
                  rw [HR.out, List.all_cons, nestedM, HV'.out, HV1.out, HA2.out]; simp
              | cons x mid' =>
                simp only [Nd.ptr_cons]
                have HX := Aside0.mk hcx
                clear hcx
                obtain ⟨u, hu⟩ : ∃ u, insF x.l (hd0 m.l) = u := ⟨_, rfl⟩
                have HU := Aside0.mk (show impl_insideOf.f x.l (hd0 m.l).f0 (hd0 m.l).f1 = some u by rw [insF_eq, hu])
                have HU' := Aside0.mk hu
                clear hu
                have KS : Aside0 (∀ w', Below wr.heap.size wr w' → w'.cell? ⟨x.b, 0, none⟩ = some (.slice x.A x.l.length x.c) ∧ w'.cell? ⟨F, 0, none⟩ = some (.int .i64 (hd0 m.l).f0) ∧ w'.cell? ⟨F, 1, none⟩ = some (.int .i64 (hd0 m.l).f1) ∧ Below wr.heap.size wr w') :=
                  ⟨fun w' hb => ⟨(hb.cell (p := ⟨x.b, 0, none⟩) (World.block_lt_of_cell? wr _ HX.out.1.1)).trans HX.out.1.1, (hb.cell (p := ⟨F, 0, none⟩) (World.block_lt_of_cell? wr _ (blk_cell HF.out 0))).trans (blk_cell HF.out 0), (hb.cell (p := ⟨F, 1, none⟩) (World.block_lt_of_cell? wr _ (blk_cell HF.out 1))).trans (blk_cell HF.out 1), hb⟩⟩
                have bx := HX.out.1.2.2.2.2
                have bm := HM.out.1.2.2.2.2
                by_cases hxb : x.b = m.b
                · have x1 : wr.cell? ⟨m.b, 1, none⟩ = some (Nd.ptr mid') := by rw [← hxb]; exact HX.out.1.2.1
                  rw [hxb]
                  go_wp2
                  refine start_ (n := 12) (S := fun _ => True) (ds := []) #[false, false, false, false, false, false, false, false, false, false, false, false] (by kernel_rfl) rfl rfl trivial (fun hHeld => ?_)
                  refine with_tabW impl_body_nested.tab10 impl_body_nested.bits10 (fun HT_ HW_ => ?_)
                  refine pu_ HT_.out 0 42 {} ?_; refine pu_ HT_.out 1 43 {} ?_; refine pu_ HT_.out 2 44 {} ?_; refine pu_ HT_.out 3 45 {} ?_; refine pv_ HT_.out 4 46 {} ?_; refine pv_ HT_.out 5 47 {} ?_; refine pv_ HT_.out 6 48 {} ?_; refine pv_ HT_.out 7 49 {} ?_; refine pv_ HT_.out 8 50 {} ?_; refine pv_ HT_.out 9 51 {} ?_; refine pv_ HT_.out 10 52 {} ?_; refine pu_ HT_.out 11 53 {} ?_
                  refine done_ (done_of HT_.out (by kernel_rfl)) ?_
                  clear HT_ HW_ hHeld
                  all_goals
                    go_wp2
                    have hb3 : Below wr.heap.size wr wr.drew := (Below.refl _ wr).drew
                    have HN3 := Aside0.mk (Chain.below hb3 HN.out)
                    have HM3 := Aside0.mk (Chain.below hb3 HM.out)
                    have HX3 := Aside0.mk (Chain.below hb3 HX.out)
                    have HB3 := Aside0.mk (HB2.out.trans (hb3.mono HB2.out.size))
                    have HF3 := Aside0.mk ((hb3.block F (Array.getElem?_eq_some_iff.1 HF.out).1).trans HF.out)
                    clear hb3 x1 bx bm
                    go_roundg k2
                    case measure => have := HK2.out; simp at this; omega
                    case rel => exact ⟨mid', rfl, by have := HK2.out; simp at this; omega, HX3.out.2, HN3.out, HM3.out, HF3.out, by rw [HA2.out, List.all_cons]; simp [hxb], HB3.out⟩
                · have KS2 : Aside0 (∀ w', Below wr.heap.size wr w' → w'.cell? ⟨x.b, 0, none⟩ = some (.slice x.A x.l.length x.c) ∧ w'.cell? ⟨F, 0, none⟩ = some (.int .i64 (hd0 m.l).f0) ∧ w'.cell? ⟨F, 1, none⟩ = some (.int .i64 (hd0 m.l).f1) ∧ IsBlk w' x.b ∧ IsBlk w' m.b ∧ Below wr.heap.size wr w') :=
                    ⟨fun w' hb => ⟨(KS.out w' hb).1, (KS.out w' hb).2.1, (KS.out w' hb).2.2.1, IsBlk.below hb bx, IsBlk.below hb bm, hb⟩⟩
                  clear KS
                  go_wp2
                  go_region_held3 (fun w' => w'.cell? ⟨x.b, 0, none⟩ = some (.slice x.A x.l.length x.c) ∧ w'.cell? ⟨F, 0, none⟩ = some (.int .i64 (hd0 m.l).f0) ∧ w'.cell? ⟨F, 1, none⟩ = some (.int .i64 (hd0 m.l).f1) ∧ IsBlk w' x.b ∧ IsBlk w' m.b ∧ Below wr.heap.size wr w') (first | assumption | (refine KS2.out _ ?_; repeat (first | exact Below.refl _ _ | exact impl_body_nested.fin6 (by assumption) | exact impl_body_nested.stepB (impl_body_nested.fin6 (by assumption)) hb1 | apply below_drew1 | apply pw_below_drewN))) (first | (go_at_call 97; refine (impl_insideOf.calls x.A x.c x.l _ _ u _ ?sc HX.out.1.2.2.2.1 HU.out).mono ?_; (case sc => refine Kd.C_below HX.out.1.2.2.1 ?_; repeat (first | exact Below.refl _ _ | exact impl_body_nested.fin6 (by assumption) | apply below_drew1 | apply pw_below_drewN)); rintro e w1 ⟨rfl, hb1⟩))
                  have hb3 : Below wr.heap.size wr w1 := impl_body_nested.fin6 (by assumption)
                  have HN3 := Aside0.mk (Chain.below hb3 HN.out)
                  have HM3 := Aside0.mk (Chain.below hb3 HM.out)
                  have HX3 := Aside0.mk (Chain.below hb3 HX.out)
                  have HB3 := Aside0.mk (HB2.out.trans (hb3.mono HB2.out.size))
                  have HF3 := Aside0.mk ((hb3.block F (Array.getElem?_eq_some_iff.1 HF.out).1).trans HF.out)
                  clear hb3
                  have x1 := HX3.out.1.2.1
                  clear bx bm
                  go_wp2
                  · rename_i hu1
                    go_ret
                    refine ⟨?_, HB3.out⟩
                    have e : (m :: r).all (nestedM n ns) = false := by
                      rw [List.all_cons, nestedM, HA2.out, List.all_cons, HU'.out, decide_eq_false hxb]
                      simp only [bne_iff_ne, ne_eq] at hu1
                      rw [decide_eq_false hu1]; simp
                    rw [HR.out, e]; rfl
                  · rename_i hu1
                    have hu2 : u = -1 := by simpa using hu1
                    go_roundg k2
                    case measure => have := HK2.out; simp at this; omega
                    case rel => exact ⟨mid', rfl, by have := HK2.out; simp at this; omega, HX3.out.2, HN3.out, HM3.out, HF3.out, by rw [HA2.out, List.all_cons]; simp [HU'.out, hu2], HB3.out⟩
end

end Go.Proofs.YtddbahlofgkoaaaDoor.PA
namespace Go.Proofs.YtddbahlofgkoaaaDoor.PA
open Go.RowKit Go.Proofs.YtddbahlofgkoaaaDoorW.PrintWords Go.Proofs.YtddbahlofgkoaaaDoorW.PrintLast Go.Proofs.YtddbahlofgkoaaaDoorW.PrintMore
attribute [local go_sem] max2_int min2_int max_two min_two max_three min_three max_four min_four   -- for this text's walks alone
set_option linter.unusedVariables false
set_option linter.unusedSimpArgs false

/-! ### impl_bodyOf: function 44 -/
section
open Edges Go.Shelf
attribute [local go_sem] Oper.semAt_some
/-- The holes' places among each other, of two holes at most. -/
def nestP (l : List S97) : List (List S97) → Bool
  | [] => true
  | [a] => decide (insF l (hd0 a) = 1)
  | [a, b] => (decide (insF l (hd0 a) = 1) && decide (insF b (hd0 a) = -1)) && (decide (insF l (hd0 b) = 1) && decide (insF a (hd0 b) = -1))
  | _ => false
theorem nestedN_P (n : Nd) : ∀ ns : List Nd, ns.length ≤ 2 → (ns.map Nd.b).Nodup → nestedN n ns = nestP n.l (ns.map Nd.l)
  | [], _, _ => rfl
  | [a], _, _ => by simp [nestedN, nestedM, nestP]
  | [a, b], _, h => by
    have hab : ¬ a.b = b.b := by simpa using h
    have hba : ¬ b.b = a.b := fun e => hab e.symm
    simp [nestedN, nestedM, nestP, hab, hba]
  | _ :: _ :: _ :: _, h, _ => by simp at h
def bodyOk (l : List S97) (hs : List (List S97)) : Bool :=
  decide (hs.length ≤ 2) && (impl_LoopOk.all l && (hs.all impl_LoopOk.all && (apartB (l :: hs) && nestP l hs)))
def edgeRow (l : List S97) : List impl_LoopOk.E := upto l l.length
def bodyEdges (ls : List (List S97)) : List impl_LoopOk.E := ls.flatMap edgeRow
def bodyRows (pre : List impl_LoopOk.E) : List Value := pre.flatMap fun x => [.int .i64 x.2.1.f0, .int .i64 x.2.1.f1, .int .i64 x.2.2.f0, .int .i64 x.2.2.f1]
theorem bodyOk_no1 {l : List S97} {hs : List (List S97)} (h : ¬ hs.length ≤ 2) : bodyOk l hs = false := by rw [bodyOk, decide_eq_false h]; rfl
theorem bodyOk_no2 {l : List S97} {hs : List (List S97)} (h : impl_LoopOk.all l = false) : bodyOk l hs = false := by rw [bodyOk, h]; simp
theorem bodyOk_no3 {l : List S97} {hs : List (List S97)} {i : Nat} (hi : i < hs.length) (h : impl_LoopOk.all (rd_L6 hs i) = false) : bodyOk l hs = false := by
  have : hs.all impl_LoopOk.all = false := by
    rw [List.all_eq_false]
    refine ⟨hs[i], List.getElem_mem hi, ?_⟩
    rw [rd_L6, Int.toNat_natCast, List.getD_eq_getElem?_getD, List.getElem?_eq_getElem hi, Option.getD_some] at h
    rw [h]; decide
  rw [bodyOk, this]; simp
/-- What is behind the first loop: the body's block g, the variable's block v. -/
structure Lay (w W : World) (g : Nat) (A0 : Option Addr) (c0 : Nat) (l0 : List S97) (l1 : List (List S97)) (i : Nat) (last : Value) : Prop where
  below : Below w.heap.size w W
  var : Boxed W (g + 1) 65 (.pointer (some ⟨g, 0, none⟩))
  st : (i = 0 ∧ last = .pointer (some ⟨g, 0, none⟩) ∧ W.heap[g]? = some (.cells #[.slice A0 l0.length c0, .pointer none, .slice none 0 0] 76 (0, 0))) ∨
    (i = 1 ∧ ∃ r1 A1 c1, g + 1 < r1 ∧ last = .pointer (some ⟨r1, 0, none⟩) ∧ W.heap[g]? = some (.cells #[.slice A0 l0.length c0, .pointer (some ⟨r1, 0, none⟩), .slice none 0 0] 76 (0, 0)) ∧
      W.heap[r1]? = some (.cells #[.slice A1 (rd_L6 l1 0).length c1, .pointer none] 73 (0, 0)) ∧ Kd.C k97 w A1 (rd_L6 l1 0).length (rd_L6 l1 0) ∧ (rd_L6 l1 0).length ≤ c1) ∨
    (i = 2 ∧ ∃ r1 A1 c1 r2 A2 c2, g + 1 < r1 ∧ r1 < r2 ∧ last = .pointer (some ⟨r2, 0, none⟩) ∧ W.heap[g]? = some (.cells #[.slice A0 l0.length c0, .pointer (some ⟨r1, 0, none⟩), .slice none 0 0] 76 (0, 0)) ∧
      W.heap[r1]? = some (.cells #[.slice A1 (rd_L6 l1 0).length c1, .pointer (some ⟨r2, 0, none⟩)] 73 (0, 0)) ∧ Kd.C k97 w A1 (rd_L6 l1 0).length (rd_L6 l1 0) ∧ (rd_L6 l1 0).length ≤ c1 ∧
      W.heap[r2]? = some (.cells #[.slice A2 (rd_L6 l1 1).length c2, .pointer none] 73 (0, 0)) ∧ Kd.C k97 w A2 (rd_L6 l1 1).length (rd_L6 l1 1) ∧ (rd_L6 l1 1).length ≤ c2)
theorem take_all {l : List (List S97)} {p : List S97 → Bool} {i : Nat} (hi : i < l.length) (h : (l.take i).all p = true) (hp : p (rd_L6 l i) = true) : (l.take (i + 1)).all p = true := by
  rw [rd_L6, Int.toNat_natCast, List.getD_eq_getElem?_getD, List.getElem?_eq_getElem hi, Option.getD_some] at hp
  rw [List.take_add_one, List.getElem?_eq_getElem hi, List.all_append, h]; simp [hp]
def Rings (W : World) : List Nd → Prop
  | [] => True
  | m :: r => W.heap[m.b]? = some (.cells #[.slice m.A m.l.length m.c, Nd.ptr r] 73 (0, 0)) ∧ Rings W r
theorem Rings.mono {W W' : World} : ∀ {ns : List Nd}, (∀ m ∈ ns, W'.heap[m.b]? = W.heap[m.b]?) → Rings W ns → Rings W' ns
  | [], _, _ => trivial
  | m :: _, h, hr => ⟨(h m (List.mem_cons_self ..)).trans hr.1, Rings.mono (fun x hx => h x (List.mem_cons_of_mem _ hx)) hr.2⟩
theorem Rings.lt {W : World} : ∀ {ns : List Nd}, Rings W ns → ∀ m ∈ ns, m.b < W.heap.size
  | _ :: _, hr, m, hm => by
    rcases List.mem_cons.1 hm with rfl | hm
    · exact (Array.getElem?_eq_some_iff.1 hr.1).1
    · exact Rings.lt hr.2 m hm
theorem Rings.blk {W : World} : ∀ {ns : List Nd}, Rings W ns → ∀ m ∈ ns, ∃ cs, W.heap[m.b]? = some (.cells cs 73 (0, 0))
  | _ :: _, hr, m, hm => by
    rcases List.mem_cons.1 hm with rfl | hm
    · exact ⟨_, hr.1⟩
    · exact Rings.blk hr.2 m hm
theorem Rings.below {W W' : World} {ns : List Nd} (h : Rings W ns) (hb : Below W.heap.size W W') : Rings W' ns := h.mono fun m hm => hb.block _ (h.lt m hm)
theorem rings_own {β : Type} (ns : List Nd) : Own (fun (_ : β) W => Rings W ns) := fun _ X Y row hs hg hrow => hs.mono fun m hm => hg.block _ (hs.lt m hm) (fun e' => by
  obtain ⟨cs, hc⟩ := hs.blk m hm
  obtain ⟨o, ho, hc'⟩ := hrow m.b e'.symm
  rw [hc] at ho; cases ho; cases hc')
/-- What the holes' loops are read of: the points as they came in. -/
def Ins (w : World) (g : Nat) (ns : List Nd) : Prop := ∀ m ∈ ns, g + 1 < m.b ∧ Kd.C k97 w m.A m.l.length m.l ∧ m.l.length ≤ m.c
theorem Rings.chain {w W : World} {g : Nat} (hb : Below w.heap.size w W) : ∀ {ns : List Nd}, Ins w g ns → Rings W ns → Chain W ns
  | [], _, _ => trivial
  | m :: r, hi, hr => ⟨⟨blk_cell hr.1 0, blk_cell hr.1 1, Kd.C_below (hi m (List.mem_cons_self ..)).2.1 hb, (hi m (List.mem_cons_self ..)).2.2, _, _, hr.1⟩, Rings.chain hb (fun x hx => hi x (List.mem_cons_of_mem _ hx)) hr.2⟩
theorem Chain.drop {W : World} {m : Nd} {r : List Nd} : ∀ {pre : List Nd}, Chain W (pre ++ m :: r) → Chain W (m :: r)
  | [], h => h
  | _ :: _, h => Chain.drop h.2
theorem blk_not_row {W : World} {B t e : Nat} {cs : Array Value} (h : W.heap[B]? = some (.cells cs t (0, 0))) (hte : t ≠ e) {base size k : Nat} {v : Value} {xs : List Value} (hr : W.ownsRow base e size v k xs) : some B ≠ v.ownBlock := by
  rcases hr.2 with ⟨rfl, _⟩ | ⟨g, cap, cur, rfl, _, hgb, _⟩
  · simp [Value.ownBlock]
  · intro e'
    obtain rfl : B = g := by simpa [Value.ownBlock] using e'
    have := h.symm.trans hgb
    simp at this
    exact hte this.2
theorem holds3_own {β : Type} (n₀ g : Nat) (t e : TypeId) (f0 f1 : Value) (size : Nat) (k : β → Nat) (f : β → List Value) : Own (fun s W => ∃ v, W.heap[g]? = some (.cells #[f0, f1, v] t (0, 0)) ∧ W.ownsRow n₀ e size v (k s) (f s)) := by
  rintro s X Y row ⟨v, hv, hr⟩ hg hrow
  refine ⟨v, (hg.block g (Array.getElem?_eq_some_iff.1 hv).1 (fun e' => ?_)).trans hv, hr.kept hg ?_⟩
  · obtain ⟨o, ho, hc⟩ := hrow g e'.symm
    rw [hv] at ho; cases ho; cases hc
  · rcases hr.2 with ⟨rfl, _⟩ | ⟨q, cap, cur, rfl, _, hgb, _⟩
    · exact .inl rfl
    · refine .inr fun e' => ?_
      obtain ⟨o, ho, hc⟩ := hrow q (by simpa [Value.ownBlock] using e'.symm)
      rw [hgb] at ho; cases ho; cases hc
theorem Lay.chain {w W : World} {g : Nat} {A0 : Option Addr} {c0 : Nat} {l0 : List S97} {l1 : List (List S97)} {last : Value} (h : Lay w W g A0 c0 l0 l1 l1.length last)
    (hr0 : Kd.C k97 w A0 l0.length l0) (hc0 : l0.length ≤ c0) :
    ∃ ns, Chain W (⟨g, A0, c0, l0⟩ :: ns) ∧ ns.map Nd.l = l1 ∧ (ns.map Nd.b).Nodup ∧ ns.length ≤ 2 ∧ W.heap[g]? = some (.cells #[.slice A0 l0.length c0, Nd.ptr ns, .slice none 0 0] 76 (0, 0)) ∧ Rings W ns ∧ Ins w g ns := by
  rcases h.st with ⟨e, _, hG⟩ | ⟨e, r1, A1, c1, h1, _, hG, hR, hC, hc⟩ | ⟨e, r1, A1, c1, r2, A2, c2, h1, h12, _, hG, hR, hC, hc, hR2, hC2, hc2⟩
  · obtain rfl : l1 = [] := List.eq_nil_of_length_eq_zero e
    exact ⟨[], ⟨⟨blk_cell hG 0, blk_cell hG 1, Kd.C_below hr0 h.below, hc0, _, _, hG⟩, trivial⟩, rfl, by simp, by simp, hG, trivial, by simp [Ins]⟩
  · obtain ⟨a, rfl⟩ := List.length_eq_one_iff.1 e
    refine ⟨[⟨r1, A1, c1, a⟩], ⟨⟨blk_cell hG 0, blk_cell hG 1, Kd.C_below hr0 h.below, hc0, _, _, hG⟩, ⟨blk_cell hR 0, blk_cell hR 1, Kd.C_below hC h.below, hc, _, _, hR⟩, trivial⟩, rfl, by simp, by simp, hG, ⟨hR, trivial⟩, fun m hm => ?_⟩
    obtain rfl := List.mem_singleton.1 hm
    exact ⟨h1, hC, hc⟩
  · obtain ⟨a, b, rfl⟩ : ∃ a b, l1 = [a, b] := by match l1, e with | [a, b], _ => exact ⟨a, b, rfl⟩
    refine ⟨[⟨r1, A1, c1, a⟩, ⟨r2, A2, c2, b⟩], ⟨⟨blk_cell hG 0, blk_cell hG 1, Kd.C_below hr0 h.below, hc0, _, _, hG⟩, ⟨blk_cell hR 0, blk_cell hR 1, Kd.C_below hC h.below, hc, _, _, hR⟩, ⟨blk_cell hR2 0, blk_cell hR2 1, Kd.C_below hC2 h.below, hc2, _, _, hR2⟩, trivial⟩, rfl, by simp; omega, by simp, hG, ⟨hR, hR2, trivial⟩, fun m hm => ?_⟩
    rcases List.mem_cons.1 hm with rfl | hm
    · exact ⟨h1, hC, hc⟩
    · obtain rfl := List.mem_singleton.1 hm
      exact ⟨by show g + 1 < r2; omega, hC2, hc2⟩
def markOf (D : Nat) : Deferred := { target := .collected D, args := #[] }
/-- The marks that the ranges have left. -/
def Marks (n₀ : Nat) (Ds : List Nat) (W : World) : Prop := Ds.Nodup ∧ ∀ D ∈ Ds, n₀ ≤ D ∧ W.heap[D]? = some (.deferred (some []))
theorem leaves_marks {F : Fence} {n : Nat} {P : Program} {fn : Func} {tmps : Array Value} {R : Ending → World → Prop} {n₀ : Nat} (St : World → Prop)
    (hput : ∀ W D, n₀ ≤ D → W.heap[D]? = some (.deferred (some [])) → St W → St (W.putObj D (.deferred none))) (hend : ∀ W, St W → LeavesIn F n P fn tmps R [] .returning W) :
    ∀ (Ds : List Nat) (W : World), Marks n₀ Ds W → St W → LeavesInM F n P fn tmps R (Ds.map markOf) .returning W
  | [], W, _, h => hend W h
  | D :: Ds, W, hm, h => ⟨by simp, .inl ⟨D, _, rfl, run_takeDeferred (hm.2 D (List.mem_cons_self ..)).2, leaves_marks St hput hend Ds _ ⟨(List.nodup_cons.1 hm.1).2, fun D' h' => ⟨(hm.2 D' (List.mem_cons_of_mem _ h')).1,
      (World.putObj_heap_other (fun e => (List.nodup_cons.1 hm.1).1 (by first | exact e ▸ h' | exact e.symm ▸ h'))).trans (hm.2 D' (List.mem_cons_of_mem _ h')).2⟩⟩ (hput W D (hm.2 D (List.mem_cons_self ..)).1 (hm.2 D (List.mem_cons_self ..)).2 h)⟩⟩
theorem wpAnyIn_inv {F : Fence} {n : Nat} {P : Program} {md : Region.Mode} {ops : Array Oper} {Q : Exit → Act → World → Prop} (Inv : Array Bool → Act → World → Prop)
    (hdone : ∀ L a w, Inv L a w → Region.ready md ops L = [] → Q .normal a w)
    (hstep : ∀ L a w i, Inv L a w → i ∈ Region.ready md ops L → wpOpIn F n P ops Q i (Inv (L.setIfInBounds i true)) a w) :
    ∀ (fuel : Nat) (L : Array Bool) (a : Act) (w : World), L.toList.count false ≤ fuel → (∀ i, L.getD i true = false → i < L.size) → Inv L a w → wpAnyIn F n P md ops Q fuel L a w
  | 0, L, a, w, hc, hs, h => by
    have hr : Region.ready md ops L = [] := by
      rw [List.eq_nil_iff_forall_not_mem]
      intro j hj
      have h1 := (mem_ready.1 hj).1
      have h2 := hs j h1
      have h3 : L[j] = false := by simpa [h2] using h1
      have h4 : false ∈ L.toList := by rw [← h3]; simp
      have := List.count_pos_iff.2 h4
      omega
    exact ⟨hr, hdone L a w h hr⟩
  | fuel + 1, L, a, w, hc, hs, h => by
    refine ⟨hdone L a w h, fun i hi => wpOpIn_mono (fun a' w' h' => wpAnyIn_inv Inv hdone hstep fuel _ a' w' ?_ ?_ h') (hstep L a w i h hi)⟩
    · have h1 := (mem_ready.1 hi).1
      have h2 := hs i h1
      have h3 : L[i] = false := by simpa [h2] using h1
      have h4 := List.count_set (a := true) (b := false) (l := L.toList) (i := i) (by simpa using h2)
      simp only [Array.toList_setIfInBounds]
      have h5 : (L.toList[i]'(by simpa using h2)) = false := by rw [Array.getElem_toList]; exact h3
      rw [h4, h5]
      rw [if_pos (by decide), if_neg (by decide)]; omega
    · intro j hj
      by_cases e : i = j
      · subst e
        have h2 := hs i (mem_ready.1 hi).1
        simp [h2] at hj
      · have h2 := hs j (by rw [getD_set_ne true e] at hj; exact hj)
        simpa using h2
theorem ownsRow_alloc {X : World} {base e size k : Nat} {v : Value} {xs : List Value} {o : Obj} (h : X.ownsRow base e size v k xs) : (X.drew.alloc o).ownsRow base e size v k xs := World.ownsRow.alloc (w := X.drew) h o
theorem wpIn_append_own {F : Fence} {n : Nat} {P : Program} (w : World) {o : Oper} {a : Act} {K : Act → World → Prop} {Q : Exit → Act → World → Prop}
    (s x : Operand) (t : TypeId) (hop : o.op = Op.call { callee := Callee.builtin Builtin.append, args := #[s, x], argTypes := #[t, t] })
    (base : Nat) (e : TypeId) (i : TypeInfo) (z : Value) (size bytes : Nat) (h1 : P.underlying t = some (.slice e)) (h2 : P.info? e = some i) (h3 : i.zero = some z) (h4 : i.size = size) (h5 : i.bytes = bytes) (h6 : z.cells.size = size) (h7 : 0 < size)
    (v : Value) (k : Nat) (xs : List Value) (hs : a.eval s = v) (hown : w.ownsRow base e size v k xs) (ad : Addr) (m c : Nat) (news : List Value) (hx : a.eval x = .slice (some ad) m c) (hn : news.length = m * size)
    (hc : ∀ j u, news[j]? = some u → w.cell? (ad.add j) = some u) (h1c : ∀ u ∈ news, u.oneCell' = true) (b1 : k + m ≤ maxLen) (b2 : (k + m) * bytes ≤ 140737488355328) (b3 : base ≤ w.heap.size)
    (hK : ∀ v' w', w'.ownsRow base e size v' (k + m) (xs ++ news) → w.grownBy w' v.ownBlock → (v' = .slice none 0 0 ↔ v = .slice none 0 0 ∧ m = 0) → K (a.put o.dst v') w') : o.wpIn F n P a w K Q := by
  obtain ⟨v', w', hrun, r1, r2, r3⟩ := run_append_own (P := P) w base t o.type e i z size bytes h1 h2 h3 h4 h5 h6 h7 v k xs hown ad m c news hn hc h1c b1 b2 b3
  unfold Oper.wpIn
  refine ⟨?_, ?_⟩
  · simp [Oper.about, hop, resolve, Target.leads, Sem.run_pure]
  · rw [Oper.semAt_plain F _ _ (by rw [hop]; intro c hc'; cases hc')]
    simp [execOp, hop, resolve, invoke, builtin, hs, hx, hrun, Result.andThen]
    exact hK _ _ r1 r2 r3
theorem bodyEdges_len : ∀ (ls : List (List S97)), (∀ l ∈ ls, l.length ≤ 8) → (bodyEdges ls).length ≤ 8 * ls.length
  | [], _ => by simp [bodyEdges]
  | l :: r, h => by
    have h1 := bodyEdges_len r (fun x hx => h x (List.mem_cons_of_mem _ hx))
    have h2 := h l (List.mem_cons_self ..)
    have e : bodyEdges (l :: r) = upto l l.length ++ bodyEdges r := by simp [bodyEdges, edgeRow]
    rw [e, List.length_append, upto_length, List.length_cons]; omega
theorem marks_own {β : Type} {B : Nat} : ∀ {Ds : List Nat}, (∀ D ∈ Ds, D < B) → OwnFrom B (fun (_ : β) X => ∀ D ∈ Ds, X.heap[D]? = some (.deferred (some []))) := fun h s X Y row hs hg hr D hD =>
  old_own (h D hD) _ s X Y row (hs D hD) hg hr
/-- Where a round of the last loop stands: ahead of what is to be appended, behind it, behind append, behind the store. -/
def Ph (n₀ g : Nat) (X : World) (v : Value) (k : Nat) (xs row : List Value) (sg : Array Value) (b6 b7 b10 : Bool) (s80 s81 : Value) (w' : World) : Prop :=
  (b6 = false ∧ b7 = false ∧ b10 = false ∧ w' = X.drew) ∨ (b6 = true ∧ b7 = false ∧ b10 = false ∧ w' = X.drew.alloc (.cells sg 107) ∧ s80 = .slice (some ⟨X.heap.size, 0, none⟩) 1 1) ∨
  (b6 = true ∧ b7 = true ∧ b10 = false ∧ w'.ownsRow n₀ 107 4 s81 (k + 1) (xs ++ row) ∧ (X.drew.alloc (.cells sg 107)).grownBy w' v.ownBlock) ∨
  (b6 = true ∧ b7 = true ∧ b10 = true ∧ ∃ w4, w4.ownsRow n₀ 107 4 s81 (k + 1) (xs ++ row) ∧ (X.drew.alloc (.cells sg 107)).grownBy w4 v.ownBlock ∧ w' = w4.setCell ⟨g, 2, none⟩ s81)
theorem grown_blk {X Y : World} {v : Value} {n₀ k B t : Nat} {cs : Array Value} {xs : List Value} {o : Obj} (hB : X.heap[B]? = some (.cells cs t (0, 0))) (ht : t ≠ 107) (ho : X.ownsRow n₀ 107 4 v k xs) (hg : (X.drew.alloc o).grownBy Y v.ownBlock) : Y.heap[B]? = some (.cells cs t (0, 0)) := by
  have h1 : (X.drew.alloc o).heap[B]? = some (.cells cs t (0, 0)) := blk_alloc (w := X.drew) hB o
  exact (hg.block B (Array.getElem?_eq_some_iff.1 h1).1 (blk_not_row hB ht ho)).trans h1
theorem body_appended {X w1 : World} {n₀ g : Nat} {f0 f1 v v' : Value} {k m : Nat} {xs ys : List Value} {tmp : Array Value} (hv : X.heap[g]? = some (.cells #[f0, f1, v] 76 (0, 0))) (hB : n₀ ≤ g)
    (hrow : X.ownsRow n₀ 107 4 v k xs) (hn₀ : n₀ ≤ X.heap.size) (hown' : w1.ownsRow n₀ 107 4 v' m ys) (hgrow : (X.drew.alloc (.cells tmp 107)).grownBy w1 v.ownBlock) :
    (w1.setCell ⟨g, 2, none⟩ v').heap[g]? = some (.cells #[f0, f1, v'] 76 (0, 0)) ∧ (w1.setCell ⟨g, 2, none⟩ v').ownsRow n₀ 107 4 v' m ys ∧ KeepsOthers X (w1.setCell ⟨g, 2, none⟩ v') ∧ Below n₀ X (w1.setCell ⟨g, 2, none⟩ v') := by
  have hv1 := grown_blk hv (by decide) hrow hgrow
  have gs : ∀ (Y : World) (u : Value), Y.grownBy (Y.setCell ⟨g, 2, none⟩ u) (some g) := fun Y u => ⟨rfl, rfl, rfl, (KeepsWalks.setCell Y _ u).size, fun k _ hk => Below.heap_setCell _ _ _ k (fun e => hk (by rw [e]))⟩
  refine ⟨blk_put hv1 2 _ rfl, hown'.kept (gs w1 v') (.inr (blk_not_row hv1 (by decide) hown').symm), ?_, ?_⟩
  · refine ((KeepsOthers.drew X).trans ((KeepsOthers.alloc X.drew (.cells tmp 107)).trans (KeepsOthers.of_grownBy hgrow fun j o ej hj => ?_))).trans (KeepsOthers.setCell _ _ _)
    rcases (ownsRow_alloc (o := .cells tmp 107) hrow).2 with ⟨rfl, _⟩ | ⟨q, cap, cur, rfl, _, hgb, _⟩
    · simp [Value.ownBlock] at ej
    · obtain rfl : q = j := by simpa [Value.ownBlock] using ej
      rw [hgb] at hj; cases hj; rfl
  · refine ((((Below.refl n₀ X).drew.alloc hn₀ (.cells tmp 107)).grown hgrow (by simp; omega) fun j ej => ?_).setCell (p := ⟨g, 2, none⟩) hB v')
    rcases hrow.2 with ⟨rfl, _⟩ | ⟨q, cap, cur, rfl, hb, _, _⟩
    · simp [Value.ownBlock] at ej
    · obtain rfl : q = j := by simpa [Value.ownBlock] using ej
      exact hb
theorem Ph.look {n₀ g : Nat} {X w' : World} {v s80 s81 : Value} {k : Nat} {xs row : List Value} {sg : Array Value} {b6 b7 b10 : Bool} (h : Ph n₀ g X v k xs row sg b6 b7 b10 s80 s81 w') (h10 : b10 = false) (ho : X.ownsRow n₀ 107 4 v k xs)
    {B t : Nat} {cs : Array Value} (hB : X.heap[B]? = some (.cells cs t (0, 0))) (ht : t ≠ 107) : w'.heap[B]? = some (.cells cs t (0, 0)) := by
  rcases h with ⟨_, _, _, rfl⟩ | ⟨_, _, _, rfl, _⟩ | ⟨_, _, _, h1, h2⟩ | ⟨_, _, h, _⟩
  · exact hB
  · exact blk_alloc (w := X.drew) hB _
  · exact grown_blk hB ht ho h2
  · rw [h10] at h; cases h
theorem rounds_ind {F : Fence} {n : Nat} {P : Program} {c : Code} {Q : Exit → Act → World → Prop} (I : Nat → Act → World → Prop) (h0 : ∀ a w, I 0 a w → c.wpIn F n P (Exit.then (fun _ _ => False) Q) a w)
    (hs : ∀ k a w, I (k + 1) a w → c.wpIn F n P (Exit.then (I k) Q) a w) : ∀ k a w, I k a w → Code.roundsIn F n P c Q (k + 1) a w
  | 0, a, w, h => h0 a w h
  | k + 1, a, w, h => Code.wpIn_mono (fun e a' w' q => by cases e <;> first | exact rounds_ind I h0 hs k _ _ q | exact q) (hs k a w h)
set_option maxRecDepth 100000 in
set_option maxHeartbeats 8000000 in
theorem impl_bodyOf.calls (A0 : Option Addr) (c0 : Nat) (l0 : List S97) (A1 : Option Addr) (c1 : Nat) (l1 : List (List S97)) (w : World)
    (hr0 : Kd.C k97 w A0 l0.length l0) (hc0 : l0.length ≤ c0) (hr1 : Kd.C (Kd.slice 97 k97) w A1 l1.length l1) (hc1 : l1.length ≤ c1) :
    Calls Tryd.prog 44 #[.agg #[.slice A0 l0.length c0, .slice A1 l1.length c1]] w fun e w' =>
      ∃ v, e = .returned (.tuple #[v, .bool (bodyOk l0 l1)]) ∧ Below w.heap.size w w' ∧ (bodyOk l0 l1 = true → ∃ n ns ev, v = .pointer (some ⟨n.b, 0, none⟩) ∧ n.l = l0 ∧ ns.map Nd.l = l1 ∧ Chain w' (n :: ns) ∧ w'.cell? ⟨n.b, 2, none⟩ = some ev ∧
        w'.ownsRow w.heap.size 107 4 ev (bodyEdges (l0 :: l1)).length (bodyRows (bodyEdges (l0 :: l1)))) := by
  refine (callsIn_wide (n := 8)).1 ?_
  have hu1 := Tryd.underlying97
  have hu2 := Tryd.underlying107
  have hu3 := Tryd.underlying73
  have hu4 := Tryd.underlying76
  have hu5 := Tryd.underlying31
  refine callsIn_of_wp_marks Tryd.func44 rfl trivial ?_ rfl
  simp only [Tryd.ntmps44, List.size_toArray, List.length_cons, List.length_nil, Nat.reduceAdd, Nat.reduceSub, Array.replicate_succ, Array.replicate_zero, List.push_toArray, List.append_toArray, List.nil_append, List.cons_append]
  obtain ⟨i0, hi0, hz0, hz1, hz2⟩ := info_parts info107
  have hu31 : Tryd.prog.underlying 74 = some (.slice 107) := by kernel_rfl
  have HI := Aside0.mk (And.intro hi0 (And.intro hz0 (And.intro hz1 hz2)))
  clear hi0 hz0 hz1 hz2
  by_cases h2 : l1.length ≤ 2
  · obtain ⟨b, hb⟩ : ∃ b, impl_LoopOk.all l0 = b := ⟨_, rfl⟩
    have HB := Aside0.mk hb
    have hd : decide ((2 : Int) < (l1.length : Int)) = false := decide_eq_false (by omega)
    have hbf : impl_LoopOk.f l0 = some b := by rw [impl_LoopOk.f, hb]
    clear hb
    cases b
    · gi_wp2_with (first | (refine ⟨trivial, ?_⟩; gi_at_call 30; refine (callsIn_wide.2 (impl_LoopOk.calls _ _ _ _ _ (Kd.C_below hr0 ((Below.refl _ w).alloc (Nat.le_refl _) _)) hc0 hbf)).mono ?_; rintro e w1 ⟨rfl, hb1⟩))
      exact ⟨.tuple #[.pointer none, .bool false], by simp [results, Tryd.f44, go_sem], .pointer none, by rw [bodyOk_no2 HB.out], ((Below.refl _ w).alloc (Nat.le_refl _) _).trans (hb1.mono (by simp)), fun h => by rw [bodyOk_no2 HB.out] at h; cases h⟩
    · gi_wp2_with (first | (refine ⟨trivial, ?_⟩; gi_at_call 30; refine (callsIn_wide.2 (impl_LoopOk.calls _ _ _ _ _ (Kd.C_below hr0 ((Below.refl _ w).alloc (Nat.le_refl _) _)) hc0 hbf)).mono ?_; rintro e w1 ⟨rfl, hb1⟩; have bP := blk_below (blk_new w (.cells #[.slice A0 l0.length c0, .slice A1 l1.length c1] 31)) hb1; have cP0 : w1.cell? ⟨w.heap.size, 0, none⟩ = some (.slice A0 l0.length c0) := blk_cell bP 0; have cP1 : w1.cell? ⟨w.heap.size, 1, none⟩ = some (.slice A1 l1.length c1) := blk_cell bP 1; have cP1' : ∀ o o', ((w1.alloc o).alloc o').cell? ⟨w.heap.size, 1, none⟩ = some (.slice A1 l1.length c1) := fun o o' => blk_cell (blk_alloc (blk_alloc bP o) o') 1; have hlt1 := hb1.size; simp only [World.size_alloc] at hlt1))
      clear cP0 cP1 cP1' hbf hd
      have hw1 : Below w.heap.size w w1 := ((Below.refl _ w).alloc (Nat.le_refl _) _).trans (hb1.mono (by simp))
      have hL0 : Lay w ((w1.alloc (.cells #[.slice A0 l0.length c0, .pointer none, .slice none 0 0] 76)).alloc (.cells #[.pointer (some ⟨w1.heap.size, 0, none⟩)] 65)) w1.heap.size A0 c0 l0 l1 0 (.pointer (some ⟨w1.heap.size, 0, none⟩)) :=
        ⟨(hw1.alloc hw1.size _).alloc (by simp; omega) _, by have := Boxed.new (w1.alloc (.cells #[.slice A0 l0.length c0, .pointer none, .slice none 0 0] 76)) 65 (.pointer (some ⟨w1.heap.size, 0, none⟩)); simpa only [World.size_alloc] using this, .inl ⟨rfl, rfl, blk_alloc (blk_new w1 _) _⟩⟩
      obtain ⟨g, hg⟩ : ∃ g, w1.heap.size = g := ⟨_, rfl⟩
      have hgl : w.heap.size < g := by omega
      rw [hg] at hL0 ⊢
      obtain ⟨W0, hW0⟩ : ∃ W0, (w1.alloc (.cells #[.slice A0 l0.length c0, .pointer none, .slice none 0 0] 76)).alloc (.cells #[.pointer (some ⟨g, 0, none⟩)] 65) = W0 := ⟨_, rfl⟩
      rw [hW0] at hL0 ⊢
      clear hW0 hg hw1 hb1 bP hlt1
      gi_loopw [5, 32] (fun v5 v32 wr => ∃ i : Nat, i ≤ l1.length ∧ v32 = .int .i64 i ∧ (l1.take i).all impl_LoopOk.all = true ∧ Lay w wr g A0 c0 l0 l1 i v5)
        (fun _ v32 _ => l1.length - (intOf v32).toNat)
      case atStart => exact ⟨0, Nat.zero_le _, rfl, rfl, hL0⟩
      case round =>
        clear hL0
        obtain ⟨i, hi, rfl, hall, hL⟩ := hrel
        by_cases hlt : i < l1.length
        · obtain ⟨ad, Ah, ch, rfl, hx, hlh, hch⟩ := at_L6 hr1 (i : Int) (by omega) (by omega)
          rw [Int.toNat_natCast] at hx
          have hxr : wr.cell? (ad.add i) = some (.slice Ah (rd_L6 l1 i).length ch) := (hL.below.cell (World.block_lt_of_cell? w _ hx)).trans hx
          have hCr := Kd.C_below hch hL.below
          obtain ⟨b, hb⟩ : ∃ b, impl_LoopOk.all (rd_L6 l1 i) = b := ⟨_, rfl⟩
          have HB2 := Aside0.mk hb
          have hbf : impl_LoopOk.f (rd_L6 l1 i) = some b := by rw [impl_LoopOk.f, hb]
          clear hb hx
          have hsz := hL.below.size
          cases b
          · gi_wp2_with (first | (refine ⟨trivial, ?_⟩; gi_at_call 30; refine (callsIn_wide.2 (impl_LoopOk.calls _ _ _ _ _ hCr hlh hbf)).mono ?_; rintro e w2 ⟨rfl, hb2⟩))
            exact ⟨.tuple #[.pointer none, .bool false], by simp [results, Tryd.f44, go_sem], .pointer none, by rw [bodyOk_no3 hlt HB2.out], hL.below.trans (hb2.mono hsz), fun h => by rw [bodyOk_no3 hlt HB2.out] at h; cases h⟩
          · rcases hL.st with ⟨rfl, rfl, hG⟩ | ⟨rfl, r1, A2, c2, hr1', rfl, hG, hR1, hC1, hc1'⟩ | ⟨rfl, _⟩
            · rw [Addr.add_zero'] at hxr
              gi_wp2_with (first | (refine ⟨trivial, ?_⟩; gi_at_call 30; refine (callsIn_wide.2 (impl_LoopOk.calls _ _ _ _ _ hCr hlh hbf)).mono ?_; rintro e w2 ⟨rfl, hb2⟩; have hG2 := blk_below hG hb2; have k1 : ∀ o, (w2.alloc o).cell? ⟨g, 1, none⟩ = some (.pointer none) := fun o => blk_cell (blk_alloc hG2 o) 1; have f1 : ∀ o, (w2.alloc o).frozen? ⟨g, 1, none⟩ = false := fun o => blk_frozen (blk_alloc hG2 o) 1))
              have hv2 : Boxed w2 (g + 1) 65 _ := (hb2.block _ hL.var.lt).trans hL.var
              have hlt2 := hv2.lt
              have hbw := hL.below.trans (hb2.mono hsz)
              refine ⟨⟨1, by omega, rfl, take_all hlt hall HB2.out, ⟨(hbw.alloc hbw.size _).setCell (p := ⟨g, 1, none⟩) (by simp; omega) _, (Below.heap_setCell _ _ _ _ (by simp)).trans (hv2.alloc _), .inr (.inl ⟨rfl, w2.heap.size, Ah, ch, hlt2, rfl, blk_put (blk_alloc hG2 _) 1 _ rfl, (Below.heap_setCell _ _ _ _ (by simp; omega)).trans (blk_new w2 _), hch, hlh⟩)⟩⟩, by simp [intOf]; omega⟩
            · rw [show ad.add 1 = ⟨ad.block, ad.off + 1, none⟩ from rfl] at hxr
              gi_wp2_with (first | (refine ⟨trivial, ?_⟩; gi_at_call 30; refine (callsIn_wide.2 (impl_LoopOk.calls _ _ _ _ _ hCr hlh hbf)).mono ?_; rintro e w2 ⟨rfl, hb2⟩; have hR2 := blk_below hR1 hb2; have k1 : ∀ o, (w2.alloc o).cell? ⟨r1, 1, none⟩ = some (.pointer none) := fun o => blk_cell (blk_alloc hR2 o) 1; have f1 : ∀ o, (w2.alloc o).frozen? ⟨r1, 1, none⟩ = false := fun o => blk_frozen (blk_alloc hR2 o) 1))
              have hv2 : Boxed w2 (g + 1) 65 _ := (hb2.block _ hL.var.lt).trans hL.var
              have hlt2 := (Array.getElem?_eq_some_iff.1 hR2).1
              have hbw := hL.below.trans (hb2.mono hsz)
              have hG2 := blk_below hG hb2
              refine ⟨⟨2, by omega, rfl, take_all hlt hall HB2.out, ⟨(hbw.alloc hbw.size _).setCell (p := ⟨r1, 1, none⟩) (by simp; omega) _, (Below.heap_setCell _ _ _ _ (by simp; omega)).trans (hv2.alloc _), .inr (.inr ⟨rfl, r1, A2, c2, w2.heap.size, Ah, ch, hr1', hlt2, rfl, (Below.heap_setCell _ _ _ _ (by simp; omega)).trans (blk_alloc hG2 _), blk_put (blk_alloc hR2 _) 1 _ rfl, hC1, hc1', (Below.heap_setCell _ _ _ _ (by simp; omega)).trans (blk_new w2 _), hch, hlh⟩)⟩⟩, by simp [intOf]; omega⟩
            · omega
        · obtain rfl : i = l1.length := by omega
          have hall' : l1.all impl_LoopOk.all = true := by rwa [List.take_length] at hall
          obtain ⟨ns, hCh, hns, hnd, hn2, hG, hRi, hm⟩ := hL.chain hr0 hc0
          have hV := hL.var.cell
          have hmap : (⟨g, A0, c0, l0⟩ :: ns : List Nd).map Nd.l = l0 :: l1 := by rw [List.map_cons, hns]
          have hlen : ∀ m ∈ ns, 0 < m.l.length := fun m hm' => by
            have h1 : impl_LoopOk.all m.l = true := List.all_eq_true.1 hall' _ (hns ▸ List.mem_map_of_mem hm')
            simp only [impl_LoopOk.all, Bool.and_eq_true, decide_eq_true_eq] at h1
            omega
          have h8 : ∀ q ∈ (⟨g, A0, c0, l0⟩ :: ns : List Nd), q.l.length ≤ 8 := fun q hq => by
            have h1 : impl_LoopOk.all q.l = true := by
              rcases List.mem_cons.1 hq with rfl | hq
              · exact HB.out
              · exact List.all_eq_true.1 hall' _ (hns ▸ List.mem_map_of_mem hq)
            simp only [impl_LoopOk.all, Bool.and_eq_true, decide_eq_true_eq] at h1
            omega
          have H8 := Aside0.mk (And.intro h8 hn2)
          clear h8
          have HALL := Aside0.mk hall'
          have HMAP := Aside0.mk hmap
          have HNS := Aside0.mk hns
          have HM := Aside0.mk hm
          clear hall' hmap hns hm hall hi
          obtain ⟨a, ha⟩ : ∃ a, apartB ((⟨g, A0, c0, l0⟩ :: ns : List Nd).map Nd.l) = a := ⟨_, rfl⟩
          have hsz := hL.below.size
          cases a
          · have hno : bodyOk l0 l1 = false := by rw [HMAP.out] at ha; rw [bodyOk, ha]; simp
            gi_wp2_with (first | (refine ⟨trivial, ?_⟩; gi_at_call 75; refine (callsIn_wide.2 (impl_body_apart.calls ⟨g, A0, c0, l0⟩ ns wr hCh)).mono ?_; rintro e w3 ⟨rfl, hb3⟩; rw [ha]; have hCh3 := Aside0.mk (Chain.below hb3 hCh); have hV3 : w3.cell? ⟨g + 1, 0, none⟩ = some (.pointer (some ⟨g, 0, none⟩)) := Boxed.cell (show Boxed w3 (g + 1) 65 (.pointer (some ⟨g, 0, none⟩)) from (hb3.block _ hL.var.lt).trans hL.var)) | (refine ⟨trivial, ?_⟩; skip))
            exact ⟨.tuple #[.pointer none, .bool false], by simp [results, Tryd.f44, go_sem], .pointer none, by rw [hno], hL.below.trans (hb3.mono hsz), fun h => by rw [hno] at h; cases h⟩
          · obtain ⟨d, hnn⟩ : ∃ d, nestedN ⟨g, A0, c0, l0⟩ ns = d := ⟨_, rfl⟩
            cases d
            · have hno : bodyOk l0 l1 = false := by rw [nestedN_P _ _ hn2 hnd, HNS.out] at hnn; rw [bodyOk, hnn]; simp
              gi_wp2_with (first | (refine ⟨trivial, ?_⟩; gi_at_call 75; refine (callsIn_wide.2 (impl_body_apart.calls ⟨g, A0, c0, l0⟩ ns wr hCh)).mono ?_; rintro e w3 ⟨rfl, hb3⟩; rw [ha]; have hCh3 := Aside0.mk (Chain.below hb3 hCh); have hV3 : w3.cell? ⟨g + 1, 0, none⟩ = some (.pointer (some ⟨g, 0, none⟩)) := Boxed.cell (show Boxed w3 (g + 1) 65 (.pointer (some ⟨g, 0, none⟩)) from (hb3.block _ hL.var.lt).trans hL.var)) | (refine ⟨trivial, ?_⟩; gi_at_call 76; refine (callsIn_wide.2 (impl_body_nested.calls ⟨g, A0, c0, l0⟩ ns w3 hCh3.out hlen)).mono ?_; rintro e w4 ⟨rfl, hb4⟩; rw [hnn]; have hV4 : w4.cell? ⟨g + 1, 0, none⟩ = some (.pointer (some ⟨g, 0, none⟩)) := Boxed.cell (show Boxed w4 (g + 1) 65 (.pointer (some ⟨g, 0, none⟩)) from (hb4.block _ (Nat.lt_of_lt_of_le hL.var.lt hb3.size)).trans ((hb3.block _ hL.var.lt).trans hL.var))))
              exact ⟨.tuple #[.pointer none, .bool false], by simp [results, Tryd.f44, go_sem], .pointer none, by rw [hno], (hL.below.trans (hb3.mono hsz)).trans (hb4.mono (Nat.le_trans hsz hb3.size)), fun h => by rw [hno] at h; cases h⟩
            · have hyes : bodyOk l0 l1 = true := by rw [nestedN_P _ _ hn2 hnd, HNS.out] at hnn; rw [HMAP.out] at ha; rw [bodyOk, HB.out, HALL.out, ha, hnn, decide_eq_true h2]; rfl
              gi_wp2_with (first | (refine ⟨trivial, ?_⟩; gi_at_call 75; refine (callsIn_wide.2 (impl_body_apart.calls ⟨g, A0, c0, l0⟩ ns wr hCh)).mono ?_; rintro e w3 ⟨rfl, hb3⟩; rw [ha]; have hCh3 := Aside0.mk (Chain.below hb3 hCh); have hV3 : w3.cell? ⟨g + 1, 0, none⟩ = some (.pointer (some ⟨g, 0, none⟩)) := Boxed.cell (show Boxed w3 (g + 1) 65 (.pointer (some ⟨g, 0, none⟩)) from (hb3.block _ hL.var.lt).trans hL.var)) | (refine ⟨trivial, ?_⟩; gi_at_call 76; refine (callsIn_wide.2 (impl_body_nested.calls ⟨g, A0, c0, l0⟩ ns w3 hCh3.out hlen)).mono ?_; rintro e w4 ⟨rfl, hb4⟩; rw [hnn]; have hV4 : w4.cell? ⟨g + 1, 0, none⟩ = some (.pointer (some ⟨g, 0, none⟩)) := Boxed.cell (show Boxed w4 (g + 1) 65 (.pointer (some ⟨g, 0, none⟩)) from (hb4.block _ (Nat.lt_of_lt_of_le hL.var.lt hb3.size)).trans ((hb3.block _ hL.var.lt).trans hL.var))))
              have hV4b : Boxed w4 (g + 1) 65 (.pointer (some ⟨g, 0, none⟩)) := (hb4.block _ (Nat.lt_of_lt_of_le hL.var.lt hb3.size)).trans ((hb3.block _ hL.var.lt).trans hL.var)
              have hG4 := blk_below (blk_below hG hb3) hb4
              have hR4 := (hRi.below hb3).below hb4
              have hW4 := (hL.below.trans (hb3.mono hsz)).trans (hb4.mono (Nat.le_trans hsz hb3.size))
              have HY := Aside0.mk hyes
              clear hyes hnn ha hV4 hV3 hV hb3 hb4 hG hRi hCh3 hCh hsz hnd hn2 hlen HALL h2 hL
              obtain ⟨all, hal⟩ : ∃ all : List Nd, all = ⟨g, A0, c0, l0⟩ :: ns := ⟨_, rfl⟩
              have HAL := Aside0.mk hal
              have hptr : Value.pointer (some ⟨g, 0, none⟩) = Nd.ptr all := by rw [hal]; rfl
              have HPT := Aside0.mk hptr
              have hmapA : all.map Nd.l = l0 :: l1 := by rw [hal]; exact HMAP.out
              have HMA := Aside0.mk hmapA
              clear hmapA hptr hal
              refine wpIn_loop_rounds (all.length + 1) (rounds_ind (fun kq a W => ∃ (Ds : List Nat) (pre rest : List Nd) (x10 x61 x62 x63 x64 x65 x66 x67 x68 x69 x70 x71 x72 x73 x74 x75 x76 x77 x78 x79 x80 x81 x82 x83 : Value), a = { tmps := #[.agg #[.slice A0 l0.length c0, .slice A1 l1.length c1], .pointer (some ⟨w.heap.size, 0, none⟩), u2, u3, .pointer (some ⟨g + 1, 0, none⟩), u5, undef, u7, Nd.ptr rest, undef, x10, .pointer (some ⟨w.heap.size, 1, none⟩), .slice A1 l1.length c1, .int .i64 (l1.length : Int), .bool false, .bool false, .pointer (some ⟨w.heap.size, 0, none⟩), .slice A0 l0.length c0, .bool true, .bool false, .bool false, .pointer (some ⟨w.heap.size, 0, none⟩), .slice A0 l0.length c0, .agg #[.slice A0 l0.length c0, .pointer none], .agg #[.slice A0 l0.length c0, .pointer none, .slice none 0 0], .pointer (some ⟨g, 0, none⟩), .pointer (some ⟨g, 0, none⟩), .pointer (some ⟨g, 0, none⟩), .pointer (some ⟨g, 0, none⟩), .pointer (some ⟨w.heap.size, 1, none⟩), .slice A1 l1.length c1, .int .i64 (l1.length : Int), .int .i64 (l1.length : Int), .bool false, u34, u35, u36, u37, u38, u39, u40, u41, u42, u43, u44, u45, u46, u47, u48, u49, .pointer (some ⟨g, 0, none⟩), .bool true, .bool false, .bool false, .pointer (some ⟨g, 0, none⟩), .bool true, .bool false, .bool false, .pointer (some ⟨g, 0, none⟩), .pointer (some ⟨g, 0, none⟩), .pointer (some ⟨g, 0, none⟩), x61, x62, x63, x64, x65, x66, x67, x68, x69, x70, x71, x72, x73, x74, x75, x76, x77, x78, x79, x80, x81, x82, x83, undef], defers := Ds.map markOf } ∧ kq = rest.length ∧ all = pre ++ rest ∧ Below w.heap.size w W ∧ Boxed W (g + 1) 65 (.pointer (some ⟨g, 0, none⟩)) ∧ Rings W ns ∧
                  (∃ ev, W.heap[g]? = some (.cells #[.slice A0 l0.length c0, Nd.ptr ns, ev] 76 (0, 0)) ∧ W.ownsRow w.heap.size 107 4 ev (bodyEdges (pre.map Nd.l)).length (bodyRows (bodyEdges (pre.map Nd.l)))) ∧ Marks w.heap.size Ds W) ?zero ?succ all.length _ _ ?start)
              case start => exact ⟨[], [], all, _, _, _, _, _, _, _, _, _, _, _, _, _, _, _, _, _, _, _, _, _, _, _, _, by rw [← HPT.out]; rfl, rfl, rfl, hW4, hV4b, hR4, ⟨_, hG4, World.ownsRow_nil _ _ _ _⟩, by simp [Marks]⟩
              case zero =>
                clear hW4 hV4b hR4 hG4
                rintro a W ⟨Ds, pre, rest, x10, x61, x62, x63, x64, x65, x66, x67, x68, x69, x70, x71, x72, x73, x74, x75, x76, x77, x78, x79, x80, x81, x82, x83, rfl, hk, hpr, hB, hV, hR, ⟨ev, hG, ho⟩, hD⟩
                obtain rfl : rest = [] := List.eq_nil_of_length_eq_zero hk.symm
                have hp : pre = all := by rw [hpr, List.append_nil]
                clear hpr hk
                subst hp
                have hV0 := hV.cell
                have HR := Aside0.mk hR
                simp only [Nd.ptr_nil]
                gi_wp2
                rw [HMA.out] at ho
                refine leaves_marks (n₀ := w.heap.size) (fun W => Below w.heap.size w W ∧ Rings W ns ∧ ∃ ev, W.heap[g]? = some (.cells #[.slice A0 l0.length c0, Nd.ptr ns, ev] 76 (0, 0)) ∧ W.ownsRow w.heap.size 107 4 ev (bodyEdges (l0 :: l1)).length (bodyRows (bodyEdges (l0 :: l1)))) ?_ ?_ Ds _ hD ⟨hB, HR.out, ev, hG, ho⟩
                · rintro W D hn hDd ⟨hB, hR, ev, hG, ho⟩
                  refine ⟨hB.trans (belowK_b (w := w) (Nat.le_refl _) W D _ _ hn hDd rfl rfl), hR.mono (fun m hmm => World.putObj_heap_other (fun e => ?_)), ev, (World.putObj_heap_other (fun e => ?_)).trans hG, ownsRow_putObj ho _ hDd rfl⟩
                  · obtain ⟨cs, hc⟩ := hR.blk m hmm
                    rw [e, hDd] at hc; cases hc
                  · rw [e, hDd] at hG; cases hG
                · rintro W ⟨hB, hR, ev, hG, ho⟩
                  exact ⟨.tuple #[.pointer (some ⟨g, 0, none⟩), .bool true], by simp [results, Tryd.f44, go_sem], .pointer (some ⟨g, 0, none⟩), by rw [HY.out], hB, fun _ => ⟨⟨g, A0, c0, l0⟩, ns, ev, rfl, rfl, HNS.out, ⟨⟨blk_cell hG 0, blk_cell hG 1, Kd.C_below hr0 hB, hc0, _, _, hG⟩, Rings.chain hB HM.out hR⟩, blk_cell hG 2, ho⟩⟩
              case succ =>
                clear hW4 hV4b hR4 hG4
                rintro k a W ⟨Ds, pre, rest, x10, x61, x62, x63, x64, x65, x66, x67, x68, x69, x70, x71, x72, x73, x74, x75, x76, x77, x78, x79, x80, x81, x82, x83, rfl, hk, hpr, hB, hV, hR, ⟨ev, hG, ho⟩, hD⟩
                cases rest with
                | nil => simp at hk
                | cons m r =>
                  have hCA : Chain W all := by rw [HAL.out]; exact ⟨⟨blk_cell hG 0, blk_cell hG 1, Kd.C_below hr0 hB, hc0, _, _, hG⟩, Rings.chain hB HM.out hR⟩
                  rw [hpr] at hCA
                  have hcell := (Chain.drop hCA).1.1
                  have hcel1 := (Chain.drop hCA).1.2.1
                  have hcm := (Chain.drop hCA).1.2.2.2.1
                  have hCw : Kd.C k97 w m.A m.l.length m.l := by
                    have hmem : m ∈ all := by rw [hpr]; simp
                    rw [HAL.out] at hmem
                    rcases List.mem_cons.1 hmem with rfl | h
                    · exact hr0
                    · exact (HM.out m h).2.1
                  have HP := Aside0.mk hpr
                  have HK := Aside0.mk hk
                  have HD := Aside0.mk hD
                  clear hCA hpr hk hD
                  simp only [Nd.ptr_cons]
                  gi_wp2_with (first | (refine ⟨trivial, ?_⟩; gi_at_call 64; refine (all_in _ _ _ _ _).mono ?_; rintro e w5 ⟨rfl, rfl⟩))
                  have hm8 : m.l.length ≤ 8 ∧ (bodyEdges (pre.map Nd.l)).length ≤ 24 := by
                    have h1 : ∀ q ∈ pre ++ m :: r, q.l.length ≤ 8 := by rw [← HP.out, HAL.out]; exact H8.out.1
                    have h2 := bodyEdges_len (pre.map Nd.l) (fun l hl => by obtain ⟨q, hq, rfl⟩ := List.mem_map.1 hl; exact h1 q (List.mem_append_left _ hq))
                    have h3 := congrArg List.length (HP.out.symm.trans HAL.out)
                    have h4 := H8.out.2
                    simp only [List.length_append, List.length_cons, List.length_map] at h2 h3
                    exact ⟨h1 m (by simp), by omega⟩
                  have hlW : ∀ D ∈ Ds, D < W.heap.size := fun D h => (Array.getElem?_eq_some_iff.1 (HD.out.2 D h).2).1
                  have hBr := hB.alloc hB.size (.cells #[.slice m.A m.l.length m.c] 28)
                  have hVr := hV.alloc (.cells #[.slice m.A m.l.length m.c] 28)
                  have hRr : Rings (W.alloc (.cells #[.slice m.A m.l.length m.c] 28)) ns := hR.mono fun q hq => Below.heap_alloc W _ _ (hR.lt q hq)
                  have hGr := blk_alloc hG (.cells #[.slice m.A m.l.length m.c] 28)
                  have hor := ho.alloc (.cells #[.slice m.A m.l.length m.c] 28)
                  have hDr : ∀ D ∈ Ds, (W.alloc (.cells #[.slice m.A m.l.length m.c] 28)).heap[D]? = some (.deferred (some [])) := fun D h => (Below.heap_alloc W _ _ (hlW D h)).trans (HD.out.2 D h).2
                  have bN := Boxed.new W 28 (.slice m.A m.l.length m.c)
                  have hszr : (W.alloc (.cells #[.slice m.A m.l.length m.c] 28)).heap.size = W.heap.size + 1 := by simp
                  have hwW := hB.size
                  have hgB : g + 1 < W.heap.size := hV.lt
                  obtain ⟨Bn, hBn⟩ : ∃ Bn, W.heap.size = Bn := ⟨_, rfl⟩
                  obtain ⟨Wr, hWr⟩ : ∃ Wr, W.alloc (.cells #[.slice m.A m.l.length m.c] 28) = Wr := ⟨_, rfl⟩
                  rw [hBn] at bN hszr hlW hwW hgB ⊢
                  rw [hWr] at hBr hVr hRr hGr hor hDr bN hszr ⊢
                  clear hWr hBn hB hV hR hG ho hcell hcel1
                  refine wpIn_rangeFunc_ownH rfl (by decide) (gf := 91) (lb := #[.pointer (some ⟨Bn, 0, none⟩)]) rfl trivial (enters_of Tryd.func91 (by kernel_rfl) rfl)
                    (all_stops 7 (by decide) Bn w.heap.size w m.A m.c m.l hCw (Nat.le_refl _) Wr hBr bN) Kp_t (Kp_b (by omega) (by omega)) (Below.refl _ _) (fun _ => rfl)
                    (fun (pr : List impl_LoopOk.E) (X : World) => (((((∃ v, X.heap[g]? = some (.cells #[.slice A0 l0.length c0, Nd.ptr ns, v] 76 (0, 0)) ∧ X.ownsRow w.heap.size 107 4 v (bodyEdges (pre.map Nd.l) ++ pr).length (bodyRows (bodyEdges (pre.map Nd.l) ++ pr))) ∧ Boxed X (g + 1) 65 (.pointer (some ⟨g, 0, none⟩))) ∧ Rings X ns) ∧ (∀ D ∈ Ds, X.heap[D]? = some (.deferred (some [])))) ∧ Boxed X Bn 28 (.slice m.A m.l.length m.c)) ∧ Below w.heap.size w X)
                    (fun _ _ _ => False)
                    (OwnFrom.and (OwnFrom.and (OwnFrom.and (OwnFrom.and (OwnFrom.and (Own.from (holds3_own _ _ _ _ _ _ _ (fun pr : List impl_LoopOk.E => (bodyEdges (pre.map Nd.l) ++ pr).length) (fun pr => bodyRows (bodyEdges (pre.map Nd.l) ++ pr))) _) (Own.from (boxed_own _ _ _) _)) (Own.from (rings_own _) _)) (marks_own (fun D h => by have := hlW D h; omega))) (Own.from (boxed_own _ _ _) _)) (ownFrom_below (Nat.le_refl _) (by omega)))
                    (fun _ _ _ _ _ hs _ _ => hs)
                    ⟨⟨⟨⟨⟨⟨ev, hGr, by rw [List.append_nil]; exact hor⟩, hVr⟩, hRr⟩, hDr⟩, bN⟩, hBr⟩
                    (fun x a' X => ∃ Bx, X.heap[Bx]? = some (.cells (seg x.2.1 x.2.2) 107 (0, 0)) ∧ a' = { tmps := #[.agg #[.slice A0 l0.length c0, .slice A1 l1.length c1], .pointer (some ⟨w.heap.size, 0, none⟩), u2, u3, .pointer (some ⟨g + 1, 0, none⟩), u5, undef, u7, .pointer (some ⟨m.b, 0, none⟩), undef, .pointer (some ⟨Bx, 0, none⟩), .pointer (some ⟨w.heap.size, 1, none⟩), .slice A1 l1.length c1, .int .i64 (l1.length : Int), .bool false, .bool false, .pointer (some ⟨w.heap.size, 0, none⟩), .slice A0 l0.length c0, .bool true, .bool false, .bool false, .pointer (some ⟨w.heap.size, 0, none⟩), .slice A0 l0.length c0, .agg #[.slice A0 l0.length c0, .pointer none], .agg #[.slice A0 l0.length c0, .pointer none, .slice none 0 0], .pointer (some ⟨g, 0, none⟩), .pointer (some ⟨g, 0, none⟩), .pointer (some ⟨g, 0, none⟩), .pointer (some ⟨g, 0, none⟩), .pointer (some ⟨w.heap.size, 1, none⟩), .slice A1 l1.length c1, .int .i64 (l1.length : Int), .int .i64 (l1.length : Int), .bool false, u34, u35, u36, u37, u38, u39, u40, u41, u42, u43, u44, u45, u46, u47, u48, u49, .pointer (some ⟨g, 0, none⟩), .bool true, .bool false, .bool false, .pointer (some ⟨g, 0, none⟩), .bool true, .bool false, .bool false, .pointer (some ⟨g, 0, none⟩), .pointer (some ⟨g, 0, none⟩), .pointer (some ⟨g, 0, none⟩), .pointer (some ⟨m.b, 0, none⟩), .bool true, x63, x64, x65, x66, .pointer (some ⟨m.b, 0, none⟩), .pointer (some ⟨m.b, 0, none⟩), .pointer (some ⟨m.b, 0, none⟩), .slice m.A m.l.length m.c, .func (.func 91) #[] #[.pointer (some ⟨Bn, 0, none⟩)], .int .i64 (x.1 : Int), .agg (seg x.2.1 x.2.2), x74, x75, x76, x77, x78, x79, x80, x81, x82, x83, undef], defers := [] })
                    (fun x a' _ X Y row hs hg hr => by obtain ⟨Bx, h2, h3⟩ := hs; exact ⟨Bx, blk_own Bx 107 (fun (_ : Unit) => seg x.2.1 x.2.2) () X Y row h2 hg (fun r e => (hr r e).2), h3⟩)
                    ?assign ?body ?done ?stop
                  case assign =>
                    rintro l pr x X K ⟨⟨⟨⟨⟨⟨v, bG, ho1⟩, bV⟩, bR⟩, bD⟩, bN1⟩, hB1⟩ hK
                    simp only [enc, seg]
                    gi_wp2
                    exact hK _ _ ((KeepsOthers.alloc _ _).from _) ⟨(Below.refl _ X).alloc hB1.size _, fun o e => blk_alloc e _⟩ ⟨⟨⟨⟨⟨⟨v, blk_alloc bG _, ho1.alloc _⟩, bV.alloc _⟩, bR.mono fun q hq => Below.heap_alloc X _ _ (bR.lt q hq)⟩, fun D h => (Below.heap_alloc X _ _ (Array.getElem?_eq_some_iff.1 (bD D h)).1).trans (bD D h)⟩, bN1.alloc _⟩, hB1.alloc hB1.size _⟩ ⟨X.heap.size, World.alloc_heap_new X _, rfl⟩
                  case stop =>
                    rintro D c pr X _ _ h _
                    exact h.elim
                  case done =>
                    rintro D zs X hD rfl ⟨⟨⟨⟨⟨⟨v, bG, ho1⟩, bV⟩, bR⟩, bD⟩, bN1⟩, hB1⟩ hKD
                    have hCA : Chain X all := by rw [HAL.out]; exact ⟨⟨blk_cell bG 0, blk_cell bG 1, Kd.C_below hr0 hB1, hc0, _, _, bG⟩, Rings.chain hB1 HM.out bR⟩
                    rw [HP.out] at hCA
                    have hcel1 := (Chain.drop hCA).1.2.1
                    clear hCA
                    gi_wp2
                    refine ⟨D :: Ds, pre ++ [m], r, _, _, _, _, _, _, _, _, _, _, _, _, _, _, _, _, _, _, _, _, _, _, _, _, rfl, by have := HK.out; simp at this; omega, by rw [HP.out]; simp, hB1, bV, bR, ⟨v, bG, ?_⟩, List.nodup_cons.2 ⟨fun h => ?_, HD.out.1⟩, fun D' h' => ?_⟩
                    · have e : bodyEdges ((pre ++ [m]).map Nd.l) = bodyEdges (pre.map Nd.l) ++ upto m.l m.l.length := by simp [bodyEdges, edgeRow]
                      rw [e]; exact ho1
                    · have := hlW D h; omega
                    · rcases List.mem_cons.1 h' with rfl | h'
                      · exact ⟨by omega, hKD⟩
                      · exact ⟨(HD.out.2 D' h').1, bD D' h'⟩
                  case body =>
                    rintro l pr x a' X hl ⟨q, hq⟩ ⟨⟨⟨⟨⟨⟨v, bG, ho1⟩, bV⟩, bR⟩, bD⟩, bN1⟩, hB1⟩ ⟨Bx, bX, rfl⟩ hlt
                    obtain ⟨xi, ⟨xa, xb⟩, ⟨xc, xd⟩⟩ := x
                    gi_wp2
                    refine wpIn_region_any (by kernel_rfl) ?_
                    refine wpAnyIn_inv (fun L a w' => ∃ (b0 b1 b2 b3 b4 b5 b6 b7 b8 b9 b10 : Bool) (s74 s75 s76 s77 s78 s79 s80 s81 s82 s83 : Value), L = #[b0, b1, b2, b3, b4, b5, b6, b7, b8, b9, b10] ∧ a = { tmps := #[.agg #[.slice A0 l0.length c0, .slice A1 l1.length c1], .pointer (some ⟨w.heap.size, 0, none⟩), u2, u3, .pointer (some ⟨g + 1, 0, none⟩), u5, undef, u7, .pointer (some ⟨m.b, 0, none⟩), undef, .pointer (some ⟨Bx, 0, none⟩), .pointer (some ⟨w.heap.size, 1, none⟩), .slice A1 l1.length c1, .int .i64 (l1.length : Int), .bool false, .bool false, .pointer (some ⟨w.heap.size, 0, none⟩), .slice A0 l0.length c0, .bool true, .bool false, .bool false, .pointer (some ⟨w.heap.size, 0, none⟩), .slice A0 l0.length c0, .agg #[.slice A0 l0.length c0, .pointer none], .agg #[.slice A0 l0.length c0, .pointer none, .slice none 0 0], .pointer (some ⟨g, 0, none⟩), .pointer (some ⟨g, 0, none⟩), .pointer (some ⟨g, 0, none⟩), .pointer (some ⟨g, 0, none⟩), .pointer (some ⟨w.heap.size, 1, none⟩), .slice A1 l1.length c1, .int .i64 (l1.length : Int), .int .i64 (l1.length : Int), .bool false, u34, u35, u36, u37, u38, u39, u40, u41, u42, u43, u44, u45, u46, u47, u48, u49, .pointer (some ⟨g, 0, none⟩), .bool true, .bool false, .bool false, .pointer (some ⟨g, 0, none⟩), .bool true, .bool false, .bool false, .pointer (some ⟨g, 0, none⟩), .pointer (some ⟨g, 0, none⟩), .pointer (some ⟨g, 0, none⟩), .pointer (some ⟨m.b, 0, none⟩), .bool true, x63, x64, x65, x66, .pointer (some ⟨m.b, 0, none⟩), .pointer (some ⟨m.b, 0, none⟩), .pointer (some ⟨m.b, 0, none⟩), .slice m.A m.l.length m.c, .func (.func 91) #[] #[.pointer (some ⟨Bn, 0, none⟩)], .int .i64 (xi : Int), .agg #[.int .i64 xa, .int .i64 xb, .int .i64 xc, .int .i64 xd], s74, s75, s76, s77, s78, s79, s80, s81, s82, s83, undef], defers := [] } ∧ (b0 = true → s74 = .pointer (some ⟨g, 0, none⟩)) ∧ (b1 = true → s75 = .pointer (some ⟨g, 0, none⟩)) ∧ (b2 = true → s76 = .pointer (some ⟨g, 0, none⟩)) ∧ (b3 = true → s77 = .pointer (some ⟨g, 2, none⟩)) ∧ (b4 = true → s78 = v) ∧ (b5 = true → s79 = .agg #[.int .i64 xa, .int .i64 xb, .int .i64 xc, .int .i64 xd]) ∧ (b8 = true → s82 = .pointer (some ⟨g, 0, none⟩)) ∧ (b9 = true → s83 = .pointer (some ⟨g, 2, none⟩)) ∧ (b6 = true → b5 = true) ∧ (b7 = true → b6 = true ∧ b4 = true) ∧ (b10 = true → b0 = true ∧ b1 = true ∧ b4 = true ∧ b7 = true) ∧ Ph w.heap.size g X v (bodyEdges (pre.map Nd.l) ++ pr).length (bodyRows (bodyEdges (pre.map Nd.l) ++ pr)) [.int .i64 xa, .int .i64 xb, .int .i64 xc, .int .i64 xd] #[.int .i64 xa, .int .i64 xb, .int .i64 xc, .int .i64 xd] b6 b7 b10 s80 s81 w') ?fin ?step _ _ _ _ (by decide) ?bnd ⟨false, false, false, false, false, false, false, false, false, false, false, x74, x75, x76, x77, x78, x79, x80, x81, x82, x83, rfl, rfl, by simp, by simp, by simp, by simp, by simp, by simp, by simp, by simp, by simp, by simp, by simp, .inl ⟨rfl, rfl, rfl, rfl⟩⟩
                    case bnd =>
                      intro i h
                      by_cases hi : i < 11
                      · simpa using hi
                      · simp [hi] at h
                    case fin =>
                      rintro L a w' ⟨b0, b1, b2, b3, b4, b5, b6, b7, b8, b9, b10, s74, s75, s76, s77, s78, s79, s80, s81, s82, s83, rfl, rfl, h74, h75, h76, h77, h78, h79, h82, h83, c6, c7, c10, ph⟩ hr
                      rw [List.eq_nil_iff_forall_not_mem] at hr
                      have a0 : b0 = true := by cases b0 with | true => rfl | false => exact (hr 0 (mem_ready.2 ⟨rfl, _, rfl, by simp [Region.binds]⟩)).elim
                      have a1 : b1 = true := by cases b1 with | true => rfl | false => exact (hr 1 (mem_ready.2 ⟨rfl, _, rfl, by simp [Region.binds]⟩)).elim
                      have a2 : b2 = true := by cases b2 with | true => rfl | false => exact (hr 2 (mem_ready.2 ⟨rfl, _, rfl, by simp [Region.binds, a1]⟩)).elim
                      have a3 : b3 = true := by cases b3 with | true => rfl | false => exact (hr 3 (mem_ready.2 ⟨rfl, _, rfl, by simp [Region.binds, a2]⟩)).elim
                      have a4 : b4 = true := by cases b4 with | true => rfl | false => exact (hr 4 (mem_ready.2 ⟨rfl, _, rfl, by simp [Region.binds, a3]⟩)).elim
                      have a5 : b5 = true := by cases b5 with | true => rfl | false => exact (hr 5 (mem_ready.2 ⟨rfl, _, rfl, by simp [Region.binds]⟩)).elim
                      have a6 : b6 = true := by cases b6 with | true => rfl | false => exact (hr 6 (mem_ready.2 ⟨rfl, _, rfl, by simp [Region.binds, a5]⟩)).elim
                      have a7 : b7 = true := by cases b7 with | true => rfl | false => exact (hr 7 (mem_ready.2 ⟨rfl, _, rfl, by simp [Region.binds, a4, a6]⟩)).elim
                      have a8 : b8 = true := by cases b8 with | true => rfl | false => exact (hr 8 (mem_ready.2 ⟨rfl, _, rfl, by simp [Region.binds, a0, a1, a2, a3, a4, a5, a6, a7]⟩)).elim
                      have a9 : b9 = true := by cases b9 with | true => rfl | false => exact (hr 9 (mem_ready.2 ⟨rfl, _, rfl, by simp [Region.binds, a0, a1, a2, a3, a4, a5, a6, a7, a8]⟩)).elim
                      have a10 : b10 = true := by cases b10 with | true => rfl | false => exact (hr 10 (mem_ready.2 ⟨rfl, _, rfl, by simp [Region.binds, a0, a1, a2, a3, a4, a5, a6, a7, a8, a9]⟩)).elim
                      rcases ph with ⟨_, _, e, _⟩ | ⟨_, _, e, _⟩ | ⟨_, _, e, _⟩ | ⟨_, _, _, w4, r1, r2, rfl⟩
                      · rw [a10] at e; cases e
                      · rw [a10] at e; cases e
                      · rw [a10] at e; cases e
                      · clear a0 a1 a2 a3 a4 a5 a6 a7 a8 a9 a10 hr
                        obtain ⟨q1, q2, q3, q4⟩ := body_appended bG (by omega) ho1 hB1.size r1 r2
                        have hne : ∀ B, B ≠ g → ∀ (Y : World) (u : Value), (Y.setCell ⟨g, 2, none⟩ u).heap[B]? = Y.heap[B]? := fun B hB Y u => Below.heap_setCell _ _ _ _ hB
                        refine (show KeepsFrom Wr.heap.size X _ ∧ Kp w.heap.size Bn X _ ∧ _ from ⟨q3.from _, ⟨q4, fun o e => ?_⟩, ⟨⟨⟨⟨⟨⟨_, q1, ?_⟩, (hne _ (by omega) _ _).trans (grown_blk bV (by decide) ho1 r2)⟩, bR.mono fun q hq => (hne _ (by have := (HM.out q hq).1; omega) _ _).trans ?_⟩, fun D h => q3.same D _ (bD D h) rfl⟩, (hne _ (by omega) _ _).trans (grown_blk bN1 (by decide) ho1 r2)⟩, hB1.trans q4⟩⟩)
                        · rw [show X.heap[Bn]? = _ from bN1] at e
                          cases e
                          exact (hne _ (by omega) _ _).trans (grown_blk bN1 (by decide) ho1 r2)
                        · have e1 : bodyEdges (pre.map Nd.l) ++ (pr ++ [(xi, ⟨xa, xb⟩, ⟨xc, xd⟩)]) = (bodyEdges (pre.map Nd.l) ++ pr) ++ [(xi, ⟨xa, xb⟩, ⟨xc, xd⟩)] := (List.append_assoc _ _ _).symm
                          have e2 : bodyRows ((bodyEdges (pre.map Nd.l) ++ pr) ++ [(xi, ⟨xa, xb⟩, ⟨xc, xd⟩)]) = bodyRows (bodyEdges (pre.map Nd.l) ++ pr) ++ [.int .i64 xa, .int .i64 xb, .int .i64 xc, .int .i64 xd] := by simp [bodyRows]
                          rw [e1, e2, List.length_append, List.length_cons, List.length_nil]
                          exact q2
                        · obtain ⟨cs, hc⟩ := bR.blk q hq
                          exact (grown_blk hc (by decide) ho1 r2).trans hc.symm
                    case step =>
                      rintro L a w' i ⟨b0, b1, b2, b3, b4, b5, b6, b7, b8, b9, b10, s74, s75, s76, s77, s78, s79, s80, s81, s82, s83, rfl, rfl, h74, h75, h76, h77, h78, h79, h82, h83, c6, c7, c10, ph⟩ hi
                      obtain ⟨hu, o, hoo, haf⟩ := mem_ready.1 hi
                      have hi11 : i < 11 := by
                        by_cases h : i < 11
                        · exact h
                        · simp [h] at hu
                      clear hi
                      rcases (by omega : i = 0 ∨ i = 1 ∨ i = 2 ∨ i = 3 ∨ i = 4 ∨ i = 5 ∨ i = 6 ∨ i = 7 ∨ i = 8 ∨ i = 9 ∨ i = 10) with rfl | rfl | rfl | rfl | rfl | rfl | rfl | rfl | rfl | rfl | rfl
                      · have hb : b0 = false := hu
                        have h10 : b10 = false := by cases b10 with | false => rfl | true => rw [(c10 rfl).1] at hb; cases hb
                        have cV := Boxed.cell (ph.look h10 ho1 bV (by decide))
                        refine wpOpIn_step rfl (fun K hK => ?_)
                        clear hoo haf
                        go_simp
                        exact hK _ _ ⟨true, b1, b2, b3, b4, b5, b6, b7, b8, b9, b10, .pointer (some ⟨g, 0, none⟩), s75, s76, s77, s78, s79, s80, s81, s82, s83, rfl, rfl, fun _ => rfl, h75, h76, h77, h78, h79, h82, h83, c6, c7, fun h => ⟨rfl, (c10 h).2⟩, ph⟩
                      · have hb : b1 = false := hu
                        have h10 : b10 = false := by cases b10 with | false => rfl | true => rw [(c10 rfl).2.1] at hb; cases hb
                        have cV := Boxed.cell (ph.look h10 ho1 bV (by decide))
                        refine wpOpIn_step rfl (fun K hK => ?_)
                        clear hoo haf
                        go_simp
                        exact hK _ _ ⟨b0, true, b2, b3, b4, b5, b6, b7, b8, b9, b10, s74, .pointer (some ⟨g, 0, none⟩), s76, s77, s78, s79, s80, s81, s82, s83, rfl, rfl, h74, fun _ => rfl, h76, h77, h78, h79, h82, h83, c6, c7, fun h => ⟨(c10 h).1, rfl, (c10 h).2.2⟩, ph⟩
                      · obtain rfl := Option.some.inj hoo
                        have haf' := haf
                        simp [Region.binds] at haf'
                        have a1 : b1 = true := haf'
                        obtain rfl := h75 a1
                        refine wpOpIn_step rfl (fun K hK => ?_)
                        clear hoo haf
                        go_simp
                        exact hK _ _ ⟨b0, b1, true, b3, b4, b5, b6, b7, b8, b9, b10, s74, .pointer (some ⟨g, 0, none⟩), .pointer (some ⟨g, 0, none⟩), s77, s78, s79, s80, s81, s82, s83, rfl, rfl, h74, fun _ => rfl, fun _ => rfl, h77, h78, h79, h82, h83, c6, c7, c10, ph⟩
                      · obtain rfl := Option.some.inj hoo
                        have haf' := haf
                        simp [Region.binds] at haf'
                        have a2 : b2 = true := haf'
                        obtain rfl := h76 a2
                        refine wpOpIn_step rfl (fun K hK => ?_)
                        clear hoo haf
                        go_simp
                        exact hK _ _ ⟨b0, b1, b2, true, b4, b5, b6, b7, b8, b9, b10, s74, s75, .pointer (some ⟨g, 0, none⟩), .pointer (some ⟨g, 2, none⟩), s78, s79, s80, s81, s82, s83, rfl, rfl, h74, h75, fun _ => rfl, fun _ => rfl, h78, h79, h82, h83, c6, c7, c10, ph⟩
                      · have hb : b4 = false := hu
                        have h10 : b10 = false := by cases b10 with | false => rfl | true => rw [(c10 rfl).2.2.1] at hb; cases hb
                        obtain rfl := Option.some.inj hoo
                        have haf' := haf
                        simp [Region.binds] at haf'
                        have a3 : b3 = true := haf'
                        obtain rfl := h77 a3
                        have cG := blk_cell (ph.look h10 ho1 bG (by decide)) 2
                        simp only [List.getElem?_toArray, List.getElem?_cons_succ, List.getElem?_cons_zero] at cG
                        refine wpOpIn_step rfl (fun K hK => ?_)
                        clear hoo haf
                        go_simp
                        exact hK _ _ ⟨b0, b1, b2, b3, true, b5, b6, b7, b8, b9, b10, s74, s75, s76, .pointer (some ⟨g, 2, none⟩), v, s79, s80, s81, s82, s83, rfl, rfl, h74, h75, h76, fun _ => rfl, fun _ => rfl, h79, h82, h83, c6, fun h => ⟨(c7 h).1, rfl⟩, fun h => ⟨(c10 h).1, (c10 h).2.1, rfl, (c10 h).2.2.2⟩, ph⟩
                      · have hb : b5 = false := hu
                        have h6 : b6 = false := by cases b6 with | false => rfl | true => rw [c6 rfl] at hb; cases hb
                        rcases ph with ⟨e6, e7, e10, rfl⟩ | ⟨e6, _⟩ | ⟨e6, _⟩ | ⟨e6, _⟩
                        · have cX0 : X.cell? ⟨Bx, 0, none⟩ = some (.int .i64 xa) := blk_cell bX 0
                          have cX1 : X.cell? ⟨Bx, 1, none⟩ = some (.int .i64 xb) := blk_cell bX 1
                          have cX2 : X.cell? ⟨Bx, 2, none⟩ = some (.int .i64 xc) := blk_cell bX 2
                          have cX3 : X.cell? ⟨Bx, 3, none⟩ = some (.int .i64 xd) := blk_cell bX 3
                          refine wpOpIn_step rfl (fun K hK => ?_)
                          clear hoo haf
                          go_simp
                          exact hK _ _ ⟨b0, b1, b2, b3, b4, true, b6, b7, b8, b9, b10, s74, s75, s76, s77, s78, .agg #[.int .i64 xa, .int .i64 xb, .int .i64 xc, .int .i64 xd], s80, s81, s82, s83, rfl, rfl, h74, h75, h76, h77, h78, fun _ => rfl, h82, h83, fun _ => rfl, c7, c10, .inl ⟨e6, e7, e10, rfl⟩⟩
                        all_goals rw [h6] at e6; cases e6
                      · have hb : b6 = false := hu
                        obtain rfl := Option.some.inj hoo
                        have haf' := haf
                        simp [Region.binds] at haf'
                        have a5 : b5 = true := haf'
                        obtain rfl := h79 a5
                        rcases ph with ⟨e6, e7, e10, rfl⟩ | ⟨e6, _⟩ | ⟨e6, _⟩ | ⟨e6, _⟩
                        · refine wpOpIn_step rfl (fun K hK => ?_)
                          clear hoo haf
                          go_simp
                          exact hK _ _ ⟨b0, b1, b2, b3, b4, b5, true, b7, b8, b9, b10, s74, s75, s76, s77, s78, .agg #[.int .i64 xa, .int .i64 xb, .int .i64 xc, .int .i64 xd], .slice (some ⟨X.heap.size, 0, none⟩) 1 1, s81, s82, s83, rfl, rfl, h74, h75, h76, h77, h78, fun _ => rfl, h82, h83, fun _ => a5, fun h => ⟨rfl, (c7 h).2⟩, c10, .inr (.inl ⟨rfl, e7, e10, rfl, rfl⟩)⟩
                        all_goals rw [hb] at e6; cases e6
                      · have hb : b7 = false := hu
                        obtain rfl := Option.some.inj hoo
                        have haf' := haf
                        simp [Region.binds] at haf'
                        obtain ⟨a4, a6⟩ : b4 = true ∧ b6 = true := haf'
                        have e78 := h78 a4
                        rcases ph with ⟨e6, _⟩ | ⟨e6, e7, e10, rfl, rfl⟩ | ⟨_, e7, _⟩ | ⟨_, e7, _⟩
                        · rw [a6] at e6; cases e6
                        · refine wpOpIn_step rfl (fun K hK => ?_)
                          clear hoo haf
                          rw [if_pos (by rfl)]
                          subst e78
                          refine wpIn_append_own _ _ _ 74 rfl w.heap.size 107 i0 _ 4 32 hu31 HI.out.1 HI.out.2.1 HI.out.2.2.1 HI.out.2.2.2 rfl (by decide) _ _ _ rfl (ownsRow_alloc ho1) ⟨X.heap.size, 0, none⟩ 1 1 [.int .i64 xa, .int .i64 xb, .int .i64 xc, .int .i64 xd] rfl rfl ?c1 ?c2 ?c3 ?c4 ?c5 ?_
                          case c1 =>
                            intro j u hj
                            rw [show (⟨X.heap.size, 0, none⟩ : Addr).add j = ⟨X.heap.size, j, none⟩ from (by simp [Addr.add]; omega)]
                            exact (blk_cell (World.alloc_heap_new X.drew (.cells #[.int .i64 xa, .int .i64 xb, .int .i64 xc, .int .i64 xd] 107)) j).trans (by simpa using hj)
                          case c2 =>
                            intro u hu
                            simp at hu
                            rcases hu with rfl | rfl | rfl | rfl <;> rfl
                          case c3 => rw [List.length_append]; unfold maxLen; omega
                          case c4 => rw [List.length_append]; omega
                          case c5 => have := hB1.size; simp; omega
                          rintro v' w4 r1 r2 _
                          exact hK _ _ ⟨b0, b1, b2, b3, b4, b5, b6, true, b8, b9, b10, s74, s75, s76, s77, s78, s79, _, v', s82, s83, rfl, rfl, h74, h75, h76, h77, h78, h79, h82, h83, c6, fun _ => ⟨a6, a4⟩, fun h => ⟨(c10 h).1, (c10 h).2.1, (c10 h).2.2.1, rfl⟩, .inr (.inr (.inl ⟨a6, rfl, e10, r1, r2⟩))⟩
                        all_goals rw [hb] at e7; cases e7
                      · obtain rfl := Option.some.inj hoo
                        have haf' := haf
                        simp [Region.binds] at haf'
                        have a0 : b0 = true := haf'.1
                        clear haf'
                        obtain rfl := h74 a0
                        refine wpOpIn_step rfl (fun K hK => ?_)
                        clear hoo haf
                        go_simp
                        exact hK _ _ ⟨b0, b1, b2, b3, b4, b5, b6, b7, true, b9, b10, .pointer (some ⟨g, 0, none⟩), s75, s76, s77, s78, s79, s80, s81, .pointer (some ⟨g, 0, none⟩), s83, rfl, rfl, fun _ => rfl, h75, h76, h77, h78, h79, fun _ => rfl, h83, c6, c7, c10, ph⟩
                      · obtain rfl := Option.some.inj hoo
                        have haf' := haf
                        simp [Region.binds] at haf'
                        have a8 : b8 = true := haf'.1
                        clear haf'
                        obtain rfl := h82 a8
                        refine wpOpIn_step rfl (fun K hK => ?_)
                        clear hoo haf
                        go_simp
                        exact hK _ _ ⟨b0, b1, b2, b3, b4, b5, b6, b7, b8, true, b10, s74, s75, s76, s77, s78, s79, s80, s81, .pointer (some ⟨g, 0, none⟩), .pointer (some ⟨g, 2, none⟩), rfl, rfl, h74, h75, h76, h77, h78, h79, fun _ => rfl, fun _ => rfl, c6, c7, c10, ph⟩
                      · have hb : b10 = false := hu
                        obtain rfl := Option.some.inj hoo
                        have haf' := haf
                        simp [Region.binds] at haf'
                        obtain ⟨a9, a7, a0, a1, a4⟩ : b9 = true ∧ b7 = true ∧ b0 = true ∧ b1 = true ∧ b4 = true := by simp [haf']
                        clear haf'
                        obtain rfl := h83 a9
                        have haa : (b0 = true ∧ b1 = true ∧ b4 = true ∧ b7 = true) ∧ b6 = true ∧ b7 = true := ⟨⟨a0, a1, a4, a7⟩, (c7 a7).1, a7⟩
                        rcases ph with ⟨_, e7, _⟩ | ⟨_, e7, _⟩ | ⟨e6, e7, _, r1, r2⟩ | ⟨_, _, e10, _⟩
                        · rw [a7] at e7; cases e7
                        · rw [a7] at e7; cases e7
                        · obtain ⟨q, cap, rfl⟩ := ownsRow_succ r1
                          have hg4 := grown_blk bG (by decide) ho1 r2
                          have k1 : w'.cell? ⟨g, 2, none⟩ = some v := blk_cell hg4 2
                          have f1 := blk_frozen hg4 2
                          clear a7 a0 a1 a4 a9 e6 e7
                          have A := Aside0.mk haa
                          clear haa
                          refine wpOpIn_step rfl (fun K hK => ?_)
                          clear hoo haf
                          go_simp
                          exact hK _ _ ⟨b0, b1, b2, b3, b4, b5, b6, b7, b8, b9, true, s74, s75, s76, s77, s78, s79, s80, _, s82, .pointer (some ⟨g, 2, none⟩), rfl, rfl, h74, h75, h76, h77, h78, h79, h82, fun _ => rfl, c6, c7, fun _ => A.out.1, .inr (.inr (.inr ⟨A.out.2.1, A.out.2.2, rfl, w', (by rw [List.length_append] at r1 ⊢; exact r1), r2, rfl⟩))⟩
                        · rw [hb] at e10; cases e10
  · have hd : decide ((2 : Int) < (l1.length : Int)) = true := decide_eq_true (by omega)
    gi_wp2_with (first | (refine ⟨trivial, ?_⟩; skip))
    exact ⟨.tuple #[.pointer none, .bool false], by simp [results, Tryd.f44, go_sem], .pointer none, by rw [bodyOk_no1 h2], (Below.refl _ w).alloc (Nat.le_refl _) _, fun h => by rw [bodyOk_no1 h2] at h; cases h⟩
end

end Go.Proofs.YtddbahlofgkoaaaDoor.PA
namespace Go.Proofs.YtddbahlofgkoaaaDoor.PA
open Go.RowKit Go.Proofs.YtddbahlofgkoaaaDoorW.PrintWords Go.Proofs.YtddbahlofgkoaaaDoorW.PrintLast Go.Proofs.YtddbahlofgkoaaaDoorW.PrintMore
attribute [local go_sem] max2_int min2_int max_two min_two max_three min_three max_four min_four   -- for this text's walks alone
set_option linter.unusedVariables false
set_option linter.unusedSimpArgs false

/-! ### impl_PlateText: function 15 -/
section
open Edges Go.Shelf
def plateCells (ls : List (List S97)) : List UInt8 := ls.flatMap fun l => (impl_pointsText.t l).data.toList ++ [10]
def impl_PlateText.f (l0_0 : List S97) (l0_1 : List (List S97)) : Option ByteArray := if bodyOk l0_0 l0_1 = true then (if (l0_0 :: l0_1).all impl_pointsText.ok = true then some ⟨(plateCells (l0_0 :: l0_1)).toArray⟩ else none) else some (⟨#[]⟩ : ByteArray)
theorem text_sz (l : List S97) (h : impl_pointsText.ok l = true) : (impl_pointsText.t l).size ≤ 48 := by
  simp only [impl_pointsText.ok, Bool.and_eq_true, decide_eq_true_eq, List.all_eq_true] at h
  obtain ⟨hp, h8, hall⟩ := h
  have := impl_pointsText.join_le [32] rfl ((impl_pointsText.ws l).map (·.data.toList)) (by rw [List.length_map, impl_pointsText.ws_len]; exact h8) (by
    intro y hy
    obtain ⟨q, hq, rfl⟩ := List.mem_map.1 hy
    have := impl_pointsText.ws_5 l hall q hq
    rw [ByteArray.size, ← Array.length_toList] at this
    exact this)
  rw [impl_pointsText.t, ByteArray.size]
  exact this
theorem plateCells_len : ∀ ls : List (List S97), ls.all impl_pointsText.ok = true → (plateCells ls).length ≤ 49 * ls.length
  | [], _ => by simp [plateCells]
  | l :: ls, h => by
    rw [List.all_cons, Bool.and_eq_true] at h
    have h1 := text_sz l h.1
    rw [ByteArray.size, ← Array.length_toList] at h1
    have h2 := plateCells_len ls h.2
    rw [plateCells, List.flatMap_cons, List.length_append, List.length_append]
    rw [plateCells] at h2
    simp only [List.length_cons, List.length_nil]
    omega
theorem isB_below {T e : TypeId} {B b : Nat} {bs : List Value} {w w' : World} (h : Lib.IsBuilder T e B b bs w) (hb : Below w.heap.size w w') : Lib.IsBuilder T e B b bs w' := by
  have go : ∀ p, Lib.BuilderAt T e B b p bs w → Lib.BuilderAt T e B b p bs w' := by
    intro p h
    have hl := h.lt
    obtain ⟨hB, v, q1, q2, q3⟩ := h
    exact ⟨hB, v, (hb.block b hl).trans q1, impl_pointsText.own_below q2 hb, q3⟩
  rcases h with h | h
  · exact .inl (go _ h)
  · exact .inr (go _ h)
theorem bodyOk_le {l : List S97} {hs : List (List S97)} (h : bodyOk l hs = true) : hs.length ≤ 2 := by
  rcases Nat.lt_or_ge 2 hs.length with h2 | h2
  · rw [bodyOk_no1 (by omega)] at h; cases h
  · exact h2
theorem chain_at {w w' : World} {G : Nat} {m : Nd} {r : List Nd} (h : Chain w (m :: r)) (hG : w.heap.size = G) (hb : Below G w w') :
    w'.cell? ⟨m.b, 0, none⟩ = some (.slice m.A m.l.length m.c) ∧ w'.cell? ⟨m.b, 1, none⟩ = some (Nd.ptr r) ∧ Kd.C k97 w' m.A m.l.length m.l ∧ m.l.length ≤ m.c := by
  subst hG
  have := (Chain.below hb h).1
  exact ⟨this.1, this.2.1, this.2.2.1, this.2.2.2.1⟩
set_option maxRecDepth 100000 in
set_option maxHeartbeats 4000000 in
theorem impl_PlateText.calls (A0_0 : Option Addr) (c0_0 : Nat) (l0_0 : List (S97)) (A0_1 : Option Addr) (c0_1 : Nat) (l0_1 : List (List (S97))) (r : ByteArray) (w : World) (hr0_0 : Kd.C k97 w A0_0 l0_0.length l0_0) (hc0_0 : l0_0.length ≤ c0_0) (hr0_1 : Kd.C (Kd.slice 97 k97) w A0_1 l0_1.length l0_1) (hc0_1 : l0_1.length ≤ c0_1) (h : impl_PlateText.f l0_0 l0_1 = some r) :
    Calls Tryd.prog 15 #[.agg #[.slice A0_0 l0_0.length c0_0, .slice A0_1 l0_1.length c0_1]] w fun e w' => e = .returned (.string r) ∧ Below w.heap.size w w' := by
  have hu1 := Tryd.underlying97
  have hu5 := Tryd.underlying31
  unfold impl_PlateText.f at h
  have hb0 : Below w.heap.size w (w.alloc (.cells #[.slice A0_0 l0_0.length c0_0, .slice A0_1 l0_1.length c0_1] 31)) := (Below.refl _ w).alloc (Nat.le_refl _) _
  have HB0 := Aside0.mk hb0
  have HC := Aside0.mk (And.intro (Kd.C_below hr0_0 hb0) (Kd.C_below hr0_1 hb0))
  clear hb0 hr0_0 hr0_1
  go_enter Tryd.func15, Tryd.ntmps15
  obtain ⟨b, hb⟩ : ∃ b, bodyOk l0_0 l0_1 = b := ⟨_, rfl⟩
  have HBB := Aside0.mk hb
  rw [hb] at h
  clear hb
  cases b
  · have hres := Aside0.mk (Option.some.inj (show some (⟨#[]⟩ : ByteArray) = some r from h))
    clear h
    go_wp2_with (first | (go_at_call 44; refine (impl_bodyOf.calls _ _ _ _ _ _ _ HC.out.1 hc0_0 HC.out.2 hc0_1).mono ?_; rw [HBB.out]; rintro e w1 ⟨v, rfl, hb1, _⟩))
    go_ret
    exact ⟨by rw [← hres.out]; rfl, HB0.out.trans (hb1.mono HB0.out.size)⟩
  · replace h : (if (l0_0 :: l0_1).all impl_pointsText.ok = true then some (⟨(plateCells (l0_0 :: l0_1)).toArray⟩ : ByteArray) else none) = some r := h
    by_cases hok : (l0_0 :: l0_1).all impl_pointsText.ok = true
    case neg => rw [if_neg hok] at h; cases h
    rw [if_pos hok] at h
    have hres := Aside0.mk (Option.some.inj h)
    have HLEN := Aside0.mk (show (plateCells (l0_0 :: l0_1)).length ≤ 147 by have := plateCells_len _ hok; have := bodyOk_le HBB.out; simp only [List.length_cons] at *; omega)
    have HOK := Aside0.mk hok
    clear h hok
    go_wp2_with (first | (go_at_call 44; refine (impl_bodyOf.calls _ _ _ _ _ _ _ HC.out.1 hc0_0 HC.out.2 hc0_1).mono ?_; rw [HBB.out]; rintro e w1 ⟨v, rfl, hb1, hx⟩; obtain ⟨n, ns, ev, rfl, hnl, hnsl, hch, _⟩ := hx rfl; have HNL := Aside0.mk (show (n :: ns).map Nd.l = l0_0 :: l0_1 by rw [List.map_cons, hnl, hnsl]); have HCH := Aside0.mk hch; have HBA := Aside0.mk (HB0.out.trans (hb1.mono HB0.out.size)); clear hnl hnsl hch hb1))
    obtain ⟨G, hG⟩ : ∃ G, w1.heap.size = G := ⟨_, rfl⟩
    have HG := Aside0.mk hG
    have hI0 : Lib.IsBuilder 70 5 G G (Lib.byteCells []) (w1.alloc (.cells #[.pointer none, .slice none 0 0] 70)) :=
      .inl ⟨Nat.le_refl _, .slice none 0 0, by have := blk_new w1 (.cells #[.pointer none, .slice none 0 0] 70); rw [hG] at this; exact this, World.ownsRow_nil _ _ _ _, by simp [Value.ownBlock]⟩
    have HI0 := Aside0.mk hI0
    have HW0 := Aside0.mk (show Below G w1 (w1.alloc (.cells #[.pointer none, .slice none 0 0] 70)) from (Below.refl _ w1).alloc (by omega) _)
    clear hI0
    rw [hG]
    clear hG
    go_loopg [6] (ns.length + 2) (fun kq v6 wr => ∃ (bs : List UInt8) (rest : List Nd), v6 = Nd.ptr rest ∧ kq = rest.length + 1 ∧ Aside0 (Chain w1 rest) ∧ Aside0 (bs ++ plateCells (rest.map Nd.l) = plateCells (l0_0 :: l0_1)) ∧ Aside0 ((rest.map Nd.l).all impl_pointsText.ok = true) ∧ Aside0 (Lib.IsBuilder 70 5 G G (Lib.byteCells bs) wr) ∧ Aside0 (Below G w1 wr))
    case atStart => exact ⟨[], n :: ns, rfl, rfl, HCH, ⟨by rw [HNL.out]; rfl⟩, ⟨by rw [HNL.out]; exact HOK.out⟩, HI0, HW0⟩
    case round =>
      clear HI0 HW0
      obtain ⟨bs, rest, rfl, hk, HX, HT, HA, HI, HB⟩ := hrel
      have HK := Aside0.mk hk
      clear hk
      cases gk with
      | zero => have := HK.out; omega
      | succ k1 =>
        cases rest with
        | nil =>
          simp only [Nd.ptr_nil]
          have hbs : bs = plateCells (l0_0 :: l0_1) := by have := HT.out; rw [List.map_nil, plateCells, List.flatMap_nil, List.append_nil] at this; exact this
          have HS := Aside0.mk (Tryd.Builder_String_any G G bs wr HI.out (by have := HB.out.size; have := HG.out; omega))
          have HBS := Aside0.mk hbs
          clear hbs
          go_wp2_with (first | (refine HS.out.mono ?_; rintro e w5 ⟨rfl, hb5⟩))
          go_ret
          exact ⟨by rw [← hres.out, HBS.out]; rfl, HBA.out.trans ((HB.out.trans hb5).mono (by have := HBA.out.size; have := HG.out; omega))⟩
        | cons m rs =>
          simp only [Nd.ptr_cons]
          obtain ⟨tx, htx⟩ : ∃ tx, impl_pointsText.t m.l = tx := ⟨_, rfl⟩
          have hmok : impl_pointsText.ok m.l = true := by have := HA.out; rw [List.map_cons, List.all_cons, Bool.and_eq_true] at this; exact this.1
          have HA2 := Aside0.mk (show (rs.map Nd.l).all impl_pointsText.ok = true by have := HA.out; rw [List.map_cons, List.all_cons, Bool.and_eq_true] at this; exact this.2)
          have HF := Aside0.mk (show impl_pointsText.f m.l = some tx by rw [impl_pointsText.f, if_pos hmok, htx])
          have HT2 := Aside0.mk (show (bs ++ (tx.data.toList ++ [10])) ++ plateCells (rs.map Nd.l) = plateCells (l0_0 :: l0_1) by rw [← HT.out, List.map_cons, plateCells, plateCells, List.flatMap_cons, htx, List.append_assoc])
          have HL := Aside0.mk (show bs.length + tx.size + 1 ≤ 147 by
            have h1 := congrArg List.length HT2.out
            have h2 := HLEN.out
            simp only [List.length_append, List.length_cons, List.length_nil] at h1
            have h3 : tx.size = tx.data.toList.length := by rw [Array.length_toList]; rfl
            omega)
          have HCE := Aside0.mk (show Lib.byteCells bs ++ Lib.strCells tx ++ [.int .u8 10] = Lib.byteCells (bs ++ (tx.data.toList ++ [10])) by simp [Lib.byteCells, Lib.strCells])
          have HS := Aside0.mk (show G ≤ wr.heap.size by have := HB.out.size; have := HG.out; omega)
          have hX := chain_at HX.out HG.out HB.out
          have n0 := hX.1
          have HPC := Aside0.mk (And.intro hX.2.2.1 hX.2.2.2)
          have KN : Aside0 (∀ w', Below G w1 w' → w'.cell? ⟨m.b, 1, none⟩ = some (Nd.ptr rs)) := ⟨fun w' hb => (chain_at HX.out HG.out hb).2.1⟩
          have HX2 := Aside0.mk HX.out.2
          clear htx hmok hX HT HA
          go_wp2_with (first
            | (go_at_call 46; refine (impl_pointsText.calls m.A m.c m.l tx _ HPC.out.1 HPC.out.2 HF.out).mono ?_; rintro e w3 ⟨rfl, hb3⟩; have HI3 := Aside0.mk (isB_below HI.out hb3); have HB3 := Aside0.mk (HB.out.trans (hb3.mono HS.out)); have HS3 := Aside0.mk (Nat.le_trans HS.out hb3.size); clear hb3)
            | (go_at_call 45; refine (Tryd.wString G G (Lib.byteCells bs) tx _ HI3.out (by have := HL.out; rw [Lib.byteCells_length]; omega) HS3.out).mono ?_; rintro e w4 ⟨rfl, hB4, hb4⟩; have HI4 := Aside0.mk hB4; have HB4 := Aside0.mk (HB3.out.trans hb4); have HS4 := Aside0.mk (Nat.le_trans HS3.out hb4.size); clear hb4 hB4)
            | (go_at_call 47; refine (Tryd.wByte G G (Lib.byteCells bs ++ Lib.strCells tx) 10 _ (.inr HI4.out) (by have := HL.out; rw [List.length_append, Lib.byteCells_length, Lib.strCells_length]; omega) HS4.out).mono ?_; rintro e w5 ⟨rfl, hB5, hb5⟩; have HI5 := Aside0.mk hB5; have HB5 := Aside0.mk (HB4.out.trans hb5); have n1 := KN.out _ HB5.out; clear hb5 hB5))
          go_roundg k1
          case measure => have := HK.out; simp at this; omega
          case rel => exact ⟨bs ++ (tx.data.toList ++ [10]), rs, rfl, by have := HK.out; simp at this; omega, HX2, HT2, HA2, ⟨.inr (by have := HI5.out; rw [HCE.out] at this; exact this)⟩, HB5⟩
end

end Go.Proofs.YtddbahlofgkoaaaDoor.PA
namespace Go.Proofs.YtddbahlofgkoaaaDoor.PA
open Go.RowKit Go.Proofs.YtddbahlofgkoaaaDoorW.PrintWords Go.Proofs.YtddbahlofgkoaaaDoorW.PrintLast Go.Proofs.YtddbahlofgkoaaaDoorW.PrintMore
attribute [local go_sem] max2_int min2_int max_two min_two max_three min_three max_four min_four   -- for this text's walks alone
set_option linter.unusedVariables false
set_option linter.unusedSimpArgs false

/-! ### laws_eqPt: function 70 -/
def laws_eqPt.f (a0_0 : Int) (a0_1 : Int) (a1_0 : Int) (a1_1 : Int) : Option (Bool) := if a0_0 = a1_0 then (if a0_1 = a1_1 then (some true) else (some false)) else (some false)
set_option maxHeartbeats 8000000 in
set_option maxRecDepth 100000 in
theorem laws_eqPt.calls (a0_0 : Int) (a0_1 : Int) (a1_0 : Int) (a1_1 : Int) (r : Bool) (w : World) (h : laws_eqPt.f a0_0 a0_1 a1_0 a1_1 = some r) :
  Calls Tryd.prog 70 #[.agg #[.int .i64 a0_0, .int .i64 a0_1], .agg #[.int .i64 a1_0, .int .i64 a1_1]] w fun e w' => e = .returned (.bool r) ∧ Below w.heap.size w w' := by
 have hu97 := Tryd.underlying97; have HB := Aside0.mk (Below.refl w.heap.size w); have H : (if a0_0 = a1_0 then (if a0_1 = a1_1 then (some true) else (some false)) else (some false)) = some r := h; clear h; by_cases c3 : a0_0 = a1_0
 ·rw [if_pos c3] at H; have c3b0 : (a0_0 == a1_0) = true := beq_iff_eq.mpr c3; have c3b1 : (a0_0 != a1_0) = false := bne_eq_false_iff_eq.mpr c3; clear c3; by_cases c4 : a0_1 = a1_1
  ·rw [if_pos c4] at H; have c4b0 : (a0_1 == a1_1) = true := beq_iff_eq.mpr c4; have c4b1 : (a0_1 != a1_1) = false := bne_eq_false_iff_eq.mpr c4; clear c4; obtain rfl := Option.some.inj H; go_enter Tryd.func70, Tryd.ntmps70
   go_wp2_with (first | ((with_reducible refine gate_dst (N := 2) rfl ?_); refine box_event ?hg (N := 2) ?hd (cs := #[.int .i64 a0_0, .int .i64 a0_1]) (t := 97) ?hr ?_; (case hd => rfl); (case hg => rfl); (case hr => first | (go_simp; done) | (go_simp; rfl)); intro gb277 hg w5 hbox hb; have n0_ := Aside0.mk (below_step (by repeat (first | (with_reducible first | exact HB.out | apply below_alloc | apply pw_below_drewN | apply below_drew1) | exact HB.out)) hb); have n1_ := Aside0.mk (hbox); have n2_ := Aside0.mk ((by rw [hg]; exact (below_size (by repeat (first | (with_reducible first | exact HB.out | apply below_alloc | apply pw_below_drewN | apply below_drew1) | exact HB.out))) : w.heap.size ≤ gb277)); have n3_ := Aside0.mk ((by rw [hg]; exact (below_size (by repeat (first | (with_reducible first | exact HB.out | apply below_alloc | apply pw_below_drewN | apply below_drew1) | exact HB.out))) : w.heap.size ≤ gb277)); clear HB; have HB := n0_; have BK277 := n1_; have GW277 := n2_; have GE277 := n3_; clear n0_ n1_ n2_ n3_; clear hb hbox hg) | ((with_reducible refine gate_dst (N := 3) rfl ?_); refine box_event ?hg (N := 3) ?hd (cs := #[.int .i64 a1_0, .int .i64 a1_1]) (t := 97) ?hr ?_; (case hd => rfl); (case hg => rfl); (case hr => first | (go_simp; done) | (go_simp; rfl)); intro gb278 hg w6 hbox hb; have n0_ := Aside0.mk (blk_below (g := gb277) (o := .cells #[.int .i64 a0_0, .int .i64 a0_1] 97 (0, 0)) (by (with_reducible repeat (first | refine blk_drewN ?_ _ | refine blk_drew ?_ | refine blk_alloc ?_ _)); exact BK277.out) hb); have n1_ := Aside0.mk (below_step (by repeat (first | (with_reducible first | exact HB.out | apply below_alloc | apply pw_below_drewN | apply below_drew1 | refine below_set ?_ GE277.out) | exact HB.out)) hb); have n2_ := Aside0.mk (hbox); have n3_ := Aside0.mk ((by rw [hg]; exact (below_size (by repeat (first | (with_reducible first | exact HB.out | apply below_alloc | apply pw_below_drewN | apply below_drew1 | refine below_set ?_ GE277.out) | exact HB.out))) : w.heap.size ≤ gb278)); have n4_ := Aside0.mk ((by rw [hg]; exact (below_size (by repeat (first | (with_reducible first | exact HB.out | apply below_alloc | apply pw_below_drewN | apply below_drew1 | refine below_set ?_ GE277.out) | exact HB.out))) : w.heap.size ≤ gb278)); have n5_ := Aside0.mk ((by rw [hg]; exact Nat.ne_of_lt (blk_lt (g := gb277) (o := .cells #[.int .i64 a0_0, .int .i64 a0_1] 97 (0, 0)) (by (with_reducible repeat (first | refine blk_drewN ?_ _ | refine blk_drew ?_ | refine blk_alloc ?_ _)); exact BK277.out)) : gb277 ≠ gb278)); have n6_ := Aside0.mk ((by rw [hg]; exact Nat.ne_of_gt (blk_lt (g := gb277) (o := .cells #[.int .i64 a0_0, .int .i64 a0_1] 97 (0, 0)) (by (with_reducible repeat (first | refine blk_drewN ?_ _ | refine blk_drew ?_ | refine blk_alloc ?_ _)); exact BK277.out)) : gb278 ≠ gb277)); clear BK277; clear HB; have BK277 := n0_; have HB := n1_; have BK278 := n2_; have GW278 := n3_; have GE278 := n4_; have NB277_278 := n5_; have NB278_277 := n6_; clear n0_ n1_ n2_ n3_ n4_ n5_ n6_; clear hb hbox hg; have hnb7 := NB277_278.out; have hnc7 := NB278_277.out; have hcz8_0 : w6.cell? ⟨gb277, 0, none⟩ = some (.int .i64 a0_0) := (blk_cell BK277.out 0).trans rfl; have hcz8_1 : w6.cell? ⟨gb277, 1, none⟩ = some (.int .i64 a0_1) := (blk_cell BK277.out 1).trans rfl; have hfz8_0 := blk_frozen BK277.out 0; have hfz8_1 := blk_frozen BK277.out 1; have hcz9_0 : w6.cell? ⟨gb278, 0, none⟩ = some (.int .i64 a1_0) := (blk_cell BK278.out 0).trans rfl; have hcz9_1 : w6.cell? ⟨gb278, 1, none⟩ = some (.int .i64 a1_1) := (blk_cell BK278.out 1).trans rfl; have hfz9_0 := blk_frozen BK278.out 0; have hfz9_1 := blk_frozen BK278.out 1))
   go_ret
   exact ⟨by first | rfl | (simp [errW_none, errW_some] <;> rfl) | (simp [*, errW_none, errW_some] <;> rfl), by repeat (first | (with_reducible first | exact HB.out | apply below_alloc | apply pw_below_drewN | apply below_drew1 | refine below_set ?_ GE277.out | refine below_set ?_ GE278.out) | exact HB.out)⟩
  ·rw [if_neg c4] at H; have c4b0 : (a0_1 == a1_1) = false := beq_eq_false_iff_ne.mpr c4; have c4b1 : (a0_1 != a1_1) = true := bne_iff_ne.mpr c4; obtain rfl := Option.some.inj H; go_enter Tryd.func70, Tryd.ntmps70
   go_wp2_with (first | ((with_reducible refine gate_dst (N := 2) rfl ?_); refine box_event ?hg (N := 2) ?hd (cs := #[.int .i64 a0_0, .int .i64 a0_1]) (t := 97) ?hr ?_; (case hd => rfl); (case hg => rfl); (case hr => first | (go_simp; done) | (go_simp; rfl)); intro gb277 hg w10 hbox hb; have n0_ := Aside0.mk (below_step (by repeat (first | (with_reducible first | exact HB.out | apply below_alloc | apply pw_below_drewN | apply below_drew1) | exact HB.out)) hb); have n1_ := Aside0.mk (hbox); have n2_ := Aside0.mk ((by rw [hg]; exact (below_size (by repeat (first | (with_reducible first | exact HB.out | apply below_alloc | apply pw_below_drewN | apply below_drew1) | exact HB.out))) : w.heap.size ≤ gb277)); have n3_ := Aside0.mk ((by rw [hg]; exact (below_size (by repeat (first | (with_reducible first | exact HB.out | apply below_alloc | apply pw_below_drewN | apply below_drew1) | exact HB.out))) : w.heap.size ≤ gb277)); clear HB; have HB := n0_; have BK277 := n1_; have GW277 := n2_; have GE277 := n3_; clear n0_ n1_ n2_ n3_; clear hb hbox hg) | ((with_reducible refine gate_dst (N := 3) rfl ?_); refine box_event ?hg (N := 3) ?hd (cs := #[.int .i64 a1_0, .int .i64 a1_1]) (t := 97) ?hr ?_; (case hd => rfl); (case hg => rfl); (case hr => first | (go_simp; done) | (go_simp; rfl)); intro gb278 hg w11 hbox hb; have n0_ := Aside0.mk (blk_below (g := gb277) (o := .cells #[.int .i64 a0_0, .int .i64 a0_1] 97 (0, 0)) (by (with_reducible repeat (first | refine blk_drewN ?_ _ | refine blk_drew ?_ | refine blk_alloc ?_ _)); exact BK277.out) hb); have n1_ := Aside0.mk (below_step (by repeat (first | (with_reducible first | exact HB.out | apply below_alloc | apply pw_below_drewN | apply below_drew1 | refine below_set ?_ GE277.out) | exact HB.out)) hb); have n2_ := Aside0.mk (hbox); have n3_ := Aside0.mk ((by rw [hg]; exact (below_size (by repeat (first | (with_reducible first | exact HB.out | apply below_alloc | apply pw_below_drewN | apply below_drew1 | refine below_set ?_ GE277.out) | exact HB.out))) : w.heap.size ≤ gb278)); have n4_ := Aside0.mk ((by rw [hg]; exact (below_size (by repeat (first | (with_reducible first | exact HB.out | apply below_alloc | apply pw_below_drewN | apply below_drew1 | refine below_set ?_ GE277.out) | exact HB.out))) : w.heap.size ≤ gb278)); have n5_ := Aside0.mk ((by rw [hg]; exact Nat.ne_of_lt (blk_lt (g := gb277) (o := .cells #[.int .i64 a0_0, .int .i64 a0_1] 97 (0, 0)) (by (with_reducible repeat (first | refine blk_drewN ?_ _ | refine blk_drew ?_ | refine blk_alloc ?_ _)); exact BK277.out)) : gb277 ≠ gb278)); have n6_ := Aside0.mk ((by rw [hg]; exact Nat.ne_of_gt (blk_lt (g := gb277) (o := .cells #[.int .i64 a0_0, .int .i64 a0_1] 97 (0, 0)) (by (with_reducible repeat (first | refine blk_drewN ?_ _ | refine blk_drew ?_ | refine blk_alloc ?_ _)); exact BK277.out)) : gb278 ≠ gb277)); clear BK277; clear HB; have BK277 := n0_; have HB := n1_; have BK278 := n2_; have GW278 := n3_; have GE278 := n4_; have NB277_278 := n5_; have NB278_277 := n6_; clear n0_ n1_ n2_ n3_ n4_ n5_ n6_; clear hb hbox hg; have hnb12 := NB277_278.out; have hnc12 := NB278_277.out; have hcz13_0 : w11.cell? ⟨gb277, 0, none⟩ = some (.int .i64 a0_0) := (blk_cell BK277.out 0).trans rfl; have hcz13_1 : w11.cell? ⟨gb277, 1, none⟩ = some (.int .i64 a0_1) := (blk_cell BK277.out 1).trans rfl; have hfz13_0 := blk_frozen BK277.out 0; have hfz13_1 := blk_frozen BK277.out 1; have hcz14_0 : w11.cell? ⟨gb278, 0, none⟩ = some (.int .i64 a1_0) := (blk_cell BK278.out 0).trans rfl; have hcz14_1 : w11.cell? ⟨gb278, 1, none⟩ = some (.int .i64 a1_1) := (blk_cell BK278.out 1).trans rfl; have hfz14_0 := blk_frozen BK278.out 0; have hfz14_1 := blk_frozen BK278.out 1))
   go_ret
   exact ⟨by first | rfl | (simp [errW_none, errW_some] <;> rfl) | (simp [*, errW_none, errW_some] <;> rfl), by repeat (first | (with_reducible first | exact HB.out | apply below_alloc | apply pw_below_drewN | apply below_drew1 | refine below_set ?_ GE277.out | refine below_set ?_ GE278.out) | exact HB.out)⟩
 ·rw [if_neg c3] at H; have c3b0 : (a0_0 == a1_0) = false := beq_eq_false_iff_ne.mpr c3; have c3b1 : (a0_0 != a1_0) = true := bne_iff_ne.mpr c3; obtain rfl := Option.some.inj H; go_enter Tryd.func70, Tryd.ntmps70
  go_wp2_with (first | ((with_reducible refine gate_dst (N := 2) rfl ?_); refine box_event ?hg (N := 2) ?hd (cs := #[.int .i64 a0_0, .int .i64 a0_1]) (t := 97) ?hr ?_; (case hd => rfl); (case hg => rfl); (case hr => first | (go_simp; done) | (go_simp; rfl)); intro gb277 hg w15 hbox hb; have n0_ := Aside0.mk (below_step (by repeat (first | (with_reducible first | exact HB.out | apply below_alloc | apply pw_below_drewN | apply below_drew1) | exact HB.out)) hb); have n1_ := Aside0.mk (hbox); have n2_ := Aside0.mk ((by rw [hg]; exact (below_size (by repeat (first | (with_reducible first | exact HB.out | apply below_alloc | apply pw_below_drewN | apply below_drew1) | exact HB.out))) : w.heap.size ≤ gb277)); have n3_ := Aside0.mk ((by rw [hg]; exact (below_size (by repeat (first | (with_reducible first | exact HB.out | apply below_alloc | apply pw_below_drewN | apply below_drew1) | exact HB.out))) : w.heap.size ≤ gb277)); clear HB; have HB := n0_; have BK277 := n1_; have GW277 := n2_; have GE277 := n3_; clear n0_ n1_ n2_ n3_; clear hb hbox hg) | ((with_reducible refine gate_dst (N := 3) rfl ?_); refine box_event ?hg (N := 3) ?hd (cs := #[.int .i64 a1_0, .int .i64 a1_1]) (t := 97) ?hr ?_; (case hd => rfl); (case hg => rfl); (case hr => first | (go_simp; done) | (go_simp; rfl)); intro gb278 hg w16 hbox hb; have n0_ := Aside0.mk (blk_below (g := gb277) (o := .cells #[.int .i64 a0_0, .int .i64 a0_1] 97 (0, 0)) (by (with_reducible repeat (first | refine blk_drewN ?_ _ | refine blk_drew ?_ | refine blk_alloc ?_ _)); exact BK277.out) hb); have n1_ := Aside0.mk (below_step (by repeat (first | (with_reducible first | exact HB.out | apply below_alloc | apply pw_below_drewN | apply below_drew1 | refine below_set ?_ GE277.out) | exact HB.out)) hb); have n2_ := Aside0.mk (hbox); have n3_ := Aside0.mk ((by rw [hg]; exact (below_size (by repeat (first | (with_reducible first | exact HB.out | apply below_alloc | apply pw_below_drewN | apply below_drew1 | refine below_set ?_ GE277.out) | exact HB.out))) : w.heap.size ≤ gb278)); have n4_ := Aside0.mk ((by rw [hg]; exact (below_size (by repeat (first | (with_reducible first | exact HB.out | apply below_alloc | apply pw_below_drewN | apply below_drew1 | refine below_set ?_ GE277.out) | exact HB.out))) : w.heap.size ≤ gb278)); have n5_ := Aside0.mk ((by rw [hg]; exact Nat.ne_of_lt (blk_lt (g := gb277) (o := .cells #[.int .i64 a0_0, .int .i64 a0_1] 97 (0, 0)) (by (with_reducible repeat (first | refine blk_drewN ?_ _ | refine blk_drew ?_ | refine blk_alloc ?_ _)); exact BK277.out)) : gb277 ≠ gb278)); have n6_ := Aside0.mk ((by rw [hg]; exact Nat.ne_of_gt (blk_lt (g := gb277) (o := .cells #[.int .i64 a0_0, .int .i64 a0_1] 97 (0, 0)) (by (with_reducible repeat (first | refine blk_drewN ?_ _ | refine blk_drew ?_ | refine blk_alloc ?_ _)); exact BK277.out)) : gb278 ≠ gb277)); clear BK277; clear HB; have BK277 := n0_; have HB := n1_; have BK278 := n2_; have GW278 := n3_; have GE278 := n4_; have NB277_278 := n5_; have NB278_277 := n6_; clear n0_ n1_ n2_ n3_ n4_ n5_ n6_; clear hb hbox hg; have hnb17 := NB277_278.out; have hnc17 := NB278_277.out; have hcz18_0 : w16.cell? ⟨gb277, 0, none⟩ = some (.int .i64 a0_0) := (blk_cell BK277.out 0).trans rfl; have hcz18_1 : w16.cell? ⟨gb277, 1, none⟩ = some (.int .i64 a0_1) := (blk_cell BK277.out 1).trans rfl; have hfz18_0 := blk_frozen BK277.out 0; have hfz18_1 := blk_frozen BK277.out 1; have hcz19_0 : w16.cell? ⟨gb278, 0, none⟩ = some (.int .i64 a1_0) := (blk_cell BK278.out 0).trans rfl; have hcz19_1 : w16.cell? ⟨gb278, 1, none⟩ = some (.int .i64 a1_1) := (blk_cell BK278.out 1).trans rfl; have hfz19_0 := blk_frozen BK278.out 0; have hfz19_1 := blk_frozen BK278.out 1))
  go_ret
  exact ⟨by first | rfl | (simp [errW_none, errW_some] <;> rfl) | (simp [*, errW_none, errW_some] <;> rfl), by repeat (first | (with_reducible first | exact HB.out | apply below_alloc | apply pw_below_drewN | apply below_drew1 | refine below_set ?_ GE277.out | refine below_set ?_ GE278.out) | exact HB.out)⟩

end Go.Proofs.YtddbahlofgkoaaaDoor.PA
namespace Go.Proofs.YtddbahlofgkoaaaDoor.PA
open Go.RowKit Go.Proofs.YtddbahlofgkoaaaDoorW.PrintWords Go.Proofs.YtddbahlofgkoaaaDoorW.PrintLast Go.Proofs.YtddbahlofgkoaaaDoorW.PrintMore
attribute [local go_sem] max2_int min2_int max_two min_two max_three min_three max_four min_four   -- for this text's walks alone
set_option linter.unusedVariables false
set_option linter.unusedSimpArgs false

/-! ### laws_eqPtS: function 35 -/
def laws_eqPtS.l0 : Nat → List (S97) → List (S97) → Int → Option (Bool)
 | 0, _, _, _ => none
 | k + 1, x0, x1, x5 => if x5 < (x0.length : Int) then (if 0 ≤ x5 then (if x5 < (x1.length : Int) then ((laws_eqPt.f ((rd_T97 x0 x5).f0) ((rd_T97 x0 x5).f1) ((rd_T97 x1 x5).f0) ((rd_T97 x1 x5).f1)).bind fun t281 => (if t281 = true then (laws_eqPtS.l0 k x0 x1 (wrap64 (x5 + 1))) else (some false))) else (none)) else (none)) else (some true)
def laws_eqPtS.f (k : Nat) (l0 : List (S97)) (l1 : List (S97)) : Option (Bool) := if (l0.length : Int) = (l1.length : Int) then (laws_eqPtS.l0 k l0 l1 0) else (some false)
theorem laws_eqPtS.mono_l : ∀ k, (∀ y0 y1 y2, LeO (laws_eqPtS.l0 k y0 y1 y2) (laws_eqPtS.l0 (k + 1) y0 y1 y2))
 | 0 => fun _ _ _ r h => by simp [laws_eqPtS.l0] at h
 | k + 1 => by
  have ih0 := laws_eqPtS.mono_l k
  ·intro y0 y1 y2; unfold laws_eqPtS.l0; repeat' first
   | (with_reducible exact ih0 _ _ _)
   | (with_reducible exact LeO.refl _)
   | (with_reducible exact LeO.none _)
   | (with_reducible refine LeO.ite ?_ ?_)
   | (with_reducible refine LeO.bind ?_ (fun _ => ?_))
   | exact ih0 _ _ _
   | exact LeO.none _
   | refine LeO.ite ?_ ?_
   | refine LeO.bind ?_ (fun _ => ?_)
theorem laws_eqPtS.mono : ∀ a0 a1 k, LeO (laws_eqPtS.f k a0 a1) (laws_eqPtS.f (k + 1) a0 a1) := by
 intro a0 a1 k; have ih0 := laws_eqPtS.mono_l k; unfold laws_eqPtS.f; repeat' first
   | (with_reducible exact ih0 _ _ _)
   | (with_reducible exact LeO.refl _)
   | (with_reducible exact LeO.none _)
   | (with_reducible refine LeO.ite ?_ ?_)
   | (with_reducible refine LeO.bind ?_ (fun _ => ?_))
   | exact ih0 _ _ _
   | exact LeO.none _
   | refine LeO.ite ?_ ?_
   | refine LeO.bind ?_ (fun _ => ?_)
def laws_eqPtS.T6 : Bool × List (List Nat × List Nat) := (true, [([], []), ([], []), ([0, 1], [0, 1]), ([2], [2]), ([], []), ([], []), ([4, 5], [4, 5]), ([6], [6]), ([3, 7], [3, 7]), ([8], [8])])
def laws_eqPtS.B6 : List Nat := [0, 0, 3, 7, 0, 0, 48, 112, 255, 511]
theorem laws_eqPtS.tab6 : rtab .any (opsOf Tryd.f35 6) = laws_eqPtS.T6 := by kernel_rfl
theorem laws_eqPtS.bits6 : waitsOk laws_eqPtS.T6.2 laws_eqPtS.B6 = true := by kernel_rfl
set_option maxHeartbeats 8000000 in
set_option maxRecDepth 100000 in
theorem laws_eqPtS.calls (k : Nat) (A0 : Option Addr) (c0 : Nat) (l0 : List (S97)) (A1 : Option Addr) (c1 : Nat) (l1 : List (S97)) (r : Bool) (w : World) (hr0 : Kd.C k97 w A0 l0.length l0) (hc0 : l0.length ≤ c0) (hr1 : Kd.C k97 w A1 l1.length l1) (hc1 : l1.length ≤ c1) (h : laws_eqPtS.f k l0 l1 = some r) :
  Calls Tryd.prog 35 #[.slice A0 l0.length c0, .slice A1 l1.length c1] w fun e w' => e = .returned (.bool r) ∧ Below w.heap.size w w' := by
 have hu97 := Tryd.underlying97; have HR0 := Aside0.mk hr0; have HC0 := Aside0.mk hc0; clear hr0 hc0; have HR1 := Aside0.mk hr1; have HC1 := Aside0.mk hc1; clear hr1 hc1; have HB := Aside0.mk (Below.refl w.heap.size w); have H : (if (l0.length : Int) = (l1.length : Int) then (laws_eqPtS.l0 k l0 l1 0) else (some false)) = some r := h; clear h; by_cases c3 : (l0.length : Int) = (l1.length : Int)
 ·rw [if_pos c3] at H; have c3b0 : ((l0.length : Int) == (l1.length : Int)) = true := beq_iff_eq.mpr c3; have c3b1 : ((l0.length : Int) != (l1.length : Int)) = false := bne_eq_false_iff_eq.mpr c3; have c3b2 : (l0.length == l1.length) = true := by first | simpa using c3 | (simp at c3 ⊢; omega)
  clear c3; have H' := Aside0.mk H; clear H; go_enter Tryd.func35, Tryd.ntmps35
  go_wp2
  go_loopg [5] k (fun kq v5 w' => ∃ (x5_1 : Int), v5 = .int .i64 x5_1 ∧ Aside0 (laws_eqPtS.l0 kq l0 l1 x5_1 = some r) ∧ Aside0 (kq ≤ k) ∧ Aside0 (Below w.heap.size w w'))
  case atStart => exact ⟨(0), (by first | rfl | (simp; done) | (simp [*]; done)), H', ⟨Nat.le_refl _⟩, ⟨by repeat (first | (with_reducible first | exact HB.out | apply below_alloc | apply pw_below_drewN | apply below_drew1) | exact HB.out)⟩⟩
  case round =>
   clear H'; try clear c1
   try clear p2
   try clear c3
   try clear c3b0
   try clear c3b1
   try clear c3b2
   obtain ⟨x5_1, rfl, HA, HK1, HB⟩ := hrel; cases gk with
   | zero => exact absurd HA.out (by simp [laws_eqPtS.l0])
   | succ k1 =>
    have H := HA.out; clear HA; simp only [laws_eqPtS.l0] at H; by_cases c4 : x5_1 < (l0.length : Int)
    ·rw [if_pos c4] at H; have c4b0 : decide (x5_1 < (l0.length : Int)) = true := decide_eq_true c4; clear c4; by_cases c5 : 0 ≤ x5_1
     ·rw [if_pos c5] at H; have c5b0 : decide (0 ≤ x5_1) = true := decide_eq_true c5; clear c5; by_cases c6 : x5_1 < (l1.length : Int)
      ·rw [if_pos c6] at H; have c6b0 : decide (x5_1 < (l1.length : Int)) = true := decide_eq_true c6; clear c6; replace H := Option.bind_eq_some_iff.mp H; obtain ⟨t281, A70, H⟩ := H; replace H : (if t281 = true then (laws_eqPtS.l0 k1 l0 l1 (wrap64 (x5_1 + 1))) else (some false)) = some r := H; have A7 := Aside0.mk A70; clear A70; by_cases c8 : t281 = true
       ·subst c8; have H1 : (laws_eqPtS.l0 k1 l0 l1 (wrap64 (x5_1 + 1))) = some r := by rw [if_pos rfl] at H; exact H
        clear H; have H := H1; clear H1; have H' := Aside0.mk H; clear H; try go_wp2
        have n0_ := Aside0.mk (below_drew1 HB.out); clear HB; have HB := n0_; clear n0_; have p279 : 0 ≤ (x5_1 : Int) := of_decide_eq_true (by first | (with_reducible assumption) | assumption); have q279 : x5_1 < (l0.length : Int) := of_decide_eq_true (by first | (with_reducible assumption) | assumption); obtain ⟨ad279, e279, hx279_0, hx279_1⟩ := at_T97 HR0.out x5_1 p279 q279; have hw279_1 := hx279_1; have hw279_0 := hx279_0; cases e279; replace hx279_0 := (HB.out.cell (World.block_lt_of_cell? w _ hx279_0)).trans hx279_0; replace hx279_1 := (HB.out.cell (World.block_lt_of_cell? w _ hx279_1)).trans hx279_1; replace p279 := eq_true p279; replace q279 := eq_true q279; have p280 : 0 ≤ (x5_1 : Int) := of_decide_eq_true (by first | (with_reducible assumption) | assumption); have q280 : x5_1 < (l1.length : Int) := of_decide_eq_true (by first | (with_reducible assumption) | assumption); obtain ⟨ad280, e280, hx280_0, hx280_1⟩ := at_T97 HR1.out x5_1 p280 q280; have hw280_1 := hx280_1; have hw280_0 := hx280_0; cases e280; replace hx280_0 := (HB.out.cell (World.block_lt_of_cell? w _ hx280_0)).trans hx280_0; replace hx280_1 := (HB.out.cell (World.block_lt_of_cell? w _ hx280_1)).trans hx280_1; replace p280 := eq_true p280; replace q280 := eq_true q280; refine start_ (n := 10) (S := fun w' => w'.cell? (ad279.add ((x5_1).toNat * 2)) = some (.int .i64 ((rd_T97 l0 x5_1).f0)) ∧ w'.cell? ⟨(ad279.add ((x5_1).toNat * 2)).block, (ad279.add ((x5_1).toNat * 2)).off + 1, none⟩ = some (.int .i64 ((rd_T97 l0 x5_1).f1)) ∧ w'.cell? (ad280.add ((x5_1).toNat * 2)) = some (.int .i64 ((rd_T97 l1 x5_1).f0)) ∧ w'.cell? ⟨(ad280.add ((x5_1).toNat * 2)).block, (ad280.add ((x5_1).toNat * 2)).off + 1, none⟩ = some (.int .i64 ((rd_T97 l1 x5_1).f1))) (ds := []) #[false, false, false, false, false, false, false, false, false, false] (by kernel_rfl) rfl rfl ⟨((HB.out.cell (World.block_lt_of_cell? w _ hw279_0)).trans hw279_0), ((HB.out.cell (World.block_lt_of_cell? w _ hw279_1)).trans hw279_1), ((HB.out.cell (World.block_lt_of_cell? w _ hw280_0)).trans hw280_0), ((HB.out.cell (World.block_lt_of_cell? w _ hw280_1)).trans hw280_1)⟩ (fun hHeld => ?_); refine with_tabW laws_eqPtS.tab6 laws_eqPtS.bits6 (fun HT_ HW_ => ?_)
        generalize wr.drew = w9 at HB hx279_0 hx279_1 hx280_0 hx280_1 hHeld ⊢
        refine pu_ HT_.out 0 17 {} ?_; refine pu_ HT_.out 1 18 {} ?_; refine pu_ HT_.out 2 19 {} ?_; refine pu_ HT_.out 4 21 {} ?_; refine pu_ HT_.out 5 22 {} ?_; refine pu_ HT_.out 6 23 {} ?_; refine tk_ HT_.out HW_.out 3 20 hHeld {} ?_; refine tk_ HT_.out HW_.out 7 24 hHeld {} ?_
        refine one_ (i := 8) (N := some 25) #[true, true, true, true, true, true, true, true, true, false] rfl rfl (one_of HT_.out (by kernel_rfl)) (by decide) (fun K hK => ?_); refine goes_ Tryd.func70 (by kernel_rfl) rfl #[.agg #[.int .i64 ((rd_T97 l0 x5_1).f0), .int .i64 ((rd_T97 l0 x5_1).f1)], .agg #[.int .i64 ((rd_T97 l1 x5_1).f0), .int .i64 ((rd_T97 l1 x5_1).f1)]] (by rfl) rfl rfl (by (try simp only [List.map_toArray, List.map_cons, List.map_nil]); first | done | rfl | (simp only [List.length_drop, List.length_take]; rfl)) ?_; with_reducible refine (laws_eqPt.calls ((rd_T97 l0 x5_1).f0) ((rd_T97 l0 x5_1).f1) ((rd_T97 l1 x5_1).f0) ((rd_T97 l1 x5_1).f1) true _ A7.out).mono ?_
        rintro e w10 ⟨rfl, hb⟩; refine ⟨_, rfl, ?_⟩; have n0_ := Aside0.mk (below_step (by repeat (first | (with_reducible first | exact HB.out | apply below_alloc | apply pw_below_drewN | apply below_drew1) | exact HB.out)) hb); clear HB; have HB := n0_; clear n0_; (try clear hb); (try clear hb2); (try clear hk); (try clear hi); refine hK.out _ _ ⟨((HB.out.cell (World.block_lt_of_cell? w _ hw279_0)).trans hw279_0), ((HB.out.cell (World.block_lt_of_cell? w _ hw279_1)).trans hw279_1), ((HB.out.cell (World.block_lt_of_cell? w _ hw280_0)).trans hw280_0), ((HB.out.cell (World.block_lt_of_cell? w _ hw280_1)).trans hw280_1)⟩ (fun hHeld => ?_); clear hK K; refine norm_ (a' := ?_) ?_ ?_; rotate_left; ·show Act.put _ (some 25) _ = _; simp only [Act.put, Geo.sa_, Geo.sb_, Geo.sc_, i64_w, i32_w]; rfl
        refine pu_ HT_.out 9 26 {} ?_
        refine done_ (done_of HT_.out (by kernel_rfl)) ?_; try go_wp2
        go_roundg k1
        case measure => have := HK1.out; omega
        case rel => exact ⟨(wrap64 (x5_1 + 1)), (by first | rfl | (simp; done) | (simp [*]; done)), H', ⟨by have := HK1.out; omega⟩, ⟨by repeat (first | (with_reducible first | exact HB.out | apply below_alloc | apply pw_below_drewN | apply below_drew1) | exact HB.out)⟩⟩
       ·replace c8 := Bool.eq_false_iff.mpr c8; subst c8; have H1 : (some false) = some r := by rw [if_neg (show ¬ (false = true) by decide)] at H; exact H
        clear H; have H := H1; clear H1; obtain rfl := Option.some.inj H; try go_wp2
        have n0_ := Aside0.mk (below_drew1 HB.out); clear HB; have HB := n0_; clear n0_; have p279 : 0 ≤ (x5_1 : Int) := of_decide_eq_true (by first | (with_reducible assumption) | assumption); have q279 : x5_1 < (l0.length : Int) := of_decide_eq_true (by first | (with_reducible assumption) | assumption); obtain ⟨ad279, e279, hx279_0, hx279_1⟩ := at_T97 HR0.out x5_1 p279 q279; have hw279_1 := hx279_1; have hw279_0 := hx279_0; cases e279; replace hx279_0 := (HB.out.cell (World.block_lt_of_cell? w _ hx279_0)).trans hx279_0; replace hx279_1 := (HB.out.cell (World.block_lt_of_cell? w _ hx279_1)).trans hx279_1; replace p279 := eq_true p279; replace q279 := eq_true q279; have p280 : 0 ≤ (x5_1 : Int) := of_decide_eq_true (by first | (with_reducible assumption) | assumption); have q280 : x5_1 < (l1.length : Int) := of_decide_eq_true (by first | (with_reducible assumption) | assumption); obtain ⟨ad280, e280, hx280_0, hx280_1⟩ := at_T97 HR1.out x5_1 p280 q280; have hw280_1 := hx280_1; have hw280_0 := hx280_0; cases e280; replace hx280_0 := (HB.out.cell (World.block_lt_of_cell? w _ hx280_0)).trans hx280_0; replace hx280_1 := (HB.out.cell (World.block_lt_of_cell? w _ hx280_1)).trans hx280_1; replace p280 := eq_true p280; replace q280 := eq_true q280; refine start_ (n := 10) (S := fun w' => w'.cell? (ad279.add ((x5_1).toNat * 2)) = some (.int .i64 ((rd_T97 l0 x5_1).f0)) ∧ w'.cell? ⟨(ad279.add ((x5_1).toNat * 2)).block, (ad279.add ((x5_1).toNat * 2)).off + 1, none⟩ = some (.int .i64 ((rd_T97 l0 x5_1).f1)) ∧ w'.cell? (ad280.add ((x5_1).toNat * 2)) = some (.int .i64 ((rd_T97 l1 x5_1).f0)) ∧ w'.cell? ⟨(ad280.add ((x5_1).toNat * 2)).block, (ad280.add ((x5_1).toNat * 2)).off + 1, none⟩ = some (.int .i64 ((rd_T97 l1 x5_1).f1))) (ds := []) #[false, false, false, false, false, false, false, false, false, false] (by kernel_rfl) rfl rfl ⟨((HB.out.cell (World.block_lt_of_cell? w _ hw279_0)).trans hw279_0), ((HB.out.cell (World.block_lt_of_cell? w _ hw279_1)).trans hw279_1), ((HB.out.cell (World.block_lt_of_cell? w _ hw280_0)).trans hw280_0), ((HB.out.cell (World.block_lt_of_cell? w _ hw280_1)).trans hw280_1)⟩ (fun hHeld => ?_); refine with_tabW laws_eqPtS.tab6 laws_eqPtS.bits6 (fun HT_ HW_ => ?_)
        generalize wr.drew = w11 at HB hx279_0 hx279_1 hx280_0 hx280_1 hHeld ⊢
        refine pu_ HT_.out 0 17 {} ?_; refine pu_ HT_.out 1 18 {} ?_; refine pu_ HT_.out 2 19 {} ?_; refine pu_ HT_.out 4 21 {} ?_; refine pu_ HT_.out 5 22 {} ?_; refine pu_ HT_.out 6 23 {} ?_; refine tk_ HT_.out HW_.out 3 20 hHeld {} ?_; refine tk_ HT_.out HW_.out 7 24 hHeld {} ?_
        refine one_ (i := 8) (N := some 25) #[true, true, true, true, true, true, true, true, true, false] rfl rfl (one_of HT_.out (by kernel_rfl)) (by decide) (fun K hK => ?_); refine goes_ Tryd.func70 (by kernel_rfl) rfl #[.agg #[.int .i64 ((rd_T97 l0 x5_1).f0), .int .i64 ((rd_T97 l0 x5_1).f1)], .agg #[.int .i64 ((rd_T97 l1 x5_1).f0), .int .i64 ((rd_T97 l1 x5_1).f1)]] (by rfl) rfl rfl (by (try simp only [List.map_toArray, List.map_cons, List.map_nil]); first | done | rfl | (simp only [List.length_drop, List.length_take]; rfl)) ?_; with_reducible refine (laws_eqPt.calls ((rd_T97 l0 x5_1).f0) ((rd_T97 l0 x5_1).f1) ((rd_T97 l1 x5_1).f0) ((rd_T97 l1 x5_1).f1) false _ A7.out).mono ?_
        rintro e w12 ⟨rfl, hb⟩; refine ⟨_, rfl, ?_⟩; have n0_ := Aside0.mk (below_step (by repeat (first | (with_reducible first | exact HB.out | apply below_alloc | apply pw_below_drewN | apply below_drew1) | exact HB.out)) hb); clear HB; have HB := n0_; clear n0_; (try clear hb); (try clear hb2); (try clear hk); (try clear hi); refine hK.out _ _ ⟨((HB.out.cell (World.block_lt_of_cell? w _ hw279_0)).trans hw279_0), ((HB.out.cell (World.block_lt_of_cell? w _ hw279_1)).trans hw279_1), ((HB.out.cell (World.block_lt_of_cell? w _ hw280_0)).trans hw280_0), ((HB.out.cell (World.block_lt_of_cell? w _ hw280_1)).trans hw280_1)⟩ (fun hHeld => ?_); clear hK K; refine norm_ (a' := ?_) ?_ ?_; rotate_left; ·show Act.put _ (some 25) _ = _; simp only [Act.put, Geo.sa_, Geo.sb_, Geo.sc_, i64_w, i32_w]; rfl
        refine pu_ HT_.out 9 26 {} ?_
        refine done_ (done_of HT_.out (by kernel_rfl)) ?_; try go_wp2
        go_ret
        exact ⟨by first | rfl | (simp [errW_none, errW_some] <;> rfl) | (simp [*, errW_none, errW_some] <;> rfl), by repeat (first | (with_reducible first | exact HB.out | apply below_alloc | apply pw_below_drewN | apply below_drew1) | exact HB.out)⟩
      ·rw [if_neg c6] at H; exact absurd H (by simp)
     ·rw [if_neg c5] at H; exact absurd H (by simp)
    ·rw [if_neg c4] at H; have c4b0 : decide (x5_1 < (l0.length : Int)) = false := decide_eq_false c4; clear c4; obtain rfl := Option.some.inj H; go_wp2
     go_ret
     exact ⟨by first | rfl | (simp [errW_none, errW_some] <;> rfl) | (simp [*, errW_none, errW_some] <;> rfl), by repeat (first | (with_reducible first | exact HB.out | apply below_alloc | apply pw_below_drewN | apply below_drew1) | exact HB.out)⟩
 ·rw [if_neg c3] at H; have c3b0 : ((l0.length : Int) == (l1.length : Int)) = false := beq_eq_false_iff_ne.mpr c3; have c3b1 : ((l0.length : Int) != (l1.length : Int)) = true := bne_iff_ne.mpr c3; have c3b2 : (l0.length == l1.length) = false := by first | simpa using c3 | (simp at c3 ⊢; omega)
  obtain rfl := Option.some.inj H; go_enter Tryd.func35, Tryd.ntmps35
  go_wp2
  go_ret
  exact ⟨by first | rfl | (simp [errW_none, errW_some] <;> rfl) | (simp [*, errW_none, errW_some] <;> rfl), by repeat (first | (with_reducible first | exact HB.out | apply below_alloc | apply pw_below_drewN | apply below_drew1) | exact HB.out)⟩

end Go.Proofs.YtddbahlofgkoaaaDoor.PA
namespace Go.Proofs.YtddbahlofgkoaaaDoor.PA
open Go.RowKit Go.Proofs.YtddbahlofgkoaaaDoorW.PrintWords Go.Proofs.YtddbahlofgkoaaaDoorW.PrintLast Go.Proofs.YtddbahlofgkoaaaDoorW.PrintMore
attribute [local go_sem] max2_int min2_int max_two min_two max_three min_three max_four min_four   -- for this text's walks alone
set_option linter.unusedVariables false
set_option linter.unusedSimpArgs false

/-! ### laws_eqPtSS: function 49 -/
def laws_eqPtSS.l0 : Nat → List (List (S97)) → List (List (S97)) → Int → Option (Bool)
 | 0, _, _, _ => none
 | k + 1, x0, x1, x5 => if x5 < (x0.length : Int) then (if 0 ≤ x5 then (if x5 < (x1.length : Int) then ((laws_eqPtS.f k (rd_L6 x0 x5) (rd_L6 x1 x5)).bind fun t574 => (if t574 = true then (laws_eqPtSS.l0 k x0 x1 (wrap64 (x5 + 1))) else (some false))) else (none)) else (none)) else (some true)
def laws_eqPtSS.f (k : Nat) (l0 : List (List (S97))) (l1 : List (List (S97))) : Option (Bool) := if (l0.length : Int) = (l1.length : Int) then (laws_eqPtSS.l0 k l0 l1 0) else (some false)
theorem laws_eqPtSS.mono_l : ∀ k, (∀ y0 y1 y2, LeO (laws_eqPtSS.l0 k y0 y1 y2) (laws_eqPtSS.l0 (k + 1) y0 y1 y2))
 | 0 => fun _ _ _ r h => by simp [laws_eqPtSS.l0] at h
 | k + 1 => by
  have ih0 := laws_eqPtSS.mono_l k
  ·intro y0 y1 y2; unfold laws_eqPtSS.l0; repeat' first
   | (with_reducible exact ih0 _ _ _)
   | (with_reducible exact laws_eqPtS.mono _ _ _)
   | (with_reducible exact LeO.refl _)
   | (with_reducible exact LeO.none _)
   | (with_reducible refine LeO.ite ?_ ?_)
   | (with_reducible refine LeO.bind ?_ (fun _ => ?_))
   | exact ih0 _ _ _
   | exact laws_eqPtS.mono _ _ _
   | exact LeO.none _
   | refine LeO.ite ?_ ?_
   | refine LeO.bind ?_ (fun _ => ?_)
theorem laws_eqPtSS.mono : ∀ a0 a1 k, LeO (laws_eqPtSS.f k a0 a1) (laws_eqPtSS.f (k + 1) a0 a1) := by
 intro a0 a1 k; have ih0 := laws_eqPtSS.mono_l k; unfold laws_eqPtSS.f; repeat' first
   | (with_reducible exact ih0 _ _ _)
   | (with_reducible exact laws_eqPtS.mono _ _ _)
   | (with_reducible exact LeO.refl _)
   | (with_reducible exact LeO.none _)
   | (with_reducible refine LeO.ite ?_ ?_)
   | (with_reducible refine LeO.bind ?_ (fun _ => ?_))
   | exact ih0 _ _ _
   | exact laws_eqPtS.mono _ _ _
   | exact LeO.none _
   | refine LeO.ite ?_ ?_
   | refine LeO.bind ?_ (fun _ => ?_)
def laws_eqPtSS.T6 : Bool × List (List Nat × List Nat) := (true, [([], []), ([], []), ([0, 1], [0, 1]), ([2], [2]), ([], []), ([], []), ([4, 5], [4, 5]), ([6], [6]), ([3, 7], [3, 7]), ([8], [8])])
def laws_eqPtSS.B6 : List Nat := [0, 0, 3, 7, 0, 0, 48, 112, 255, 511]
theorem laws_eqPtSS.tab6 : rtab .any (opsOf Tryd.f49 6) = laws_eqPtSS.T6 := by kernel_rfl
theorem laws_eqPtSS.bits6 : waitsOk laws_eqPtSS.T6.2 laws_eqPtSS.B6 = true := by kernel_rfl
set_option maxHeartbeats 8000000 in
set_option maxRecDepth 100000 in
theorem laws_eqPtSS.calls (k : Nat) (A0 : Option Addr) (c0 : Nat) (l0 : List (List (S97))) (A1 : Option Addr) (c1 : Nat) (l1 : List (List (S97))) (r : Bool) (w : World) (hr0 : Kd.C (Kd.slice 97 k97) w A0 l0.length l0) (hc0 : l0.length ≤ c0) (hr1 : Kd.C (Kd.slice 97 k97) w A1 l1.length l1) (hc1 : l1.length ≤ c1) (h : laws_eqPtSS.f k l0 l1 = some r) :
  Calls Tryd.prog 49 #[.slice A0 l0.length c0, .slice A1 l1.length c1] w fun e w' => e = .returned (.bool r) ∧ Below w.heap.size w w' := by
 have HR0 := Aside0.mk hr0; have HC0 := Aside0.mk hc0; clear hr0 hc0; have HR1 := Aside0.mk hr1; have HC1 := Aside0.mk hc1; clear hr1 hc1; have HB := Aside0.mk (Below.refl w.heap.size w); have H : (if (l0.length : Int) = (l1.length : Int) then (laws_eqPtSS.l0 k l0 l1 0) else (some false)) = some r := h; clear h; by_cases c3 : (l0.length : Int) = (l1.length : Int)
 ·rw [if_pos c3] at H; have c3b0 : ((l0.length : Int) == (l1.length : Int)) = true := beq_iff_eq.mpr c3; have c3b1 : ((l0.length : Int) != (l1.length : Int)) = false := bne_eq_false_iff_eq.mpr c3; have c3b2 : (l0.length == l1.length) = true := by first | simpa using c3 | (simp at c3 ⊢; omega)
  clear c3; have H' := Aside0.mk H; clear H; go_enter Tryd.func49, Tryd.ntmps49
  go_wp2
  go_loopg [5] k (fun kq v5 w' => ∃ (x5_1 : Int), v5 = .int .i64 x5_1 ∧ Aside0 (laws_eqPtSS.l0 kq l0 l1 x5_1 = some r) ∧ Aside0 (kq ≤ k) ∧ Aside0 (Below w.heap.size w w'))
  case atStart => exact ⟨(0), (by first | rfl | (simp; done) | (simp [*]; done)), H', ⟨Nat.le_refl _⟩, ⟨by repeat (first | (with_reducible first | exact HB.out | apply below_alloc | apply pw_below_drewN | apply below_drew1) | exact HB.out)⟩⟩
  case round =>
   clear H'; try clear c1
   try clear p2
   try clear c3
   try clear c3b0
   try clear c3b1
   try clear c3b2
   obtain ⟨x5_1, rfl, HA, HK1, HB⟩ := hrel; cases gk with
   | zero => exact absurd HA.out (by simp [laws_eqPtSS.l0])
   | succ k1 =>
    have H := HA.out; clear HA; simp only [laws_eqPtSS.l0] at H; by_cases c4 : x5_1 < (l0.length : Int)
    ·rw [if_pos c4] at H; have c4b0 : decide (x5_1 < (l0.length : Int)) = true := decide_eq_true c4; clear c4; by_cases c5 : 0 ≤ x5_1
     ·rw [if_pos c5] at H; have c5b0 : decide (0 ≤ x5_1) = true := decide_eq_true c5; clear c5; by_cases c6 : x5_1 < (l1.length : Int)
      ·rw [if_pos c6] at H; have c6b0 : decide (x5_1 < (l1.length : Int)) = true := decide_eq_true c6; clear c6; replace H := Option.bind_eq_some_iff.mp H; obtain ⟨t574, A70, H⟩ := H; replace H : (if t574 = true then (laws_eqPtSS.l0 k1 l0 l1 (wrap64 (x5_1 + 1))) else (some false)) = some r := H; have A7 := Aside0.mk A70; clear A70; by_cases c8 : t574 = true
       ·subst c8; have H1 : (laws_eqPtSS.l0 k1 l0 l1 (wrap64 (x5_1 + 1))) = some r := by rw [if_pos rfl] at H; exact H
        clear H; have H := H1; clear H1; have H' := Aside0.mk H; clear H; try go_wp2
        have n0_ := Aside0.mk (below_drew1 HB.out); clear HB; have HB := n0_; clear n0_; have p572 : 0 ≤ (x5_1 : Int) := of_decide_eq_true (by first | (with_reducible assumption) | assumption); have q572 : x5_1 < (l0.length : Int) := of_decide_eq_true (by first | (with_reducible assumption) | assumption); obtain ⟨ad572, A572_0, c572_0, e572, hx572_0, hl572_0, hi572_0⟩ := at_L6 HR0.out x5_1 p572 q572; have hw572_0 := hx572_0; cases e572; replace hx572_0 := (HB.out.cell (World.block_lt_of_cell? w _ hx572_0)).trans hx572_0; have HR572_0 := Aside0.mk hi572_0; have HC572_0 := Aside0.mk hl572_0; clear hi572_0 hl572_0; replace p572 := eq_true p572; replace q572 := eq_true q572; have p573 : 0 ≤ (x5_1 : Int) := of_decide_eq_true (by first | (with_reducible assumption) | assumption); have q573 : x5_1 < (l1.length : Int) := of_decide_eq_true (by first | (with_reducible assumption) | assumption); obtain ⟨ad573, A573_0, c573_0, e573, hx573_0, hl573_0, hi573_0⟩ := at_L6 HR1.out x5_1 p573 q573; have hw573_0 := hx573_0; cases e573; replace hx573_0 := (HB.out.cell (World.block_lt_of_cell? w _ hx573_0)).trans hx573_0; have HR573_0 := Aside0.mk hi573_0; have HC573_0 := Aside0.mk hl573_0; clear hi573_0 hl573_0; replace p573 := eq_true p573; replace q573 := eq_true q573; refine start_ (n := 10) (S := fun w' => w'.cell? (ad572.add (x5_1).toNat) = some (.slice A572_0 (rd_L6 l0 x5_1).length c572_0) ∧ w'.cell? (ad573.add (x5_1).toNat) = some (.slice A573_0 (rd_L6 l1 x5_1).length c573_0)) (ds := []) #[false, false, false, false, false, false, false, false, false, false] (by kernel_rfl) rfl rfl ⟨((HB.out.cell (World.block_lt_of_cell? w _ hw572_0)).trans hw572_0), ((HB.out.cell (World.block_lt_of_cell? w _ hw573_0)).trans hw573_0)⟩ (fun hHeld => ?_); refine with_tabW laws_eqPtSS.tab6 laws_eqPtSS.bits6 (fun HT_ HW_ => ?_)
        generalize wr.drew = w9 at HB HR572_0 HR573_0 hx572_0 hx573_0 hHeld ⊢
        refine pu_ HT_.out 0 17 {} ?_; refine pu_ HT_.out 1 18 {} ?_; refine pu_ HT_.out 2 19 {} ?_; refine pu_ HT_.out 4 21 {} ?_; refine pu_ HT_.out 5 22 {} ?_; refine pu_ HT_.out 6 23 {} ?_; refine tk_ HT_.out HW_.out 3 20 hHeld {} ?_; refine tk_ HT_.out HW_.out 7 24 hHeld {} ?_
        refine one_ (i := 8) (N := some 25) #[true, true, true, true, true, true, true, true, true, false] rfl rfl (one_of HT_.out (by kernel_rfl)) (by decide) (fun K hK => ?_); refine goes_ Tryd.func35 (by kernel_rfl) rfl #[.slice A572_0 (rd_L6 l0 x5_1).length c572_0, .slice A573_0 (rd_L6 l1 x5_1).length c573_0] (by rfl) rfl rfl (by (try simp only [List.map_toArray, List.map_cons, List.map_nil]); first | done | rfl | (simp only [List.length_drop, List.length_take]; rfl)) ?_; with_reducible refine (laws_eqPtS.calls k1 _ _ (rd_L6 l0 x5_1) _ _ (rd_L6 l1 x5_1) true _ ?side1 ?side2 ?side3 ?side4 A7.out).mono ?_
        (case side1 => repeat (first | exact (Kd.C_below HR572_0.out HB.out) | (with_reducible refine Kd.C_alloc ?_ _) | (with_reducible refine Kd.C_drewN ?_ _) | (with_reducible refine Kd.C_drew ?_)))
        (case side2 => exact HC572_0.out)
        (case side3 => repeat (first | exact (Kd.C_below HR573_0.out HB.out) | (with_reducible refine Kd.C_alloc ?_ _) | (with_reducible refine Kd.C_drewN ?_ _) | (with_reducible refine Kd.C_drew ?_)))
        (case side4 => exact HC573_0.out)
        rintro e w10 ⟨rfl, hb⟩; refine ⟨_, rfl, ?_⟩; have n0_ := Aside0.mk (below_step (by repeat (first | (with_reducible first | exact HB.out | apply below_alloc | apply pw_below_drewN | apply below_drew1) | exact HB.out)) hb); clear HB; have HB := n0_; clear n0_; (try clear hb); (try clear hb2); (try clear hk); (try clear hi); refine hK.out _ _ ⟨((HB.out.cell (World.block_lt_of_cell? w _ hw572_0)).trans hw572_0), ((HB.out.cell (World.block_lt_of_cell? w _ hw573_0)).trans hw573_0)⟩ (fun hHeld => ?_); clear hK K; refine norm_ (a' := ?_) ?_ ?_; rotate_left; ·show Act.put _ (some 25) _ = _; simp only [Act.put, Geo.sa_, Geo.sb_, Geo.sc_, i64_w, i32_w]; rfl
        refine pu_ HT_.out 9 26 {} ?_
        refine done_ (done_of HT_.out (by kernel_rfl)) ?_; try go_wp2
        go_roundg k1
        case measure => have := HK1.out; omega
        case rel => exact ⟨(wrap64 (x5_1 + 1)), (by first | rfl | (simp; done) | (simp [*]; done)), H', ⟨by have := HK1.out; omega⟩, ⟨by repeat (first | (with_reducible first | exact HB.out | apply below_alloc | apply pw_below_drewN | apply below_drew1) | exact HB.out)⟩⟩
       ·replace c8 := Bool.eq_false_iff.mpr c8; subst c8; have H1 : (some false) = some r := by rw [if_neg (show ¬ (false = true) by decide)] at H; exact H
        clear H; have H := H1; clear H1; obtain rfl := Option.some.inj H; try go_wp2
        have n0_ := Aside0.mk (below_drew1 HB.out); clear HB; have HB := n0_; clear n0_; have p572 : 0 ≤ (x5_1 : Int) := of_decide_eq_true (by first | (with_reducible assumption) | assumption); have q572 : x5_1 < (l0.length : Int) := of_decide_eq_true (by first | (with_reducible assumption) | assumption); obtain ⟨ad572, A572_0, c572_0, e572, hx572_0, hl572_0, hi572_0⟩ := at_L6 HR0.out x5_1 p572 q572; have hw572_0 := hx572_0; cases e572; replace hx572_0 := (HB.out.cell (World.block_lt_of_cell? w _ hx572_0)).trans hx572_0; have HR572_0 := Aside0.mk hi572_0; have HC572_0 := Aside0.mk hl572_0; clear hi572_0 hl572_0; replace p572 := eq_true p572; replace q572 := eq_true q572; have p573 : 0 ≤ (x5_1 : Int) := of_decide_eq_true (by first | (with_reducible assumption) | assumption); have q573 : x5_1 < (l1.length : Int) := of_decide_eq_true (by first | (with_reducible assumption) | assumption); obtain ⟨ad573, A573_0, c573_0, e573, hx573_0, hl573_0, hi573_0⟩ := at_L6 HR1.out x5_1 p573 q573; have hw573_0 := hx573_0; cases e573; replace hx573_0 := (HB.out.cell (World.block_lt_of_cell? w _ hx573_0)).trans hx573_0; have HR573_0 := Aside0.mk hi573_0; have HC573_0 := Aside0.mk hl573_0; clear hi573_0 hl573_0; replace p573 := eq_true p573; replace q573 := eq_true q573; refine start_ (n := 10) (S := fun w' => w'.cell? (ad572.add (x5_1).toNat) = some (.slice A572_0 (rd_L6 l0 x5_1).length c572_0) ∧ w'.cell? (ad573.add (x5_1).toNat) = some (.slice A573_0 (rd_L6 l1 x5_1).length c573_0)) (ds := []) #[false, false, false, false, false, false, false, false, false, false] (by kernel_rfl) rfl rfl ⟨((HB.out.cell (World.block_lt_of_cell? w _ hw572_0)).trans hw572_0), ((HB.out.cell (World.block_lt_of_cell? w _ hw573_0)).trans hw573_0)⟩ (fun hHeld => ?_); refine with_tabW laws_eqPtSS.tab6 laws_eqPtSS.bits6 (fun HT_ HW_ => ?_)
        generalize wr.drew = w11 at HB HR572_0 HR573_0 hx572_0 hx573_0 hHeld ⊢
        refine pu_ HT_.out 0 17 {} ?_; refine pu_ HT_.out 1 18 {} ?_; refine pu_ HT_.out 2 19 {} ?_; refine pu_ HT_.out 4 21 {} ?_; refine pu_ HT_.out 5 22 {} ?_; refine pu_ HT_.out 6 23 {} ?_; refine tk_ HT_.out HW_.out 3 20 hHeld {} ?_; refine tk_ HT_.out HW_.out 7 24 hHeld {} ?_
        refine one_ (i := 8) (N := some 25) #[true, true, true, true, true, true, true, true, true, false] rfl rfl (one_of HT_.out (by kernel_rfl)) (by decide) (fun K hK => ?_); refine goes_ Tryd.func35 (by kernel_rfl) rfl #[.slice A572_0 (rd_L6 l0 x5_1).length c572_0, .slice A573_0 (rd_L6 l1 x5_1).length c573_0] (by rfl) rfl rfl (by (try simp only [List.map_toArray, List.map_cons, List.map_nil]); first | done | rfl | (simp only [List.length_drop, List.length_take]; rfl)) ?_; with_reducible refine (laws_eqPtS.calls k1 _ _ (rd_L6 l0 x5_1) _ _ (rd_L6 l1 x5_1) false _ ?side1 ?side2 ?side3 ?side4 A7.out).mono ?_
        (case side1 => repeat (first | exact (Kd.C_below HR572_0.out HB.out) | (with_reducible refine Kd.C_alloc ?_ _) | (with_reducible refine Kd.C_drewN ?_ _) | (with_reducible refine Kd.C_drew ?_)))
        (case side2 => exact HC572_0.out)
        (case side3 => repeat (first | exact (Kd.C_below HR573_0.out HB.out) | (with_reducible refine Kd.C_alloc ?_ _) | (with_reducible refine Kd.C_drewN ?_ _) | (with_reducible refine Kd.C_drew ?_)))
        (case side4 => exact HC573_0.out)
        rintro e w12 ⟨rfl, hb⟩; refine ⟨_, rfl, ?_⟩; have n0_ := Aside0.mk (below_step (by repeat (first | (with_reducible first | exact HB.out | apply below_alloc | apply pw_below_drewN | apply below_drew1) | exact HB.out)) hb); clear HB; have HB := n0_; clear n0_; (try clear hb); (try clear hb2); (try clear hk); (try clear hi); refine hK.out _ _ ⟨((HB.out.cell (World.block_lt_of_cell? w _ hw572_0)).trans hw572_0), ((HB.out.cell (World.block_lt_of_cell? w _ hw573_0)).trans hw573_0)⟩ (fun hHeld => ?_); clear hK K; refine norm_ (a' := ?_) ?_ ?_; rotate_left; ·show Act.put _ (some 25) _ = _; simp only [Act.put, Geo.sa_, Geo.sb_, Geo.sc_, i64_w, i32_w]; rfl
        refine pu_ HT_.out 9 26 {} ?_
        refine done_ (done_of HT_.out (by kernel_rfl)) ?_; try go_wp2
        go_ret
        exact ⟨by first | rfl | (simp [errW_none, errW_some] <;> rfl) | (simp [*, errW_none, errW_some] <;> rfl), by repeat (first | (with_reducible first | exact HB.out | apply below_alloc | apply pw_below_drewN | apply below_drew1) | exact HB.out)⟩
      ·rw [if_neg c6] at H; exact absurd H (by simp)
     ·rw [if_neg c5] at H; exact absurd H (by simp)
    ·rw [if_neg c4] at H; have c4b0 : decide (x5_1 < (l0.length : Int)) = false := decide_eq_false c4; clear c4; obtain rfl := Option.some.inj H; go_wp2
     go_ret
     exact ⟨by first | rfl | (simp [errW_none, errW_some] <;> rfl) | (simp [*, errW_none, errW_some] <;> rfl), by repeat (first | (with_reducible first | exact HB.out | apply below_alloc | apply pw_below_drewN | apply below_drew1) | exact HB.out)⟩
 ·rw [if_neg c3] at H; have c3b0 : ((l0.length : Int) == (l1.length : Int)) = false := beq_eq_false_iff_ne.mpr c3; have c3b1 : ((l0.length : Int) != (l1.length : Int)) = true := bne_iff_ne.mpr c3; have c3b2 : (l0.length == l1.length) = false := by first | simpa using c3 | (simp at c3 ⊢; omega)
  obtain rfl := Option.some.inj H; go_enter Tryd.func49, Tryd.ntmps49
  go_wp2
  go_ret
  exact ⟨by first | rfl | (simp [errW_none, errW_some] <;> rfl) | (simp [*, errW_none, errW_some] <;> rfl), by repeat (first | (with_reducible first | exact HB.out | apply below_alloc | apply pw_below_drewN | apply below_drew1) | exact HB.out)⟩

end Go.Proofs.YtddbahlofgkoaaaDoor.PA
namespace Go.Proofs.YtddbahlofgkoaaaDoor.PA
open Go.RowKit Go.Proofs.YtddbahlofgkoaaaDoorW.PrintWords Go.Proofs.YtddbahlofgkoaaaDoorW.PrintLast Go.Proofs.YtddbahlofgkoaaaDoorW.PrintMore
attribute [local go_sem] max2_int min2_int max_two min_two max_three min_three max_four min_four   -- for this text's walks alone
set_option linter.unusedVariables false
set_option linter.unusedSimpArgs false

/-! ### laws_eqPlate: function 16 -/
def laws_eqPlate.f (k : Nat) (l0_0 : List (S97)) (l0_1 : List (List (S97))) (l1_0 : List (S97)) (l1_1 : List (List (S97))) : Option (Bool) := (laws_eqPtS.f k l0_0 l1_0).bind fun t577 => (if t577 = true then ((laws_eqPtSS.f k l0_1 l1_1).bind fun t578 => (if t578 = true then (some true) else (some false))) else (some false))
theorem laws_eqPlate.mono : ∀ a0 a1 a2 a3 k, LeO (laws_eqPlate.f k a0 a1 a2 a3) (laws_eqPlate.f (k + 1) a0 a1 a2 a3) := by
 intro a0 a1 a2 a3 k; unfold laws_eqPlate.f; repeat' first
   | (with_reducible exact laws_eqPtS.mono _ _ _)
   | (with_reducible exact laws_eqPtSS.mono _ _ _)
   | (with_reducible exact LeO.refl _)
   | (with_reducible exact LeO.none _)
   | (with_reducible refine LeO.ite ?_ ?_)
   | (with_reducible refine LeO.bind ?_ (fun _ => ?_))
   | exact laws_eqPtS.mono _ _ _
   | exact laws_eqPtSS.mono _ _ _
   | exact LeO.none _
   | refine LeO.ite ?_ ?_
   | refine LeO.bind ?_ (fun _ => ?_)
set_option maxHeartbeats 8000000 in
set_option maxRecDepth 100000 in
theorem laws_eqPlate.calls (k : Nat) (A0_0 : Option Addr) (c0_0 : Nat) (l0_0 : List (S97)) (A0_1 : Option Addr) (c0_1 : Nat) (l0_1 : List (List (S97))) (A1_0 : Option Addr) (c1_0 : Nat) (l1_0 : List (S97)) (A1_1 : Option Addr) (c1_1 : Nat) (l1_1 : List (List (S97))) (r : Bool) (w : World) (hr0_0 : Kd.C k97 w A0_0 l0_0.length l0_0) (hc0_0 : l0_0.length ≤ c0_0) (hr0_1 : Kd.C (Kd.slice 97 k97) w A0_1 l0_1.length l0_1) (hc0_1 : l0_1.length ≤ c0_1) (hr1_0 : Kd.C k97 w A1_0 l1_0.length l1_0) (hc1_0 : l1_0.length ≤ c1_0) (hr1_1 : Kd.C (Kd.slice 97 k97) w A1_1 l1_1.length l1_1) (hc1_1 : l1_1.length ≤ c1_1) (h : laws_eqPlate.f k l0_0 l0_1 l1_0 l1_1 = some r) :
  Calls Tryd.prog 16 #[.agg #[.slice A0_0 l0_0.length c0_0, .slice A0_1 l0_1.length c0_1], .agg #[.slice A1_0 l1_0.length c1_0, .slice A1_1 l1_1.length c1_1]] w fun e w' => e = .returned (.bool r) ∧ Below w.heap.size w w' := by
 have hu31 := Tryd.underlying31; have HR0_0 := Aside0.mk hr0_0; have HC0_0 := Aside0.mk hc0_0; clear hr0_0 hc0_0; have HR0_1 := Aside0.mk hr0_1; have HC0_1 := Aside0.mk hc0_1; clear hr0_1 hc0_1; have HR1_0 := Aside0.mk hr1_0; have HC1_0 := Aside0.mk hc1_0; clear hr1_0 hc1_0; have HR1_1 := Aside0.mk hr1_1; have HC1_1 := Aside0.mk hc1_1; clear hr1_1 hc1_1; have HB := Aside0.mk (Below.refl w.heap.size w); have H : ((laws_eqPtS.f k l0_0 l1_0).bind fun t577 => (if t577 = true then ((laws_eqPtSS.f k l0_1 l1_1).bind fun t578 => (if t578 = true then (some true) else (some false))) else (some false))) = some r := h; clear h; replace H := Option.bind_eq_some_iff.mp H; obtain ⟨t577, A30, H⟩ := H; replace H : (if t577 = true then ((laws_eqPtSS.f k l0_1 l1_1).bind fun t578 => (if t578 = true then (some true) else (some false))) else (some false)) = some r := H; have A3 := Aside0.mk A30; clear A30; by_cases c4 : t577 = true
 ·subst c4; have H1 : ((laws_eqPtSS.f k l0_1 l1_1).bind fun t578 => (if t578 = true then (some true) else (some false))) = some r := by rw [if_pos rfl] at H; exact H
  clear H; have H := H1; clear H1; replace H := Option.bind_eq_some_iff.mp H; obtain ⟨t578, A50, H⟩ := H; replace H : (if t578 = true then (some true) else (some false)) = some r := H; have A5 := Aside0.mk A50; clear A50; by_cases c6 : t578 = true
  ·subst c6; have H1 : (some true) = some r := by rw [if_pos rfl] at H; exact H
   clear H; have H := H1; clear H1; obtain rfl := Option.some.inj H; go_enter Tryd.func16, Tryd.ntmps16
   go_wp2_with (first | ((with_reducible refine gate_dst (N := 2) rfl ?_); refine box_event ?hg (N := 2) ?hd (cs := #[.slice A0_0 l0_0.length c0_0, .slice A0_1 l0_1.length c0_1]) (t := 31) ?hr ?_; (case hd => rfl); (case hg => rfl); (case hr => first | (go_simp; done) | (go_simp; rfl)); intro gb575 hg w7 hbox hb; have n0_ := Aside0.mk (below_step (by repeat (first | (with_reducible first | exact HB.out | apply below_alloc | apply pw_below_drewN | apply below_drew1) | exact HB.out)) hb); have n1_ := Aside0.mk (hbox); have n2_ := Aside0.mk ((by rw [hg]; exact (below_size (by repeat (first | (with_reducible first | exact HB.out | apply below_alloc | apply pw_below_drewN | apply below_drew1) | exact HB.out))) : w.heap.size ≤ gb575)); have n3_ := Aside0.mk ((by rw [hg]; exact (below_size (by repeat (first | (with_reducible first | exact HB.out | apply below_alloc | apply pw_below_drewN | apply below_drew1) | exact HB.out))) : w.heap.size ≤ gb575)); clear HB; have HB := n0_; have BK575 := n1_; have GW575 := n2_; have GE575 := n3_; clear n0_ n1_ n2_ n3_; clear hb hbox hg) | ((with_reducible refine gate_dst (N := 3) rfl ?_); refine box_event ?hg (N := 3) ?hd (cs := #[.slice A1_0 l1_0.length c1_0, .slice A1_1 l1_1.length c1_1]) (t := 31) ?hr ?_; (case hd => rfl); (case hg => rfl); (case hr => first | (go_simp; done) | (go_simp; rfl)); intro gb576 hg w8 hbox hb; have n0_ := Aside0.mk (blk_below (g := gb575) (o := .cells #[.slice A0_0 l0_0.length c0_0, .slice A0_1 l0_1.length c0_1] 31 (0, 0)) (by (with_reducible repeat (first | refine blk_drewN ?_ _ | refine blk_drew ?_ | refine blk_alloc ?_ _)); exact BK575.out) hb); have n1_ := Aside0.mk (below_step (by repeat (first | (with_reducible first | exact HB.out | apply below_alloc | apply pw_below_drewN | apply below_drew1 | refine below_set ?_ GE575.out) | exact HB.out)) hb); have n2_ := Aside0.mk (hbox); have n3_ := Aside0.mk ((by rw [hg]; exact (below_size (by repeat (first | (with_reducible first | exact HB.out | apply below_alloc | apply pw_below_drewN | apply below_drew1 | refine below_set ?_ GE575.out) | exact HB.out))) : w.heap.size ≤ gb576)); have n4_ := Aside0.mk ((by rw [hg]; exact (below_size (by repeat (first | (with_reducible first | exact HB.out | apply below_alloc | apply pw_below_drewN | apply below_drew1 | refine below_set ?_ GE575.out) | exact HB.out))) : w.heap.size ≤ gb576)); have n5_ := Aside0.mk ((by rw [hg]; exact Nat.ne_of_lt (blk_lt (g := gb575) (o := .cells #[.slice A0_0 l0_0.length c0_0, .slice A0_1 l0_1.length c0_1] 31 (0, 0)) (by (with_reducible repeat (first | refine blk_drewN ?_ _ | refine blk_drew ?_ | refine blk_alloc ?_ _)); exact BK575.out)) : gb575 ≠ gb576)); have n6_ := Aside0.mk ((by rw [hg]; exact Nat.ne_of_gt (blk_lt (g := gb575) (o := .cells #[.slice A0_0 l0_0.length c0_0, .slice A0_1 l0_1.length c0_1] 31 (0, 0)) (by (with_reducible repeat (first | refine blk_drewN ?_ _ | refine blk_drew ?_ | refine blk_alloc ?_ _)); exact BK575.out)) : gb576 ≠ gb575)); clear BK575; clear HB; have BK575 := n0_; have HB := n1_; have BK576 := n2_; have GW576 := n3_; have GE576 := n4_; have NB575_576 := n5_; have NB576_575 := n6_; clear n0_ n1_ n2_ n3_ n4_ n5_ n6_; clear hb hbox hg; have hnb9 := NB575_576.out; have hnc9 := NB576_575.out; have hcz10_0 : w8.cell? ⟨gb575, 0, none⟩ = some (.slice A0_0 l0_0.length c0_0) := (blk_cell BK575.out 0).trans rfl; have hcz10_1 : w8.cell? ⟨gb575, 1, none⟩ = some (.slice A0_1 l0_1.length c0_1) := (blk_cell BK575.out 1).trans rfl; have hfz10_0 := blk_frozen BK575.out 0; have hfz10_1 := blk_frozen BK575.out 1; have hcz11_0 : w8.cell? ⟨gb576, 0, none⟩ = some (.slice A1_0 l1_0.length c1_0) := (blk_cell BK576.out 0).trans rfl; have hcz11_1 : w8.cell? ⟨gb576, 1, none⟩ = some (.slice A1_1 l1_1.length c1_1) := (blk_cell BK576.out 1).trans rfl; have hfz11_0 := blk_frozen BK576.out 0; have hfz11_1 := blk_frozen BK576.out 1) | ((with_reducible refine gate_callee (f := 35) rfl ?_); refine goesL_ (some 9) rfl rfl Tryd.func35 (by kernel_rfl) rfl #[.slice A0_0 l0_0.length c0_0, .slice A1_0 l1_0.length c1_0] rfl (by (try simp only [List.map_toArray, List.map_cons, List.map_nil]); first | done | rfl | (simp only [List.length_drop, List.length_take]; rfl)) ?_; (with_reducible refine (laws_eqPtS.calls k _ _ l0_0 _ _ l1_0 true _ ?side1 ?side2 ?side3 ?side4 A3.out).mono ?_); (case side1 => repeat (first | exact (Kd.C_below HR0_0.out HB.out) | (with_reducible refine Kd.C_alloc ?_ _) | (with_reducible refine Kd.C_drewN ?_ _) | (with_reducible refine Kd.C_drew ?_))); (case side2 => exact HC0_0.out); (case side3 => repeat (first | exact (Kd.C_below HR1_0.out HB.out) | (with_reducible refine Kd.C_alloc ?_ _) | (with_reducible refine Kd.C_drewN ?_ _) | (with_reducible refine Kd.C_drew ?_))); (case side4 => exact HC1_0.out); rintro e w12 ⟨rfl, hb⟩; refine ⟨_, rfl, ?_⟩; have n0_ := Aside0.mk (blk_below (g := gb575) (o := .cells #[.slice A0_0 l0_0.length c0_0, .slice A0_1 l0_1.length c0_1] 31 (0, 0)) (by (with_reducible repeat (first | refine blk_drewN ?_ _ | refine blk_drew ?_ | refine blk_alloc ?_ _)); exact BK575.out) hb); have n1_ := Aside0.mk (blk_below (g := gb576) (o := .cells #[.slice A1_0 l1_0.length c1_0, .slice A1_1 l1_1.length c1_1] 31 (0, 0)) (by (with_reducible repeat (first | refine blk_drewN ?_ _ | refine blk_drew ?_ | refine blk_alloc ?_ _)); exact BK576.out) hb); have n2_ := Aside0.mk (below_step (by repeat (first | (with_reducible first | exact HB.out | apply below_alloc | apply pw_below_drewN | apply below_drew1 | refine below_set ?_ GE575.out | refine below_set ?_ GE576.out) | exact HB.out)) hb); clear BK575; clear BK576; clear HB; have BK575 := n0_; have BK576 := n1_; have HB := n2_; clear n0_ n1_ n2_; (try clear hb); (try clear hb2); (try clear hk); (try clear hi); have hcz13_0 : w12.cell? ⟨gb575, 0, none⟩ = some (.slice A0_0 l0_0.length c0_0) := (blk_cell BK575.out 0).trans rfl; have hcz13_1 : w12.cell? ⟨gb575, 1, none⟩ = some (.slice A0_1 l0_1.length c0_1) := (blk_cell BK575.out 1).trans rfl; have hfz13_0 := blk_frozen BK575.out 0; have hfz13_1 := blk_frozen BK575.out 1; have hcz14_0 : w12.cell? ⟨gb576, 0, none⟩ = some (.slice A1_0 l1_0.length c1_0) := (blk_cell BK576.out 0).trans rfl; have hcz14_1 : w12.cell? ⟨gb576, 1, none⟩ = some (.slice A1_1 l1_1.length c1_1) := (blk_cell BK576.out 1).trans rfl; have hfz14_0 := blk_frozen BK576.out 0; have hfz14_1 := blk_frozen BK576.out 1) | ((with_reducible refine gate_callee (f := 49) rfl ?_); refine goesL_ (some 15) rfl rfl Tryd.func49 (by kernel_rfl) rfl #[.slice A0_1 l0_1.length c0_1, .slice A1_1 l1_1.length c1_1] rfl (by (try simp only [List.map_toArray, List.map_cons, List.map_nil]); first | done | rfl | (simp only [List.length_drop, List.length_take]; rfl)) ?_; (with_reducible refine (laws_eqPtSS.calls k _ _ l0_1 _ _ l1_1 true _ ?side1 ?side2 ?side3 ?side4 A5.out).mono ?_); (case side1 => repeat (first | exact (Kd.C_below HR0_1.out HB.out) | (with_reducible refine Kd.C_alloc ?_ _) | (with_reducible refine Kd.C_drewN ?_ _) | (with_reducible refine Kd.C_drew ?_))); (case side2 => exact HC0_1.out); (case side3 => repeat (first | exact (Kd.C_below HR1_1.out HB.out) | (with_reducible refine Kd.C_alloc ?_ _) | (with_reducible refine Kd.C_drewN ?_ _) | (with_reducible refine Kd.C_drew ?_))); (case side4 => exact HC1_1.out); rintro e w15 ⟨rfl, hb⟩; refine ⟨_, rfl, ?_⟩; have n0_ := Aside0.mk (blk_below (g := gb575) (o := .cells #[.slice A0_0 l0_0.length c0_0, .slice A0_1 l0_1.length c0_1] 31 (0, 0)) (by (with_reducible repeat (first | refine blk_drewN ?_ _ | refine blk_drew ?_ | refine blk_alloc ?_ _)); exact BK575.out) hb); have n1_ := Aside0.mk (blk_below (g := gb576) (o := .cells #[.slice A1_0 l1_0.length c1_0, .slice A1_1 l1_1.length c1_1] 31 (0, 0)) (by (with_reducible repeat (first | refine blk_drewN ?_ _ | refine blk_drew ?_ | refine blk_alloc ?_ _)); exact BK576.out) hb); have n2_ := Aside0.mk (below_step (by repeat (first | (with_reducible first | exact HB.out | apply below_alloc | apply pw_below_drewN | apply below_drew1 | refine below_set ?_ GE575.out | refine below_set ?_ GE576.out) | exact HB.out)) hb); clear BK575; clear BK576; clear HB; have BK575 := n0_; have BK576 := n1_; have HB := n2_; clear n0_ n1_ n2_; (try clear hb); (try clear hb2); (try clear hk); (try clear hi)))
   go_ret
   exact ⟨by first | rfl | (simp [errW_none, errW_some] <;> rfl) | (simp [*, errW_none, errW_some] <;> rfl), by repeat (first | (with_reducible first | exact HB.out | apply below_alloc | apply pw_below_drewN | apply below_drew1 | refine below_set ?_ GE575.out | refine below_set ?_ GE576.out) | exact HB.out)⟩
  ·replace c6 := Bool.eq_false_iff.mpr c6; subst c6; have H1 : (some false) = some r := by rw [if_neg (show ¬ (false = true) by decide)] at H; exact H
   clear H; have H := H1; clear H1; obtain rfl := Option.some.inj H; go_enter Tryd.func16, Tryd.ntmps16
   go_wp2_with (first | ((with_reducible refine gate_dst (N := 2) rfl ?_); refine box_event ?hg (N := 2) ?hd (cs := #[.slice A0_0 l0_0.length c0_0, .slice A0_1 l0_1.length c0_1]) (t := 31) ?hr ?_; (case hd => rfl); (case hg => rfl); (case hr => first | (go_simp; done) | (go_simp; rfl)); intro gb575 hg w16 hbox hb; have n0_ := Aside0.mk (below_step (by repeat (first | (with_reducible first | exact HB.out | apply below_alloc | apply pw_below_drewN | apply below_drew1) | exact HB.out)) hb); have n1_ := Aside0.mk (hbox); have n2_ := Aside0.mk ((by rw [hg]; exact (below_size (by repeat (first | (with_reducible first | exact HB.out | apply below_alloc | apply pw_below_drewN | apply below_drew1) | exact HB.out))) : w.heap.size ≤ gb575)); have n3_ := Aside0.mk ((by rw [hg]; exact (below_size (by repeat (first | (with_reducible first | exact HB.out | apply below_alloc | apply pw_below_drewN | apply below_drew1) | exact HB.out))) : w.heap.size ≤ gb575)); clear HB; have HB := n0_; have BK575 := n1_; have GW575 := n2_; have GE575 := n3_; clear n0_ n1_ n2_ n3_; clear hb hbox hg) | ((with_reducible refine gate_dst (N := 3) rfl ?_); refine box_event ?hg (N := 3) ?hd (cs := #[.slice A1_0 l1_0.length c1_0, .slice A1_1 l1_1.length c1_1]) (t := 31) ?hr ?_; (case hd => rfl); (case hg => rfl); (case hr => first | (go_simp; done) | (go_simp; rfl)); intro gb576 hg w17 hbox hb; have n0_ := Aside0.mk (blk_below (g := gb575) (o := .cells #[.slice A0_0 l0_0.length c0_0, .slice A0_1 l0_1.length c0_1] 31 (0, 0)) (by (with_reducible repeat (first | refine blk_drewN ?_ _ | refine blk_drew ?_ | refine blk_alloc ?_ _)); exact BK575.out) hb); have n1_ := Aside0.mk (below_step (by repeat (first | (with_reducible first | exact HB.out | apply below_alloc | apply pw_below_drewN | apply below_drew1 | refine below_set ?_ GE575.out) | exact HB.out)) hb); have n2_ := Aside0.mk (hbox); have n3_ := Aside0.mk ((by rw [hg]; exact (below_size (by repeat (first | (with_reducible first | exact HB.out | apply below_alloc | apply pw_below_drewN | apply below_drew1 | refine below_set ?_ GE575.out) | exact HB.out))) : w.heap.size ≤ gb576)); have n4_ := Aside0.mk ((by rw [hg]; exact (below_size (by repeat (first | (with_reducible first | exact HB.out | apply below_alloc | apply pw_below_drewN | apply below_drew1 | refine below_set ?_ GE575.out) | exact HB.out))) : w.heap.size ≤ gb576)); have n5_ := Aside0.mk ((by rw [hg]; exact Nat.ne_of_lt (blk_lt (g := gb575) (o := .cells #[.slice A0_0 l0_0.length c0_0, .slice A0_1 l0_1.length c0_1] 31 (0, 0)) (by (with_reducible repeat (first | refine blk_drewN ?_ _ | refine blk_drew ?_ | refine blk_alloc ?_ _)); exact BK575.out)) : gb575 ≠ gb576)); have n6_ := Aside0.mk ((by rw [hg]; exact Nat.ne_of_gt (blk_lt (g := gb575) (o := .cells #[.slice A0_0 l0_0.length c0_0, .slice A0_1 l0_1.length c0_1] 31 (0, 0)) (by (with_reducible repeat (first | refine blk_drewN ?_ _ | refine blk_drew ?_ | refine blk_alloc ?_ _)); exact BK575.out)) : gb576 ≠ gb575)); clear BK575; clear HB; have BK575 := n0_; have HB := n1_; have BK576 := n2_; have GW576 := n3_; have GE576 := n4_; have NB575_576 := n5_; have NB576_575 := n6_; clear n0_ n1_ n2_ n3_ n4_ n5_ n6_; clear hb hbox hg; have hnb18 := NB575_576.out; have hnc18 := NB576_575.out; have hcz19_0 : w17.cell? ⟨gb575, 0, none⟩ = some (.slice A0_0 l0_0.length c0_0) := (blk_cell BK575.out 0).trans rfl; have hcz19_1 : w17.cell? ⟨gb575, 1, none⟩ = some (.slice A0_1 l0_1.length c0_1) := (blk_cell BK575.out 1).trans rfl; have hfz19_0 := blk_frozen BK575.out 0; have hfz19_1 := blk_frozen BK575.out 1; have hcz20_0 : w17.cell? ⟨gb576, 0, none⟩ = some (.slice A1_0 l1_0.length c1_0) := (blk_cell BK576.out 0).trans rfl; have hcz20_1 : w17.cell? ⟨gb576, 1, none⟩ = some (.slice A1_1 l1_1.length c1_1) := (blk_cell BK576.out 1).trans rfl; have hfz20_0 := blk_frozen BK576.out 0; have hfz20_1 := blk_frozen BK576.out 1) | ((with_reducible refine gate_callee (f := 35) rfl ?_); refine goesL_ (some 9) rfl rfl Tryd.func35 (by kernel_rfl) rfl #[.slice A0_0 l0_0.length c0_0, .slice A1_0 l1_0.length c1_0] rfl (by (try simp only [List.map_toArray, List.map_cons, List.map_nil]); first | done | rfl | (simp only [List.length_drop, List.length_take]; rfl)) ?_; (with_reducible refine (laws_eqPtS.calls k _ _ l0_0 _ _ l1_0 true _ ?side1 ?side2 ?side3 ?side4 A3.out).mono ?_); (case side1 => repeat (first | exact (Kd.C_below HR0_0.out HB.out) | (with_reducible refine Kd.C_alloc ?_ _) | (with_reducible refine Kd.C_drewN ?_ _) | (with_reducible refine Kd.C_drew ?_))); (case side2 => exact HC0_0.out); (case side3 => repeat (first | exact (Kd.C_below HR1_0.out HB.out) | (with_reducible refine Kd.C_alloc ?_ _) | (with_reducible refine Kd.C_drewN ?_ _) | (with_reducible refine Kd.C_drew ?_))); (case side4 => exact HC1_0.out); rintro e w21 ⟨rfl, hb⟩; refine ⟨_, rfl, ?_⟩; have n0_ := Aside0.mk (blk_below (g := gb575) (o := .cells #[.slice A0_0 l0_0.length c0_0, .slice A0_1 l0_1.length c0_1] 31 (0, 0)) (by (with_reducible repeat (first | refine blk_drewN ?_ _ | refine blk_drew ?_ | refine blk_alloc ?_ _)); exact BK575.out) hb); have n1_ := Aside0.mk (blk_below (g := gb576) (o := .cells #[.slice A1_0 l1_0.length c1_0, .slice A1_1 l1_1.length c1_1] 31 (0, 0)) (by (with_reducible repeat (first | refine blk_drewN ?_ _ | refine blk_drew ?_ | refine blk_alloc ?_ _)); exact BK576.out) hb); have n2_ := Aside0.mk (below_step (by repeat (first | (with_reducible first | exact HB.out | apply below_alloc | apply pw_below_drewN | apply below_drew1 | refine below_set ?_ GE575.out | refine below_set ?_ GE576.out) | exact HB.out)) hb); clear BK575; clear BK576; clear HB; have BK575 := n0_; have BK576 := n1_; have HB := n2_; clear n0_ n1_ n2_; (try clear hb); (try clear hb2); (try clear hk); (try clear hi); have hcz22_0 : w21.cell? ⟨gb575, 0, none⟩ = some (.slice A0_0 l0_0.length c0_0) := (blk_cell BK575.out 0).trans rfl; have hcz22_1 : w21.cell? ⟨gb575, 1, none⟩ = some (.slice A0_1 l0_1.length c0_1) := (blk_cell BK575.out 1).trans rfl; have hfz22_0 := blk_frozen BK575.out 0; have hfz22_1 := blk_frozen BK575.out 1; have hcz23_0 : w21.cell? ⟨gb576, 0, none⟩ = some (.slice A1_0 l1_0.length c1_0) := (blk_cell BK576.out 0).trans rfl; have hcz23_1 : w21.cell? ⟨gb576, 1, none⟩ = some (.slice A1_1 l1_1.length c1_1) := (blk_cell BK576.out 1).trans rfl; have hfz23_0 := blk_frozen BK576.out 0; have hfz23_1 := blk_frozen BK576.out 1) | ((with_reducible refine gate_callee (f := 49) rfl ?_); refine goesL_ (some 15) rfl rfl Tryd.func49 (by kernel_rfl) rfl #[.slice A0_1 l0_1.length c0_1, .slice A1_1 l1_1.length c1_1] rfl (by (try simp only [List.map_toArray, List.map_cons, List.map_nil]); first | done | rfl | (simp only [List.length_drop, List.length_take]; rfl)) ?_; (with_reducible refine (laws_eqPtSS.calls k _ _ l0_1 _ _ l1_1 false _ ?side1 ?side2 ?side3 ?side4 A5.out).mono ?_); (case side1 => repeat (first | exact (Kd.C_below HR0_1.out HB.out) | (with_reducible refine Kd.C_alloc ?_ _) | (with_reducible refine Kd.C_drewN ?_ _) | (with_reducible refine Kd.C_drew ?_))); (case side2 => exact HC0_1.out); (case side3 => repeat (first | exact (Kd.C_below HR1_1.out HB.out) | (with_reducible refine Kd.C_alloc ?_ _) | (with_reducible refine Kd.C_drewN ?_ _) | (with_reducible refine Kd.C_drew ?_))); (case side4 => exact HC1_1.out); rintro e w24 ⟨rfl, hb⟩; refine ⟨_, rfl, ?_⟩; have n0_ := Aside0.mk (blk_below (g := gb575) (o := .cells #[.slice A0_0 l0_0.length c0_0, .slice A0_1 l0_1.length c0_1] 31 (0, 0)) (by (with_reducible repeat (first | refine blk_drewN ?_ _ | refine blk_drew ?_ | refine blk_alloc ?_ _)); exact BK575.out) hb); have n1_ := Aside0.mk (blk_below (g := gb576) (o := .cells #[.slice A1_0 l1_0.length c1_0, .slice A1_1 l1_1.length c1_1] 31 (0, 0)) (by (with_reducible repeat (first | refine blk_drewN ?_ _ | refine blk_drew ?_ | refine blk_alloc ?_ _)); exact BK576.out) hb); have n2_ := Aside0.mk (below_step (by repeat (first | (with_reducible first | exact HB.out | apply below_alloc | apply pw_below_drewN | apply below_drew1 | refine below_set ?_ GE575.out | refine below_set ?_ GE576.out) | exact HB.out)) hb); clear BK575; clear BK576; clear HB; have BK575 := n0_; have BK576 := n1_; have HB := n2_; clear n0_ n1_ n2_; (try clear hb); (try clear hb2); (try clear hk); (try clear hi)))
   go_ret
   exact ⟨by first | rfl | (simp [errW_none, errW_some] <;> rfl) | (simp [*, errW_none, errW_some] <;> rfl), by repeat (first | (with_reducible first | exact HB.out | apply below_alloc | apply pw_below_drewN | apply below_drew1 | refine below_set ?_ GE575.out | refine below_set ?_ GE576.out) | exact HB.out)⟩
 ·replace c4 := Bool.eq_false_iff.mpr c4; subst c4; have H1 : (some false) = some r := by rw [if_neg (show ¬ (false = true) by decide)] at H; exact H
  clear H; have H := H1; clear H1; obtain rfl := Option.some.inj H; go_enter Tryd.func16, Tryd.ntmps16
  go_wp2_with (first | ((with_reducible refine gate_dst (N := 2) rfl ?_); refine box_event ?hg (N := 2) ?hd (cs := #[.slice A0_0 l0_0.length c0_0, .slice A0_1 l0_1.length c0_1]) (t := 31) ?hr ?_; (case hd => rfl); (case hg => rfl); (case hr => first | (go_simp; done) | (go_simp; rfl)); intro gb575 hg w25 hbox hb; have n0_ := Aside0.mk (below_step (by repeat (first | (with_reducible first | exact HB.out | apply below_alloc | apply pw_below_drewN | apply below_drew1) | exact HB.out)) hb); have n1_ := Aside0.mk (hbox); have n2_ := Aside0.mk ((by rw [hg]; exact (below_size (by repeat (first | (with_reducible first | exact HB.out | apply below_alloc | apply pw_below_drewN | apply below_drew1) | exact HB.out))) : w.heap.size ≤ gb575)); have n3_ := Aside0.mk ((by rw [hg]; exact (below_size (by repeat (first | (with_reducible first | exact HB.out | apply below_alloc | apply pw_below_drewN | apply below_drew1) | exact HB.out))) : w.heap.size ≤ gb575)); clear HB; have HB := n0_; have BK575 := n1_; have GW575 := n2_; have GE575 := n3_; clear n0_ n1_ n2_ n3_; clear hb hbox hg) | ((with_reducible refine gate_dst (N := 3) rfl ?_); refine box_event ?hg (N := 3) ?hd (cs := #[.slice A1_0 l1_0.length c1_0, .slice A1_1 l1_1.length c1_1]) (t := 31) ?hr ?_; (case hd => rfl); (case hg => rfl); (case hr => first | (go_simp; done) | (go_simp; rfl)); intro gb576 hg w26 hbox hb; have n0_ := Aside0.mk (blk_below (g := gb575) (o := .cells #[.slice A0_0 l0_0.length c0_0, .slice A0_1 l0_1.length c0_1] 31 (0, 0)) (by (with_reducible repeat (first | refine blk_drewN ?_ _ | refine blk_drew ?_ | refine blk_alloc ?_ _)); exact BK575.out) hb); have n1_ := Aside0.mk (below_step (by repeat (first | (with_reducible first | exact HB.out | apply below_alloc | apply pw_below_drewN | apply below_drew1 | refine below_set ?_ GE575.out) | exact HB.out)) hb); have n2_ := Aside0.mk (hbox); have n3_ := Aside0.mk ((by rw [hg]; exact (below_size (by repeat (first | (with_reducible first | exact HB.out | apply below_alloc | apply pw_below_drewN | apply below_drew1 | refine below_set ?_ GE575.out) | exact HB.out))) : w.heap.size ≤ gb576)); have n4_ := Aside0.mk ((by rw [hg]; exact (below_size (by repeat (first | (with_reducible first | exact HB.out | apply below_alloc | apply pw_below_drewN | apply below_drew1 | refine below_set ?_ GE575.out) | exact HB.out))) : w.heap.size ≤ gb576)); have n5_ := Aside0.mk ((by rw [hg]; exact Nat.ne_of_lt (blk_lt (g := gb575) (o := .cells #[.slice A0_0 l0_0.length c0_0, .slice A0_1 l0_1.length c0_1] 31 (0, 0)) (by (with_reducible repeat (first | refine blk_drewN ?_ _ | refine blk_drew ?_ | refine blk_alloc ?_ _)); exact BK575.out)) : gb575 ≠ gb576)); have n6_ := Aside0.mk ((by rw [hg]; exact Nat.ne_of_gt (blk_lt (g := gb575) (o := .cells #[.slice A0_0 l0_0.length c0_0, .slice A0_1 l0_1.length c0_1] 31 (0, 0)) (by (with_reducible repeat (first | refine blk_drewN ?_ _ | refine blk_drew ?_ | refine blk_alloc ?_ _)); exact BK575.out)) : gb576 ≠ gb575)); clear BK575; clear HB; have BK575 := n0_; have HB := n1_; have BK576 := n2_; have GW576 := n3_; have GE576 := n4_; have NB575_576 := n5_; have NB576_575 := n6_; clear n0_ n1_ n2_ n3_ n4_ n5_ n6_; clear hb hbox hg; have hnb27 := NB575_576.out; have hnc27 := NB576_575.out; have hcz28_0 : w26.cell? ⟨gb575, 0, none⟩ = some (.slice A0_0 l0_0.length c0_0) := (blk_cell BK575.out 0).trans rfl; have hcz28_1 : w26.cell? ⟨gb575, 1, none⟩ = some (.slice A0_1 l0_1.length c0_1) := (blk_cell BK575.out 1).trans rfl; have hfz28_0 := blk_frozen BK575.out 0; have hfz28_1 := blk_frozen BK575.out 1; have hcz29_0 : w26.cell? ⟨gb576, 0, none⟩ = some (.slice A1_0 l1_0.length c1_0) := (blk_cell BK576.out 0).trans rfl; have hcz29_1 : w26.cell? ⟨gb576, 1, none⟩ = some (.slice A1_1 l1_1.length c1_1) := (blk_cell BK576.out 1).trans rfl; have hfz29_0 := blk_frozen BK576.out 0; have hfz29_1 := blk_frozen BK576.out 1) | ((with_reducible refine gate_callee (f := 35) rfl ?_); refine goesL_ (some 9) rfl rfl Tryd.func35 (by kernel_rfl) rfl #[.slice A0_0 l0_0.length c0_0, .slice A1_0 l1_0.length c1_0] rfl (by (try simp only [List.map_toArray, List.map_cons, List.map_nil]); first | done | rfl | (simp only [List.length_drop, List.length_take]; rfl)) ?_; (with_reducible refine (laws_eqPtS.calls k _ _ l0_0 _ _ l1_0 false _ ?side1 ?side2 ?side3 ?side4 A3.out).mono ?_); (case side1 => repeat (first | exact (Kd.C_below HR0_0.out HB.out) | (with_reducible refine Kd.C_alloc ?_ _) | (with_reducible refine Kd.C_drewN ?_ _) | (with_reducible refine Kd.C_drew ?_))); (case side2 => exact HC0_0.out); (case side3 => repeat (first | exact (Kd.C_below HR1_0.out HB.out) | (with_reducible refine Kd.C_alloc ?_ _) | (with_reducible refine Kd.C_drewN ?_ _) | (with_reducible refine Kd.C_drew ?_))); (case side4 => exact HC1_0.out); rintro e w30 ⟨rfl, hb⟩; refine ⟨_, rfl, ?_⟩; have n0_ := Aside0.mk (blk_below (g := gb575) (o := .cells #[.slice A0_0 l0_0.length c0_0, .slice A0_1 l0_1.length c0_1] 31 (0, 0)) (by (with_reducible repeat (first | refine blk_drewN ?_ _ | refine blk_drew ?_ | refine blk_alloc ?_ _)); exact BK575.out) hb); have n1_ := Aside0.mk (blk_below (g := gb576) (o := .cells #[.slice A1_0 l1_0.length c1_0, .slice A1_1 l1_1.length c1_1] 31 (0, 0)) (by (with_reducible repeat (first | refine blk_drewN ?_ _ | refine blk_drew ?_ | refine blk_alloc ?_ _)); exact BK576.out) hb); have n2_ := Aside0.mk (below_step (by repeat (first | (with_reducible first | exact HB.out | apply below_alloc | apply pw_below_drewN | apply below_drew1 | refine below_set ?_ GE575.out | refine below_set ?_ GE576.out) | exact HB.out)) hb); clear BK575; clear BK576; clear HB; have BK575 := n0_; have BK576 := n1_; have HB := n2_; clear n0_ n1_ n2_; (try clear hb); (try clear hb2); (try clear hk); (try clear hi)))
  go_ret
  exact ⟨by first | rfl | (simp [errW_none, errW_some] <;> rfl) | (simp [*, errW_none, errW_some] <;> rfl), by repeat (first | (with_reducible first | exact HB.out | apply below_alloc | apply pw_below_drewN | apply below_drew1 | refine below_set ?_ GE575.out | refine below_set ?_ GE576.out) | exact HB.out)⟩

end Go.Proofs.YtddbahlofgkoaaaDoor.PA
namespace Go.Proofs.YtddbahlofgkoaaaDoor.PA
open Go.RowKit Go.Proofs.YtddbahlofgkoaaaDoorW.PrintWords Go.Proofs.YtddbahlofgkoaaaDoorW.PrintLast Go.Proofs.YtddbahlofgkoaaaDoorW.PrintMore
attribute [local go_sem] max2_int min2_int max_two min_two max_three min_three max_four min_four   -- for this text's walks alone
set_option linter.unusedVariables false
set_option linter.unusedSimpArgs false

/-! ### laws_FnExactPlateText: function 3 -/
def laws_FnExactPlateText.f (k : Nat) (l0_0 : List (S114)) (l0_1 : List (List (S114))) : Option (Bool) := (laws_szPlate.f k l0_0 l0_1 1048576).bind fun t580 => (if t580 < 0 then (some true) else ((laws_toPlate.f k l0_0 l0_1).bind fun bt581 => ((spec_PlateText.f k bt581.1 bt581.2).bind fun t587 => ((laws_toPlate.f k l0_0 l0_1).bind fun bt588 => ((impl_PlateText.f bt588.1 bt588.2).bind fun t595 => (if t595.toList = t587.toList then ((laws_toPlate.f k l0_0 l0_1).bind fun bt596 => ((laws_eqPlate.f k bt588.1 bt588.2 bt596.1 bt596.2).bind fun t602 => (if t602 = true then (some true) else (some false)))) else (some false)))))))
theorem laws_FnExactPlateText.mono : ∀ a0 a1 k, LeO (laws_FnExactPlateText.f k a0 a1) (laws_FnExactPlateText.f (k + 1) a0 a1) := by
 intro a0 a1 k; unfold laws_FnExactPlateText.f; repeat' first
   | (with_reducible exact laws_eqPlate.mono _ _ _ _ _)
   | (with_reducible exact laws_szPlate.mono _ _ _ _)
   | (with_reducible exact laws_toPlate.mono _ _ _)
   | (with_reducible exact spec_PlateText.mono _ _ _)
   | (with_reducible exact LeO.refl _)
   | (with_reducible exact LeO.none _)
   | (with_reducible refine LeO.ite ?_ ?_)
   | (with_reducible refine LeO.bind ?_ (fun _ => ?_))
   | exact laws_eqPlate.mono _ _ _ _ _
   | exact laws_szPlate.mono _ _ _ _
   | exact laws_toPlate.mono _ _ _
   | exact spec_PlateText.mono _ _ _
   | exact LeO.none _
   | refine LeO.ite ?_ ?_
   | refine LeO.bind ?_ (fun _ => ?_)
set_option maxHeartbeats 8000000 in
set_option maxRecDepth 100000 in
theorem laws_FnExactPlateText.calls (k : Nat) (A0_0 : Option Addr) (c0_0 : Nat) (l0_0 : List (S114)) (A0_1 : Option Addr) (c0_1 : Nat) (l0_1 : List (List (S114))) (r : Bool) (w : World) (hr0_0 : Kd.C k114 w A0_0 l0_0.length l0_0) (hc0_0 : l0_0.length ≤ c0_0) (hr0_1 : Kd.C (Kd.slice 114 k114) w A0_1 l0_1.length l0_1) (hc0_1 : l0_1.length ≤ c0_1) (h : laws_FnExactPlateText.f k l0_0 l0_1 = some r) :
  Calls Tryd.prog 3 #[.agg #[.slice A0_0 l0_0.length c0_0, .slice A0_1 l0_1.length c0_1]] w fun e w' => e = .returned (.bool r) ∧ Below w.heap.size w w' := by
 have hu25 := Tryd.underlying25; have hu31 := Tryd.underlying31; have HR0_0 := Aside0.mk hr0_0; have HC0_0 := Aside0.mk hc0_0; clear hr0_0 hc0_0; have HR0_1 := Aside0.mk hr0_1; have HC0_1 := Aside0.mk hc0_1; clear hr0_1 hc0_1; have HB := Aside0.mk (Below.refl w.heap.size w); have H : ((laws_szPlate.f k l0_0 l0_1 1048576).bind fun t580 => (if t580 < 0 then (some true) else ((laws_toPlate.f k l0_0 l0_1).bind fun bt581 => ((spec_PlateText.f k bt581.1 bt581.2).bind fun t587 => ((laws_toPlate.f k l0_0 l0_1).bind fun bt588 => ((impl_PlateText.f bt588.1 bt588.2).bind fun t595 => (if t595.toList = t587.toList then ((laws_toPlate.f k l0_0 l0_1).bind fun bt596 => ((laws_eqPlate.f k bt588.1 bt588.2 bt596.1 bt596.2).bind fun t602 => (if t602 = true then (some true) else (some false)))) else (some false)))))))) = some r := h; clear h; replace H := Option.bind_eq_some_iff.mp H; obtain ⟨t580, A20, H⟩ := H; replace H : (if t580 < 0 then (some true) else ((laws_toPlate.f k l0_0 l0_1).bind fun bt581 => ((spec_PlateText.f k bt581.1 bt581.2).bind fun t587 => ((laws_toPlate.f k l0_0 l0_1).bind fun bt588 => ((impl_PlateText.f bt588.1 bt588.2).bind fun t595 => (if t595.toList = t587.toList then ((laws_toPlate.f k l0_0 l0_1).bind fun bt596 => ((laws_eqPlate.f k bt588.1 bt588.2 bt596.1 bt596.2).bind fun t602 => (if t602 = true then (some true) else (some false)))) else (some false))))))) = some r := H; have A2 := Aside0.mk A20; clear A20; by_cases c3 : t580 < 0
 ·rw [if_pos c3] at H; have c3b0 : decide (t580 < 0) = true := decide_eq_true c3; clear c3; obtain rfl := Option.some.inj H; go_enter Tryd.func3, Tryd.ntmps3
  go_wp2_with (first | ((with_reducible refine gate_dst (N := 1) rfl ?_); refine box_event ?hg (N := 1) ?hd (cs := #[.slice A0_0 l0_0.length c0_0, .slice A0_1 l0_1.length c0_1]) (t := 25) ?hr ?_; (case hd => rfl); (case hg => rfl); (case hr => first | (go_simp; done) | (go_simp; rfl)); intro gb579 hg w4 hbox hb; have n0_ := Aside0.mk (below_step (by repeat (first | (with_reducible first | exact HB.out | apply below_alloc | apply pw_below_drewN | apply below_drew1) | exact HB.out)) hb); have n1_ := Aside0.mk (hbox); have n2_ := Aside0.mk ((by rw [hg]; exact (below_size (by repeat (first | (with_reducible first | exact HB.out | apply below_alloc | apply pw_below_drewN | apply below_drew1) | exact HB.out))) : w.heap.size ≤ gb579)); have n3_ := Aside0.mk ((by rw [hg]; exact (below_size (by repeat (first | (with_reducible first | exact HB.out | apply below_alloc | apply pw_below_drewN | apply below_drew1) | exact HB.out))) : w.heap.size ≤ gb579)); clear HB; have HB := n0_; have BK579 := n1_; have GW579 := n2_; have GE579 := n3_; clear n0_ n1_ n2_ n3_; clear hb hbox hg; have hcz5_0 : w4.cell? ⟨gb579, 0, none⟩ = some (.slice A0_0 l0_0.length c0_0) := (blk_cell BK579.out 0).trans rfl; have hcz5_1 : w4.cell? ⟨gb579, 1, none⟩ = some (.slice A0_1 l0_1.length c0_1) := (blk_cell BK579.out 1).trans rfl; have hfz5_0 := blk_frozen BK579.out 0; have hfz5_1 := blk_frozen BK579.out 1) | ((with_reducible refine gate_callee (f := 12) rfl ?_); refine goesL_ (some 9) rfl rfl Tryd.func12 (by kernel_rfl) rfl #[.agg #[.slice A0_0 l0_0.length c0_0, .slice A0_1 l0_1.length c0_1], .int .i64 1048576] rfl (by (try simp only [List.map_toArray, List.map_cons, List.map_nil]); first | done | rfl | (simp only [List.length_drop, List.length_take]; rfl)) ?_; (with_reducible refine (laws_szPlate.calls k _ _ l0_0 _ _ l0_1 1048576 t580 _ ?side1 ?side2 ?side3 ?side4 A2.out).mono ?_); (case side1 => repeat (first | exact (Kd.C_below HR0_0.out HB.out) | (with_reducible refine Kd.C_alloc ?_ _) | (with_reducible refine Kd.C_drewN ?_ _) | (with_reducible refine Kd.C_drew ?_))); (case side2 => exact HC0_0.out); (case side3 => repeat (first | exact (Kd.C_below HR0_1.out HB.out) | (with_reducible refine Kd.C_alloc ?_ _) | (with_reducible refine Kd.C_drewN ?_ _) | (with_reducible refine Kd.C_drew ?_))); (case side4 => exact HC0_1.out); rintro e w6 ⟨rfl, hb⟩; refine ⟨_, rfl, ?_⟩; have n0_ := Aside0.mk (blk_below (g := gb579) (o := .cells #[.slice A0_0 l0_0.length c0_0, .slice A0_1 l0_1.length c0_1] 25 (0, 0)) (by (with_reducible repeat (first | refine blk_drewN ?_ _ | refine blk_drew ?_ | refine blk_alloc ?_ _)); exact BK579.out) hb); have n1_ := Aside0.mk (below_step (by repeat (first | (with_reducible first | exact HB.out | apply below_alloc | apply pw_below_drewN | apply below_drew1 | refine below_set ?_ GE579.out) | exact HB.out)) hb); clear BK579; clear HB; have BK579 := n0_; have HB := n1_; clear n0_ n1_; (try clear hb); (try clear hb2); (try clear hk); (try clear hi)))
  go_ret
  exact ⟨by first | rfl | (simp [errW_none, errW_some] <;> rfl) | (simp [*, errW_none, errW_some] <;> rfl), by repeat (first | (with_reducible first | exact HB.out | apply below_alloc | apply pw_below_drewN | apply below_drew1 | refine below_set ?_ GE579.out) | exact HB.out)⟩
 ·rw [if_neg c3] at H; have c3b0 : decide (t580 < 0) = false := decide_eq_false c3; clear c3; replace H := Option.bind_eq_some_iff.mp H; obtain ⟨⟨t581, t584⟩, A70, H⟩ := H; replace H : ((spec_PlateText.f k t581 t584).bind fun t587 => ((laws_toPlate.f k l0_0 l0_1).bind fun bt588 => ((impl_PlateText.f bt588.1 bt588.2).bind fun t595 => (if t595.toList = t587.toList then ((laws_toPlate.f k l0_0 l0_1).bind fun bt596 => ((laws_eqPlate.f k bt588.1 bt588.2 bt596.1 bt596.2).bind fun t602 => (if t602 = true then (some true) else (some false)))) else (some false))))) = some r := H; have A7 := Aside0.mk A70; clear A70; replace H := Option.bind_eq_some_iff.mp H; obtain ⟨t587, A80, H⟩ := H; replace H : ((laws_toPlate.f k l0_0 l0_1).bind fun bt588 => ((impl_PlateText.f bt588.1 bt588.2).bind fun t595 => (if t595.toList = t587.toList then ((laws_toPlate.f k l0_0 l0_1).bind fun bt596 => ((laws_eqPlate.f k bt588.1 bt588.2 bt596.1 bt596.2).bind fun t602 => (if t602 = true then (some true) else (some false)))) else (some false)))) = some r := H; have A8 := Aside0.mk A80; clear A80; replace H := Option.bind_eq_some_iff.mp H; obtain ⟨⟨t588, t591⟩, A90, H⟩ := H; replace H : ((impl_PlateText.f t588 t591).bind fun t595 => (if t595.toList = t587.toList then ((laws_toPlate.f k l0_0 l0_1).bind fun bt596 => ((laws_eqPlate.f k t588 t591 bt596.1 bt596.2).bind fun t602 => (if t602 = true then (some true) else (some false)))) else (some false))) = some r := H; have A9 := Aside0.mk A90; clear A90; replace H := Option.bind_eq_some_iff.mp H; obtain ⟨t595, A100, H⟩ := H; replace H : (if t595.toList = t587.toList then ((laws_toPlate.f k l0_0 l0_1).bind fun bt596 => ((laws_eqPlate.f k t588 t591 bt596.1 bt596.2).bind fun t602 => (if t602 = true then (some true) else (some false)))) else (some false)) = some r := H; have A10 := Aside0.mk A100; clear A100; by_cases c11 : t595.toList = t587.toList
  ·rw [if_pos c11] at H; have c11b0 : (t595.toList == t587.toList) = true := beq_iff_eq.mpr c11; have c11b1 : (t595.toList != t587.toList) = false := bne_eq_false_iff_eq.mpr c11; clear c11; replace H := Option.bind_eq_some_iff.mp H; obtain ⟨⟨t596, t599⟩, A120, H⟩ := H; replace H : ((laws_eqPlate.f k t588 t591 t596 t599).bind fun t602 => (if t602 = true then (some true) else (some false))) = some r := H; have A12 := Aside0.mk A120; clear A120; replace H := Option.bind_eq_some_iff.mp H; obtain ⟨t602, A130, H⟩ := H; replace H : (if t602 = true then (some true) else (some false)) = some r := H; have A13 := Aside0.mk A130; clear A130; by_cases c14 : t602 = true
   ·subst c14; have H1 : (some true) = some r := by rw [if_pos rfl] at H; exact H
    clear H; have H := H1; clear H1; obtain rfl := Option.some.inj H; go_enter Tryd.func3, Tryd.ntmps3
    try go_wp2_with (first | ((with_reducible refine gate_dst (N := 1) rfl ?_); refine box_event ?hg (N := 1) ?hd (cs := #[.slice A0_0 l0_0.length c0_0, .slice A0_1 l0_1.length c0_1]) (t := 25) ?hr ?_; (case hd => rfl); (case hg => rfl); (case hr => first | (go_simp; done) | (go_simp; rfl)); intro gb579 hg w15 hbox hb; have n0_ := Aside0.mk (below_step (by repeat (first | (with_reducible first | exact HB.out | apply below_alloc | apply pw_below_drewN | apply below_drew1) | exact HB.out)) hb); have n1_ := Aside0.mk (hbox); have n2_ := Aside0.mk ((by rw [hg]; exact (below_size (by repeat (first | (with_reducible first | exact HB.out | apply below_alloc | apply pw_below_drewN | apply below_drew1) | exact HB.out))) : w.heap.size ≤ gb579)); have n3_ := Aside0.mk ((by rw [hg]; exact (below_size (by repeat (first | (with_reducible first | exact HB.out | apply below_alloc | apply pw_below_drewN | apply below_drew1) | exact HB.out))) : w.heap.size ≤ gb579)); clear HB; have HB := n0_; have BK579 := n1_; have GW579 := n2_; have GE579 := n3_; clear n0_ n1_ n2_ n3_; clear hb hbox hg; have hcz16_0 : w15.cell? ⟨gb579, 0, none⟩ = some (.slice A0_0 l0_0.length c0_0) := (blk_cell BK579.out 0).trans rfl; have hcz16_1 : w15.cell? ⟨gb579, 1, none⟩ = some (.slice A0_1 l0_1.length c0_1) := (blk_cell BK579.out 1).trans rfl; have hfz16_0 := blk_frozen BK579.out 0; have hfz16_1 := blk_frozen BK579.out 1) | ((with_reducible refine gate_callee (f := 12) rfl ?_); refine goesL_ (some 9) rfl rfl Tryd.func12 (by kernel_rfl) rfl #[.agg #[.slice A0_0 l0_0.length c0_0, .slice A0_1 l0_1.length c0_1], .int .i64 1048576] rfl (by (try simp only [List.map_toArray, List.map_cons, List.map_nil]); first | done | rfl | (simp only [List.length_drop, List.length_take]; rfl)) ?_; (with_reducible refine (laws_szPlate.calls k _ _ l0_0 _ _ l0_1 1048576 t580 _ ?side1 ?side2 ?side3 ?side4 A2.out).mono ?_); (case side1 => repeat (first | exact (Kd.C_below HR0_0.out HB.out) | (with_reducible refine Kd.C_alloc ?_ _) | (with_reducible refine Kd.C_drewN ?_ _) | (with_reducible refine Kd.C_drew ?_))); (case side2 => exact HC0_0.out); (case side3 => repeat (first | exact (Kd.C_below HR0_1.out HB.out) | (with_reducible refine Kd.C_alloc ?_ _) | (with_reducible refine Kd.C_drewN ?_ _) | (with_reducible refine Kd.C_drew ?_))); (case side4 => exact HC0_1.out); rintro e w17 ⟨rfl, hb⟩; refine ⟨_, rfl, ?_⟩; have n0_ := Aside0.mk (blk_below (g := gb579) (o := .cells #[.slice A0_0 l0_0.length c0_0, .slice A0_1 l0_1.length c0_1] 25 (0, 0)) (by (with_reducible repeat (first | refine blk_drewN ?_ _ | refine blk_drew ?_ | refine blk_alloc ?_ _)); exact BK579.out) hb); have n1_ := Aside0.mk (below_step (by repeat (first | (with_reducible first | exact HB.out | apply below_alloc | apply pw_below_drewN | apply below_drew1 | refine below_set ?_ GE579.out) | exact HB.out)) hb); clear BK579; clear HB; have BK579 := n0_; have HB := n1_; clear n0_ n1_; (try clear hb); (try clear hb2); (try clear hk); (try clear hi); have hcz18_0 : w17.cell? ⟨gb579, 0, none⟩ = some (.slice A0_0 l0_0.length c0_0) := (blk_cell BK579.out 0).trans rfl; have hcz18_1 : w17.cell? ⟨gb579, 1, none⟩ = some (.slice A0_1 l0_1.length c0_1) := (blk_cell BK579.out 1).trans rfl; have hfz18_0 := blk_frozen BK579.out 0; have hfz18_1 := blk_frozen BK579.out 1) | ((with_reducible refine gate_callee (f := 14) rfl ?_); refine goesL_ (some 13) rfl rfl Tryd.func14 (by kernel_rfl) rfl #[.agg #[.slice A0_0 l0_0.length c0_0, .slice A0_1 l0_1.length c0_1]] rfl (by (try simp only [List.map_toArray, List.map_cons, List.map_nil]); first | done | rfl | (simp only [List.length_drop, List.length_take]; rfl)) ?_; (with_reducible refine (laws_toPlate.calls k _ _ l0_0 _ _ l0_1 t581 t584 _ ?side1 ?side2 ?side3 ?side4 A7.out).mono ?_); (case side1 => repeat (first | exact (Kd.C_below HR0_0.out HB.out) | (with_reducible refine Kd.C_alloc ?_ _) | (with_reducible refine Kd.C_drewN ?_ _) | (with_reducible refine Kd.C_drew ?_))); (case side2 => exact HC0_0.out); (case side3 => repeat (first | exact (Kd.C_below HR0_1.out HB.out) | (with_reducible refine Kd.C_alloc ?_ _) | (with_reducible refine Kd.C_drewN ?_ _) | (with_reducible refine Kd.C_drew ?_))); (case side4 => exact HC0_1.out); rintro e w19 ⟨v582, v585, rfl, ho0, ho1, hb⟩; refine ⟨_, rfl, ?_⟩; have n0_ := Aside0.mk (Kd.R_lower ho0 (below_size (by repeat (first | (with_reducible first | exact HB.out | apply below_alloc | apply pw_below_drewN | apply below_drew1 | refine below_set ?_ GE579.out) | exact HB.out)))); have n1_ := Aside0.mk (Kd.S_lower ho1 (below_size (by repeat (first | (with_reducible first | exact HB.out | apply below_alloc | apply pw_below_drewN | apply below_drew1 | refine below_set ?_ GE579.out) | exact HB.out)))); have n2_ := Aside0.mk (blk_below (g := gb579) (o := .cells #[.slice A0_0 l0_0.length c0_0, .slice A0_1 l0_1.length c0_1] 25 (0, 0)) (by (with_reducible repeat (first | refine blk_drewN ?_ _ | refine blk_drew ?_ | refine blk_alloc ?_ _)); exact BK579.out) hb); have n3_ := Aside0.mk (below_step (by repeat (first | (with_reducible first | exact HB.out | apply below_alloc | apply pw_below_drewN | apply below_drew1 | refine below_set ?_ GE579.out) | exact HB.out)) hb); clear BK579; clear HB; have HO583 := n0_; have HO586 := n1_; have BK579 := n2_; have HB := n3_; clear n0_ n1_ n2_ n3_; (try clear hb); (try clear hb2); (try clear hk); (try clear hi); (try clear ho0); (try clear ho1); obtain ⟨Ao20, co20, eo20⟩ := Kd.R_slice HO583.out; subst eo20; obtain ⟨Ao21, co21, eo21⟩ := Kd.S_slice HO586.out; subst eo21) | ((with_reducible refine gate_callee (f := 13) rfl ?_); refine goesL_ (some 14) rfl rfl Tryd.func13 (by kernel_rfl) rfl #[.agg #[.slice Ao20 t581.length co20, .slice Ao21 t584.length co21]] rfl (by (try simp only [List.map_toArray, List.map_cons, List.map_nil]); first | done | rfl | (simp only [List.length_drop, List.length_take]; rfl)) ?_; (with_reducible refine (spec_PlateText.calls k _ _ t581 _ _ t584 t587 _ ?side1 ?side2 ?side3 ?side4 A8.out).mono ?_); (case side1 => repeat (first | exact (Kd.R_reads' HO583.out).2.2 | (with_reducible refine Kd.C_alloc ?_ _) | (with_reducible refine Kd.C_drewN ?_ _) | (with_reducible refine Kd.C_drew ?_))); (case side2 => exact (Kd.R_reads' HO583.out).2.1); (case side3 => repeat (first | exact (Kd.S_reads' HO586.out).2.2 | (with_reducible refine Kd.C_alloc ?_ _) | (with_reducible refine Kd.C_drewN ?_ _) | (with_reducible refine Kd.C_drew ?_))); (case side4 => exact (Kd.S_reads' HO586.out).2.1); rintro e w22 ⟨rfl, hb⟩; refine ⟨_, rfl, ?_⟩; have n0_ := Aside0.mk (Kd.R_below (by (with_reducible repeat (first | apply Kd.R_alloc | apply Kd.R_drewN | apply Kd.R_drew)); exact HO583.out) hb); have n1_ := Aside0.mk (Kd.S_below (by (with_reducible repeat (first | apply Kd.S_alloc | apply Kd.S_drewN | apply Kd.S_drew)); exact HO586.out) hb); have n2_ := Aside0.mk (blk_below (g := gb579) (o := .cells #[.slice A0_0 l0_0.length c0_0, .slice A0_1 l0_1.length c0_1] 25 (0, 0)) (by (with_reducible repeat (first | refine blk_drewN ?_ _ | refine blk_drew ?_ | refine blk_alloc ?_ _)); exact BK579.out) hb); have n3_ := Aside0.mk (below_step (by repeat (first | (with_reducible first | exact HB.out | apply below_alloc | apply pw_below_drewN | apply below_drew1 | refine below_set ?_ GE579.out) | exact HB.out)) hb); clear HO583; clear HO586; clear BK579; clear HB; have HO583 := n0_; have HO586 := n1_; have BK579 := n2_; have HB := n3_; clear n0_ n1_ n2_ n3_; (try clear hb); (try clear hb2); (try clear hk); (try clear hi); have hcz23_0 : w22.cell? ⟨gb579, 0, none⟩ = some (.slice A0_0 l0_0.length c0_0) := (blk_cell BK579.out 0).trans rfl; have hcz23_1 : w22.cell? ⟨gb579, 1, none⟩ = some (.slice A0_1 l0_1.length c0_1) := (blk_cell BK579.out 1).trans rfl; have hfz23_0 := blk_frozen BK579.out 0; have hfz23_1 := blk_frozen BK579.out 1) | ((with_reducible refine gate_callee (f := 14) rfl ?_); refine goesL_ (some 16) rfl rfl Tryd.func14 (by kernel_rfl) rfl #[.agg #[.slice A0_0 l0_0.length c0_0, .slice A0_1 l0_1.length c0_1]] rfl (by (try simp only [List.map_toArray, List.map_cons, List.map_nil]); first | done | rfl | (simp only [List.length_drop, List.length_take]; rfl)) ?_; (with_reducible refine (laws_toPlate.calls k _ _ l0_0 _ _ l0_1 t588 t591 _ ?side1 ?side2 ?side3 ?side4 A9.out).mono ?_); (case side1 => repeat (first | exact (Kd.C_below HR0_0.out HB.out) | (with_reducible refine Kd.C_alloc ?_ _) | (with_reducible refine Kd.C_drewN ?_ _) | (with_reducible refine Kd.C_drew ?_))); (case side2 => exact HC0_0.out); (case side3 => repeat (first | exact (Kd.C_below HR0_1.out HB.out) | (with_reducible refine Kd.C_alloc ?_ _) | (with_reducible refine Kd.C_drewN ?_ _) | (with_reducible refine Kd.C_drew ?_))); (case side4 => exact HC0_1.out); rintro e w24 ⟨v589, v592, rfl, ho0, ho1, hb⟩; refine ⟨_, rfl, ?_⟩; have n0_ := Aside0.mk (Kd.R_elder' (by (with_reducible repeat (first | apply Kd.R_alloc | apply Kd.R_drewN | apply Kd.R_drew)); exact HO583.out) (Kd.R_base ho0) hb); have n1_ := Aside0.mk (Kd.S_mono (Kd.S_told (Kd.S_told (Kd.S_old (by (with_reducible repeat (first | apply Kd.S_alloc | apply Kd.S_drewN | apply Kd.S_drew)); exact HO586.out) hb) (Kd.R_base ho0)) (Kd.S_base ho1)) (fun _ h_ => h_.1)); have n2_ := Aside0.mk (Kd.R_lower (Kd.R_new' ho0 (Kd.R_lt (by (with_reducible repeat (first | apply Kd.R_alloc | apply Kd.R_drewN | apply Kd.R_drew)); exact HO583.out))) (below_size (by repeat (first | (with_reducible first | exact HB.out | apply below_alloc | apply pw_below_drewN | apply below_drew1 | refine below_set ?_ GE579.out) | exact HB.out)))); have n3_ := Aside0.mk (Kd.S_lower (Kd.S_new' (Kd.S_new' ho1 (Kd.R_lt (by (with_reducible repeat (first | apply Kd.R_alloc | apply Kd.R_drewN | apply Kd.R_drew)); exact HO583.out))) (Kd.S_lt (by (with_reducible repeat (first | apply Kd.S_alloc | apply Kd.S_drewN | apply Kd.S_drew)); exact HO586.out))) (below_size (by repeat (first | (with_reducible first | exact HB.out | apply below_alloc | apply pw_below_drewN | apply below_drew1 | refine below_set ?_ GE579.out) | exact HB.out)))); have n4_ := Aside0.mk (blk_below (g := gb579) (o := .cells #[.slice A0_0 l0_0.length c0_0, .slice A0_1 l0_1.length c0_1] 25 (0, 0)) (by (with_reducible repeat (first | refine blk_drewN ?_ _ | refine blk_drew ?_ | refine blk_alloc ?_ _)); exact BK579.out) hb); have n5_ := Aside0.mk (below_step (by repeat (first | (with_reducible first | exact HB.out | apply below_alloc | apply pw_below_drewN | apply below_drew1 | refine below_set ?_ GE579.out) | exact HB.out)) hb); clear HO583; clear HO586; clear BK579; clear HB; have HO583 := n0_; have HO586 := n1_; have HO590 := n2_; have HO593 := n3_; have BK579 := n4_; have HB := n5_; clear n0_ n1_ n2_ n3_ n4_ n5_; (try clear hb); (try clear hb2); (try clear hk); (try clear hi); (try clear ho0); (try clear ho1)) | ((with_reducible refine gate_dst (N := 5) rfl ?_); refine box_event ?hg (N := 5) ?hd (cs := #[.slice none 0 0, .slice none 0 0]) (t := 31) ?hr ?_; (case hd => rfl); (case hg => rfl); (case hr => first | (go_simp; done) | (go_simp; rfl)); intro gb594 hg w25 hbox hb; have n0_ := Aside0.mk (Kd.R_below (by (with_reducible repeat (first | apply Kd.R_alloc | apply Kd.R_drewN | apply Kd.R_drew)); exact HO583.out) hb); have n1_ := Aside0.mk (Kd.S_below (by (with_reducible repeat (first | apply Kd.S_alloc | apply Kd.S_drewN | apply Kd.S_drew)); exact HO586.out) hb); have n2_ := Aside0.mk (Kd.R_below (by (with_reducible repeat (first | apply Kd.R_alloc | apply Kd.R_drewN | apply Kd.R_drew)); exact HO590.out) hb); have n3_ := Aside0.mk (Kd.S_below (by (with_reducible repeat (first | apply Kd.S_alloc | apply Kd.S_drewN | apply Kd.S_drew)); exact HO593.out) hb); have n4_ := Aside0.mk (blk_below (g := gb579) (o := .cells #[.slice A0_0 l0_0.length c0_0, .slice A0_1 l0_1.length c0_1] 25 (0, 0)) (by (with_reducible repeat (first | refine blk_drewN ?_ _ | refine blk_drew ?_ | refine blk_alloc ?_ _)); exact BK579.out) hb); have n5_ := Aside0.mk (below_step (by repeat (first | (with_reducible first | exact HB.out | apply below_alloc | apply pw_below_drewN | apply below_drew1 | refine below_set ?_ GE579.out) | exact HB.out)) hb); have n6_ := Aside0.mk (hbox); have n7_ := Aside0.mk ((by rw [hg]; exact (below_size (by repeat (first | (with_reducible first | exact HB.out | apply below_alloc | apply pw_below_drewN | apply below_drew1 | refine below_set ?_ GE579.out) | exact HB.out))) : w.heap.size ≤ gb594)); have n8_ := Aside0.mk ((by rw [hg]; exact (below_size (by repeat (first | (with_reducible first | exact HB.out | apply below_alloc | apply pw_below_drewN | apply below_drew1 | refine below_set ?_ GE579.out) | exact HB.out))) : w.heap.size ≤ gb594)); have n9_ := Aside0.mk ((by rw [hg]; exact Nat.ne_of_lt (blk_lt (g := gb579) (o := .cells #[.slice A0_0 l0_0.length c0_0, .slice A0_1 l0_1.length c0_1] 25 (0, 0)) (by (with_reducible repeat (first | refine blk_drewN ?_ _ | refine blk_drew ?_ | refine blk_alloc ?_ _)); exact BK579.out)) : gb579 ≠ gb594)); have n10_ := Aside0.mk ((by rw [hg]; exact Nat.ne_of_gt (blk_lt (g := gb579) (o := .cells #[.slice A0_0 l0_0.length c0_0, .slice A0_1 l0_1.length c0_1] 25 (0, 0)) (by (with_reducible repeat (first | refine blk_drewN ?_ _ | refine blk_drew ?_ | refine blk_alloc ?_ _)); exact BK579.out)) : gb594 ≠ gb579)); clear HO583; clear HO586; clear HO590; clear HO593; clear BK579; clear HB; have HO583 := n0_; have HO586 := n1_; have HO590 := n2_; have HO593 := n3_; have BK579 := n4_; have HB := n5_; have BK594 := n6_; have GW594 := n7_; have GE594 := n8_; have NB579_594 := n9_; have NB594_579 := n10_; clear n0_ n1_ n2_ n3_ n4_ n5_ n6_ n7_ n8_ n9_ n10_; clear hb hbox hg; obtain ⟨Ao26, co26, eo26⟩ := Kd.R_slice HO590.out; subst eo26; have hnb27 := NB594_579.out; have hnc27 := NB579_594.out; have hcz28_0 : w25.cell? ⟨gb594, 0, none⟩ = some (.slice none 0 0) := (blk_cell BK594.out 0).trans rfl; have hcz28_1 : w25.cell? ⟨gb594, 1, none⟩ = some (.slice none 0 0) := (blk_cell BK594.out 1).trans rfl; have hfz28_0 := blk_frozen BK594.out 0; have hfz28_1 := blk_frozen BK594.out 1; obtain ⟨Ao29, co29, eo29⟩ := Kd.S_slice HO593.out; subst eo29) | ((with_reducible refine gate_callee (f := 15) rfl ?_); refine goesL_ (some 18) rfl rfl Tryd.func15 (by kernel_rfl) rfl #[.agg #[.slice Ao26 t588.length co26, .slice Ao29 t591.length co29]] rfl (by (try simp only [List.map_toArray, List.map_cons, List.map_nil]); first | done | rfl | (simp only [List.length_drop, List.length_take]; rfl)) ?_; (with_reducible refine (impl_PlateText.calls _ _ t588 _ _ t591 t595 _ ?side1 ?side2 ?side3 ?side4 A10.out).mono ?_); (case side1 => refine (Kd.R_reads' (e := 97) (base := w.heap.size) (ok := fun k_ => (True ∧ some k_ ≠ (.slice Ao20 t581.length co20 : Value).ownBlock)) (n := t588.length) (c := co26) ?_).2.2; exact (by (with_reducible repeat (first | apply Kd.R_alloc | apply Kd.R_drewN | apply Kd.R_drew)); exact (Kd.R_mono (Kd.R_far (p := ⟨gb594, 1, none⟩) (Kd.R_far (p := ⟨gb594, 0, none⟩) (Kd.R_types HO590.out BK594.out (by decide)) (fun _ hk => hk.2) (.slice Ao26 t588.length co26)) (fun _ hk => hk.2) (.slice Ao29 t591.length co29)) (fun _ h_ => h_.1)))); (case side2 => exact (Kd.R_reads' HO590.out).2.1); (case side3 => refine (Kd.S_reads' (e := 28) (base := w.heap.size) (ok := fun k_ => ((some k_ ≠ (.slice Ao26 t588.length co26 : Value).ownBlock ∧ some k_ ≠ (.slice Ao20 t581.length co20 : Value).ownBlock) ∧ some k_ ≠ (.slice Ao21 t584.length co21 : Value).ownBlock)) (n := t591.length) (c := co29) ?_).2.2; exact (by (with_reducible repeat (first | apply Kd.S_alloc | apply Kd.S_drewN | apply Kd.S_drew)); exact (Kd.S_mono (Kd.S_far (p := ⟨gb594, 1, none⟩) (Kd.S_far (p := ⟨gb594, 0, none⟩) (Kd.S_types HO593.out BK594.out (by decide)) (fun _ hk => hk.2) (.slice Ao26 t588.length co26)) (fun _ hk => hk.2) (.slice Ao29 t591.length co29)) (fun _ h_ => h_.1)))); (case side4 => exact (Kd.S_reads' HO593.out).2.1); rintro e w30 ⟨rfl, hb⟩; refine ⟨_, rfl, ?_⟩; have n0_ := Aside0.mk (Kd.R_below (by (with_reducible repeat (first | apply Kd.R_alloc | apply Kd.R_drewN | apply Kd.R_drew)); exact (Kd.R_mono (Kd.R_far (p := ⟨gb594, 1, none⟩) (Kd.R_far (p := ⟨gb594, 0, none⟩) (Kd.R_types HO583.out BK594.out (by decide)) (fun _ hk => hk.2) (.slice Ao26 t588.length co26)) (fun _ hk => hk.2) (.slice Ao29 t591.length co29)) (fun _ h_ => h_.1))) hb); have n1_ := Aside0.mk (Kd.S_below (by (with_reducible repeat (first | apply Kd.S_alloc | apply Kd.S_drewN | apply Kd.S_drew)); exact (Kd.S_mono (Kd.S_far (p := ⟨gb594, 1, none⟩) (Kd.S_far (p := ⟨gb594, 0, none⟩) (Kd.S_types HO586.out BK594.out (by decide)) (fun _ hk => hk.2) (.slice Ao26 t588.length co26)) (fun _ hk => hk.2) (.slice Ao29 t591.length co29)) (fun _ h_ => h_.1))) hb); have n2_ := Aside0.mk (Kd.R_below (by (with_reducible repeat (first | apply Kd.R_alloc | apply Kd.R_drewN | apply Kd.R_drew)); exact (Kd.R_mono (Kd.R_far (p := ⟨gb594, 1, none⟩) (Kd.R_far (p := ⟨gb594, 0, none⟩) (Kd.R_types HO590.out BK594.out (by decide)) (fun _ hk => hk.2) (.slice Ao26 t588.length co26)) (fun _ hk => hk.2) (.slice Ao29 t591.length co29)) (fun _ h_ => h_.1))) hb); have n3_ := Aside0.mk (Kd.S_below (by (with_reducible repeat (first | apply Kd.S_alloc | apply Kd.S_drewN | apply Kd.S_drew)); exact (Kd.S_mono (Kd.S_far (p := ⟨gb594, 1, none⟩) (Kd.S_far (p := ⟨gb594, 0, none⟩) (Kd.S_types HO593.out BK594.out (by decide)) (fun _ hk => hk.2) (.slice Ao26 t588.length co26)) (fun _ hk => hk.2) (.slice Ao29 t591.length co29)) (fun _ h_ => h_.1))) hb); have n4_ := Aside0.mk (blk_below (g := gb579) (o := .cells #[.slice A0_0 l0_0.length c0_0, .slice A0_1 l0_1.length c0_1] 25 (0, 0)) (by (with_reducible repeat (first | refine blk_drewN ?_ _ | refine blk_drew ?_ | refine blk_alloc ?_ _)); refine blk_far ?_ NB579_594.out _; (with_reducible repeat (first | refine blk_drewN ?_ _ | refine blk_drew ?_ | refine blk_alloc ?_ _)); refine blk_far ?_ NB579_594.out _; (with_reducible repeat (first | refine blk_drewN ?_ _ | refine blk_drew ?_ | refine blk_alloc ?_ _)); exact BK579.out) hb); have n5_ := Aside0.mk (blk_below (g := gb594) (o := .cells #[.slice Ao26 t588.length co26, .slice Ao29 t591.length co29] 31 (0, 0)) (by (with_reducible repeat (first | refine blk_drewN ?_ _ | refine blk_drew ?_ | refine blk_alloc ?_ _)); refine blk_put (cs := #[.slice Ao26 t588.length co26, .slice none 0 0]) ?_ 1 _ rfl; (with_reducible repeat (first | refine blk_drewN ?_ _ | refine blk_drew ?_ | refine blk_alloc ?_ _)); refine blk_put (cs := #[.slice none 0 0, .slice none 0 0]) ?_ 0 _ rfl; (with_reducible repeat (first | refine blk_drewN ?_ _ | refine blk_drew ?_ | refine blk_alloc ?_ _)); exact BK594.out) hb); have n6_ := Aside0.mk (below_step (by repeat (first | (with_reducible first | exact HB.out | apply below_alloc | apply pw_below_drewN | apply below_drew1 | refine below_set ?_ GE579.out | refine below_set ?_ GE594.out) | exact HB.out)) hb); clear HO583; clear HO586; clear HO590; clear HO593; clear BK579; clear BK594; clear HB; have HO583 := n0_; have HO586 := n1_; have HO590 := n2_; have HO593 := n3_; have BK579 := n4_; have BK594 := n5_; have HB := n6_; clear n0_ n1_ n2_ n3_ n4_ n5_ n6_; (try clear hb); (try clear hb2); (try clear hk); (try clear hi)))
    have n0_ := Aside0.mk (Kd.R_drew HO583.out); have n1_ := Aside0.mk (Kd.S_drew HO586.out); have n2_ := Aside0.mk (Kd.R_drew HO590.out); have n3_ := Aside0.mk (Kd.S_drew HO593.out); have n4_ := Aside0.mk (blk_drew BK579.out); have n5_ := Aside0.mk (blk_drew BK594.out); have n6_ := Aside0.mk (below_drew1 HB.out); clear HO583; clear HO586; clear HO590; clear HO593; clear BK579; clear BK594; clear HB; have HO583 := n0_; have HO586 := n1_; have HO590 := n2_; have HO593 := n3_; have BK579 := n4_; have BK594 := n5_; have HB := n6_; clear n0_ n1_ n2_ n3_ n4_ n5_ n6_; refine start_ (n := 5) (S := fun w' => w'.cell? ⟨gb594, 0, none⟩ = some (.slice Ao26 t588.length co26) ∧ w'.cell? ⟨gb594, 1, none⟩ = some (.slice Ao29 t591.length co29) ∧ w'.cell? ⟨gb579, 0, none⟩ = some (.slice A0_0 l0_0.length c0_0) ∧ w'.cell? ⟨gb579, 1, none⟩ = some (.slice A0_1 l0_1.length c0_1)) (ds := []) #[false, false, false, false, false] (by kernel_rfl) rfl rfl ⟨(blk_cell BK594.out 0).trans rfl, (blk_cell BK594.out 1).trans rfl, (blk_cell BK579.out 0).trans rfl, (blk_cell BK579.out 1).trans rfl⟩ (fun hHeld => ?_); generalize w30.drew = w31 at HO583 HO586 HO590 HO593 BK579 BK594 HB hHeld ⊢
    refine take_ (i := 0) (N := some 22) (v := ?_) (a' := ?_) #[true, false, false, false, false] rfl rfl (by kernel_rfl) (fun _ _ _ h => h) (Or.inl ⟨by rfl, ?_⟩) hHeld ?_ ?_; rotate_left; ·rintro w' ⟨s0, s1, s2, s3⟩; go_simp; with_reducible rfl
    rotate_left; ·simp only [Act.put, Geo.sa_, Geo.sb_, Geo.sc_, i64_w, i32_w]; rfl
    refine take_ (i := 1) (N := some 23) (v := ?_) (a' := ?_) #[true, true, false, false, false] rfl rfl (by kernel_rfl) (fun _ _ _ h => h) (Or.inl ⟨by rfl, ?_⟩) hHeld ?_ ?_; rotate_left; ·rintro w' ⟨s0, s1, s2, s3⟩; go_simp; with_reducible rfl
    rotate_left; ·simp only [Act.put, Geo.sa_, Geo.sb_, Geo.sc_, i64_w, i32_w]; rfl
    refine one_ (i := 2) (N := some 24) #[true, true, true, false, false] rfl rfl (by kernel_rfl) (by decide) (fun K hK => ?_); refine goes_ Tryd.func14 (by kernel_rfl) rfl #[.agg #[.slice A0_0 l0_0.length c0_0, .slice A0_1 l0_1.length c0_1]] (by rfl) rfl rfl (by (try simp only [List.map_toArray, List.map_cons, List.map_nil]); first | done | rfl | (simp only [List.length_drop, List.length_take]; rfl)) ?_; with_reducible refine (laws_toPlate.calls k _ _ l0_0 _ _ l0_1 t596 t599 _ ?side1 ?side2 ?side3 ?side4 A12.out).mono ?_
    (case side1 => repeat (first | exact (Kd.C_below HR0_0.out HB.out) | (with_reducible refine Kd.C_alloc ?_ _) | (with_reducible refine Kd.C_drewN ?_ _) | (with_reducible refine Kd.C_drew ?_)))
    (case side2 => exact HC0_0.out)
    (case side3 => repeat (first | exact (Kd.C_below HR0_1.out HB.out) | (with_reducible refine Kd.C_alloc ?_ _) | (with_reducible refine Kd.C_drewN ?_ _) | (with_reducible refine Kd.C_drew ?_)))
    (case side4 => exact HC0_1.out)
    rintro e w32 ⟨v597, v600, rfl, ho0, ho1, hb⟩; refine ⟨_, rfl, ?_⟩; have n0_ := Aside0.mk (Kd.R_elder' (by (with_reducible repeat (first | apply Kd.R_alloc | apply Kd.R_drewN | apply Kd.R_drew)); exact HO583.out) (Kd.R_base ho0) hb); have n1_ := Aside0.mk (Kd.S_mono (Kd.S_told (Kd.S_told (Kd.S_old (by (with_reducible repeat (first | apply Kd.S_alloc | apply Kd.S_drewN | apply Kd.S_drew)); exact HO586.out) hb) (Kd.R_base ho0)) (Kd.S_base ho1)) (fun _ h_ => h_.1)); have n2_ := Aside0.mk (Kd.R_elder' (by (with_reducible repeat (first | apply Kd.R_alloc | apply Kd.R_drewN | apply Kd.R_drew)); exact HO590.out) (Kd.R_base ho0) hb); have n3_ := Aside0.mk (Kd.S_mono (Kd.S_told (Kd.S_told (Kd.S_old (by (with_reducible repeat (first | apply Kd.S_alloc | apply Kd.S_drewN | apply Kd.S_drew)); exact HO593.out) hb) (Kd.R_base ho0)) (Kd.S_base ho1)) (fun _ h_ => h_.1)); have n4_ := Aside0.mk (Kd.R_lower (Kd.R_new' (Kd.R_new' ho0 (Kd.R_lt (by (with_reducible repeat (first | apply Kd.R_alloc | apply Kd.R_drewN | apply Kd.R_drew)); exact HO583.out))) (Kd.R_lt (by (with_reducible repeat (first | apply Kd.R_alloc | apply Kd.R_drewN | apply Kd.R_drew)); exact HO590.out))) (below_size (by repeat (first | (with_reducible first | exact HB.out | apply below_alloc | apply pw_below_drewN | apply below_drew1 | refine below_set ?_ GE579.out | refine below_set ?_ GE594.out) | exact HB.out)))); have n5_ := Aside0.mk (Kd.S_lower (Kd.S_new' (Kd.S_new' (Kd.S_new' (Kd.S_new' ho1 (Kd.R_lt (by (with_reducible repeat (first | apply Kd.R_alloc | apply Kd.R_drewN | apply Kd.R_drew)); exact HO583.out))) (Kd.S_lt (by (with_reducible repeat (first | apply Kd.S_alloc | apply Kd.S_drewN | apply Kd.S_drew)); exact HO586.out))) (Kd.R_lt (by (with_reducible repeat (first | apply Kd.R_alloc | apply Kd.R_drewN | apply Kd.R_drew)); exact HO590.out))) (Kd.S_lt (by (with_reducible repeat (first | apply Kd.S_alloc | apply Kd.S_drewN | apply Kd.S_drew)); exact HO593.out))) (below_size (by repeat (first | (with_reducible first | exact HB.out | apply below_alloc | apply pw_below_drewN | apply below_drew1 | refine below_set ?_ GE579.out | refine below_set ?_ GE594.out) | exact HB.out)))); have n6_ := Aside0.mk (blk_below (g := gb579) (o := .cells #[.slice A0_0 l0_0.length c0_0, .slice A0_1 l0_1.length c0_1] 25 (0, 0)) (by (with_reducible repeat (first | refine blk_drewN ?_ _ | refine blk_drew ?_ | refine blk_alloc ?_ _)); exact BK579.out) hb); have n7_ := Aside0.mk (blk_below (g := gb594) (o := .cells #[.slice Ao26 t588.length co26, .slice Ao29 t591.length co29] 31 (0, 0)) (by (with_reducible repeat (first | refine blk_drewN ?_ _ | refine blk_drew ?_ | refine blk_alloc ?_ _)); exact BK594.out) hb); have n8_ := Aside0.mk (below_step (by repeat (first | (with_reducible first | exact HB.out | apply below_alloc | apply pw_below_drewN | apply below_drew1 | refine below_set ?_ GE579.out | refine below_set ?_ GE594.out) | exact HB.out)) hb); clear HO583; clear HO586; clear HO590; clear HO593; clear BK579; clear BK594; clear HB; have HO583 := n0_; have HO586 := n1_; have HO590 := n2_; have HO593 := n3_; have HO598 := n4_; have HO601 := n5_; have BK579 := n6_; have BK594 := n7_; have HB := n8_; clear n0_ n1_ n2_ n3_ n4_ n5_ n6_ n7_ n8_; (try clear hb); (try clear hb2); (try clear hk); (try clear hi); (try clear ho0); (try clear ho1); obtain ⟨Ao33, co33, eo33⟩ := Kd.R_slice HO598.out; (first | subst eo33 | (injection eo33 with f1_ f2_ f3_; have f4_ := f1_.symm; have f5_ := f3_.symm; clear f1_ f2_ f3_; subst f4_; subst f5_)); obtain ⟨Ao34, co34, eo34⟩ := Kd.S_slice HO601.out; (first | subst eo34 | (injection eo34 with f1_ f2_ f3_; have f4_ := f1_.symm; have f5_ := f3_.symm; clear f1_ f2_ f3_; subst f4_; subst f5_)); refine hK.out _ _ ⟨(blk_cell BK594.out 0).trans rfl, (blk_cell BK594.out 1).trans rfl, (blk_cell BK579.out 0).trans rfl, (blk_cell BK579.out 1).trans rfl⟩ (fun hHeld => ?_); clear hK K; refine norm_ (a' := ?_) ?_ ?_; rotate_left; ·show Act.put _ (some 24) _ = _; simp only [Act.put, Geo.sa_, Geo.sb_, Geo.sc_, i64_w, i32_w]; rfl
    refine one_ (i := 3) (N := some 25) #[true, true, true, true, false] rfl rfl (by kernel_rfl) (by decide) (fun K hK => ?_); refine goes_ Tryd.func16 (by kernel_rfl) rfl #[.agg #[.slice Ao26 t588.length co26, .slice Ao29 t591.length co29], .agg #[.slice Ao33 t596.length co33, .slice Ao34 t599.length co34]] (by rfl) rfl rfl (by (try simp only [List.map_toArray, List.map_cons, List.map_nil]); first | done | rfl | (simp only [List.length_drop, List.length_take]; rfl)) ?_; with_reducible refine (laws_eqPlate.calls k _ _ t588 _ _ t591 _ _ t596 _ _ t599 true _ ?side1 ?side2 ?side3 ?side4 ?side5 ?side6 ?side7 ?side8 A13.out).mono ?_
    (case side1 => repeat (first | exact (Kd.R_reads' HO590.out).2.2 | (with_reducible refine Kd.C_alloc ?_ _) | (with_reducible refine Kd.C_drewN ?_ _) | (with_reducible refine Kd.C_drew ?_)))
    (case side2 => exact (Kd.R_reads' HO590.out).2.1)
    (case side3 => repeat (first | exact (Kd.S_reads' HO593.out).2.2 | (with_reducible refine Kd.C_alloc ?_ _) | (with_reducible refine Kd.C_drewN ?_ _) | (with_reducible refine Kd.C_drew ?_)))
    (case side4 => exact (Kd.S_reads' HO593.out).2.1)
    (case side5 => repeat (first | exact (Kd.R_reads' HO598.out).2.2 | (with_reducible refine Kd.C_alloc ?_ _) | (with_reducible refine Kd.C_drewN ?_ _) | (with_reducible refine Kd.C_drew ?_)))
    (case side6 => exact (Kd.R_reads' HO598.out).2.1)
    (case side7 => repeat (first | exact (Kd.S_reads' HO601.out).2.2 | (with_reducible refine Kd.C_alloc ?_ _) | (with_reducible refine Kd.C_drewN ?_ _) | (with_reducible refine Kd.C_drew ?_)))
    (case side8 => exact (Kd.S_reads' HO601.out).2.1)
    rintro e w35 ⟨rfl, hb⟩; refine ⟨_, rfl, ?_⟩; have n0_ := Aside0.mk (Kd.R_below (by (with_reducible repeat (first | apply Kd.R_alloc | apply Kd.R_drewN | apply Kd.R_drew)); exact HO583.out) hb); have n1_ := Aside0.mk (Kd.S_below (by (with_reducible repeat (first | apply Kd.S_alloc | apply Kd.S_drewN | apply Kd.S_drew)); exact HO586.out) hb); have n2_ := Aside0.mk (Kd.R_below (by (with_reducible repeat (first | apply Kd.R_alloc | apply Kd.R_drewN | apply Kd.R_drew)); exact HO590.out) hb); have n3_ := Aside0.mk (Kd.S_below (by (with_reducible repeat (first | apply Kd.S_alloc | apply Kd.S_drewN | apply Kd.S_drew)); exact HO593.out) hb); have n4_ := Aside0.mk (Kd.R_below (by (with_reducible repeat (first | apply Kd.R_alloc | apply Kd.R_drewN | apply Kd.R_drew)); exact HO598.out) hb); have n5_ := Aside0.mk (Kd.S_below (by (with_reducible repeat (first | apply Kd.S_alloc | apply Kd.S_drewN | apply Kd.S_drew)); exact HO601.out) hb); have n6_ := Aside0.mk (blk_below (g := gb579) (o := .cells #[.slice A0_0 l0_0.length c0_0, .slice A0_1 l0_1.length c0_1] 25 (0, 0)) (by (with_reducible repeat (first | refine blk_drewN ?_ _ | refine blk_drew ?_ | refine blk_alloc ?_ _)); exact BK579.out) hb); have n7_ := Aside0.mk (blk_below (g := gb594) (o := .cells #[.slice Ao26 t588.length co26, .slice Ao29 t591.length co29] 31 (0, 0)) (by (with_reducible repeat (first | refine blk_drewN ?_ _ | refine blk_drew ?_ | refine blk_alloc ?_ _)); exact BK594.out) hb); have n8_ := Aside0.mk (below_step (by repeat (first | (with_reducible first | exact HB.out | apply below_alloc | apply pw_below_drewN | apply below_drew1 | refine below_set ?_ GE579.out | refine below_set ?_ GE594.out) | exact HB.out)) hb); clear HO583; clear HO586; clear HO590; clear HO593; clear HO598; clear HO601; clear BK579; clear BK594; clear HB; have HO583 := n0_; have HO586 := n1_; have HO590 := n2_; have HO593 := n3_; have HO598 := n4_; have HO601 := n5_; have BK579 := n6_; have BK594 := n7_; have HB := n8_; clear n0_ n1_ n2_ n3_ n4_ n5_ n6_ n7_ n8_; (try clear hb); (try clear hb2); (try clear hk); (try clear hi); refine hK.out _ _ ⟨(blk_cell BK594.out 0).trans rfl, (blk_cell BK594.out 1).trans rfl, (blk_cell BK579.out 0).trans rfl, (blk_cell BK579.out 1).trans rfl⟩ (fun hHeld => ?_); clear hK K; refine norm_ (a' := ?_) ?_ ?_; rotate_left; ·show Act.put _ (some 25) _ = _; simp only [Act.put, Geo.sa_, Geo.sb_, Geo.sc_, i64_w, i32_w]; rfl
    refine pure_ (i := 4) (N := some 26) (v := ?_) (a' := ?_) #[true, true, true, true, true] rfl rfl (by kernel_rfl) (fun _ _ _ h => h) (Or.inl ⟨by rfl, ?_⟩) ?_ ?_; rotate_left; ·intro w'; go_simp; with_reducible rfl
    rotate_left; ·simp only [Act.put, Geo.sa_, Geo.sb_, Geo.sc_, i64_w, i32_w]; rfl
    refine done_ (by kernel_rfl) ?_; try go_wp2
    go_ret
    exact ⟨by first | rfl | (simp [errW_none, errW_some] <;> rfl) | (simp [*, errW_none, errW_some] <;> rfl), by repeat (first | (with_reducible first | exact HB.out | apply below_alloc | apply pw_below_drewN | apply below_drew1 | refine below_set ?_ GE579.out | refine below_set ?_ GE594.out) | exact HB.out)⟩
   ·replace c14 := Bool.eq_false_iff.mpr c14; subst c14; have H1 : (some false) = some r := by rw [if_neg (show ¬ (false = true) by decide)] at H; exact H
    clear H; have H := H1; clear H1; obtain rfl := Option.some.inj H; go_enter Tryd.func3, Tryd.ntmps3
    try go_wp2_with (first | ((with_reducible refine gate_dst (N := 1) rfl ?_); refine box_event ?hg (N := 1) ?hd (cs := #[.slice A0_0 l0_0.length c0_0, .slice A0_1 l0_1.length c0_1]) (t := 25) ?hr ?_; (case hd => rfl); (case hg => rfl); (case hr => first | (go_simp; done) | (go_simp; rfl)); intro gb579 hg w36 hbox hb; have n0_ := Aside0.mk (below_step (by repeat (first | (with_reducible first | exact HB.out | apply below_alloc | apply pw_below_drewN | apply below_drew1) | exact HB.out)) hb); have n1_ := Aside0.mk (hbox); have n2_ := Aside0.mk ((by rw [hg]; exact (below_size (by repeat (first | (with_reducible first | exact HB.out | apply below_alloc | apply pw_below_drewN | apply below_drew1) | exact HB.out))) : w.heap.size ≤ gb579)); have n3_ := Aside0.mk ((by rw [hg]; exact (below_size (by repeat (first | (with_reducible first | exact HB.out | apply below_alloc | apply pw_below_drewN | apply below_drew1) | exact HB.out))) : w.heap.size ≤ gb579)); clear HB; have HB := n0_; have BK579 := n1_; have GW579 := n2_; have GE579 := n3_; clear n0_ n1_ n2_ n3_; clear hb hbox hg; have hcz37_0 : w36.cell? ⟨gb579, 0, none⟩ = some (.slice A0_0 l0_0.length c0_0) := (blk_cell BK579.out 0).trans rfl; have hcz37_1 : w36.cell? ⟨gb579, 1, none⟩ = some (.slice A0_1 l0_1.length c0_1) := (blk_cell BK579.out 1).trans rfl; have hfz37_0 := blk_frozen BK579.out 0; have hfz37_1 := blk_frozen BK579.out 1) | ((with_reducible refine gate_callee (f := 12) rfl ?_); refine goesL_ (some 9) rfl rfl Tryd.func12 (by kernel_rfl) rfl #[.agg #[.slice A0_0 l0_0.length c0_0, .slice A0_1 l0_1.length c0_1], .int .i64 1048576] rfl (by (try simp only [List.map_toArray, List.map_cons, List.map_nil]); first | done | rfl | (simp only [List.length_drop, List.length_take]; rfl)) ?_; (with_reducible refine (laws_szPlate.calls k _ _ l0_0 _ _ l0_1 1048576 t580 _ ?side1 ?side2 ?side3 ?side4 A2.out).mono ?_); (case side1 => repeat (first | exact (Kd.C_below HR0_0.out HB.out) | (with_reducible refine Kd.C_alloc ?_ _) | (with_reducible refine Kd.C_drewN ?_ _) | (with_reducible refine Kd.C_drew ?_))); (case side2 => exact HC0_0.out); (case side3 => repeat (first | exact (Kd.C_below HR0_1.out HB.out) | (with_reducible refine Kd.C_alloc ?_ _) | (with_reducible refine Kd.C_drewN ?_ _) | (with_reducible refine Kd.C_drew ?_))); (case side4 => exact HC0_1.out); rintro e w38 ⟨rfl, hb⟩; refine ⟨_, rfl, ?_⟩; have n0_ := Aside0.mk (blk_below (g := gb579) (o := .cells #[.slice A0_0 l0_0.length c0_0, .slice A0_1 l0_1.length c0_1] 25 (0, 0)) (by (with_reducible repeat (first | refine blk_drewN ?_ _ | refine blk_drew ?_ | refine blk_alloc ?_ _)); exact BK579.out) hb); have n1_ := Aside0.mk (below_step (by repeat (first | (with_reducible first | exact HB.out | apply below_alloc | apply pw_below_drewN | apply below_drew1 | refine below_set ?_ GE579.out) | exact HB.out)) hb); clear BK579; clear HB; have BK579 := n0_; have HB := n1_; clear n0_ n1_; (try clear hb); (try clear hb2); (try clear hk); (try clear hi); have hcz39_0 : w38.cell? ⟨gb579, 0, none⟩ = some (.slice A0_0 l0_0.length c0_0) := (blk_cell BK579.out 0).trans rfl; have hcz39_1 : w38.cell? ⟨gb579, 1, none⟩ = some (.slice A0_1 l0_1.length c0_1) := (blk_cell BK579.out 1).trans rfl; have hfz39_0 := blk_frozen BK579.out 0; have hfz39_1 := blk_frozen BK579.out 1) | ((with_reducible refine gate_callee (f := 14) rfl ?_); refine goesL_ (some 13) rfl rfl Tryd.func14 (by kernel_rfl) rfl #[.agg #[.slice A0_0 l0_0.length c0_0, .slice A0_1 l0_1.length c0_1]] rfl (by (try simp only [List.map_toArray, List.map_cons, List.map_nil]); first | done | rfl | (simp only [List.length_drop, List.length_take]; rfl)) ?_; (with_reducible refine (laws_toPlate.calls k _ _ l0_0 _ _ l0_1 t581 t584 _ ?side1 ?side2 ?side3 ?side4 A7.out).mono ?_); (case side1 => repeat (first | exact (Kd.C_below HR0_0.out HB.out) | (with_reducible refine Kd.C_alloc ?_ _) | (with_reducible refine Kd.C_drewN ?_ _) | (with_reducible refine Kd.C_drew ?_))); (case side2 => exact HC0_0.out); (case side3 => repeat (first | exact (Kd.C_below HR0_1.out HB.out) | (with_reducible refine Kd.C_alloc ?_ _) | (with_reducible refine Kd.C_drewN ?_ _) | (with_reducible refine Kd.C_drew ?_))); (case side4 => exact HC0_1.out); rintro e w40 ⟨v582, v585, rfl, ho0, ho1, hb⟩; refine ⟨_, rfl, ?_⟩; have n0_ := Aside0.mk (Kd.R_lower ho0 (below_size (by repeat (first | (with_reducible first | exact HB.out | apply below_alloc | apply pw_below_drewN | apply below_drew1 | refine below_set ?_ GE579.out) | exact HB.out)))); have n1_ := Aside0.mk (Kd.S_lower ho1 (below_size (by repeat (first | (with_reducible first | exact HB.out | apply below_alloc | apply pw_below_drewN | apply below_drew1 | refine below_set ?_ GE579.out) | exact HB.out)))); have n2_ := Aside0.mk (blk_below (g := gb579) (o := .cells #[.slice A0_0 l0_0.length c0_0, .slice A0_1 l0_1.length c0_1] 25 (0, 0)) (by (with_reducible repeat (first | refine blk_drewN ?_ _ | refine blk_drew ?_ | refine blk_alloc ?_ _)); exact BK579.out) hb); have n3_ := Aside0.mk (below_step (by repeat (first | (with_reducible first | exact HB.out | apply below_alloc | apply pw_below_drewN | apply below_drew1 | refine below_set ?_ GE579.out) | exact HB.out)) hb); clear BK579; clear HB; have HO583 := n0_; have HO586 := n1_; have BK579 := n2_; have HB := n3_; clear n0_ n1_ n2_ n3_; (try clear hb); (try clear hb2); (try clear hk); (try clear hi); (try clear ho0); (try clear ho1); obtain ⟨Ao41, co41, eo41⟩ := Kd.R_slice HO583.out; subst eo41; obtain ⟨Ao42, co42, eo42⟩ := Kd.S_slice HO586.out; subst eo42) | ((with_reducible refine gate_callee (f := 13) rfl ?_); refine goesL_ (some 14) rfl rfl Tryd.func13 (by kernel_rfl) rfl #[.agg #[.slice Ao41 t581.length co41, .slice Ao42 t584.length co42]] rfl (by (try simp only [List.map_toArray, List.map_cons, List.map_nil]); first | done | rfl | (simp only [List.length_drop, List.length_take]; rfl)) ?_; (with_reducible refine (spec_PlateText.calls k _ _ t581 _ _ t584 t587 _ ?side1 ?side2 ?side3 ?side4 A8.out).mono ?_); (case side1 => repeat (first | exact (Kd.R_reads' HO583.out).2.2 | (with_reducible refine Kd.C_alloc ?_ _) | (with_reducible refine Kd.C_drewN ?_ _) | (with_reducible refine Kd.C_drew ?_))); (case side2 => exact (Kd.R_reads' HO583.out).2.1); (case side3 => repeat (first | exact (Kd.S_reads' HO586.out).2.2 | (with_reducible refine Kd.C_alloc ?_ _) | (with_reducible refine Kd.C_drewN ?_ _) | (with_reducible refine Kd.C_drew ?_))); (case side4 => exact (Kd.S_reads' HO586.out).2.1); rintro e w43 ⟨rfl, hb⟩; refine ⟨_, rfl, ?_⟩; have n0_ := Aside0.mk (Kd.R_below (by (with_reducible repeat (first | apply Kd.R_alloc | apply Kd.R_drewN | apply Kd.R_drew)); exact HO583.out) hb); have n1_ := Aside0.mk (Kd.S_below (by (with_reducible repeat (first | apply Kd.S_alloc | apply Kd.S_drewN | apply Kd.S_drew)); exact HO586.out) hb); have n2_ := Aside0.mk (blk_below (g := gb579) (o := .cells #[.slice A0_0 l0_0.length c0_0, .slice A0_1 l0_1.length c0_1] 25 (0, 0)) (by (with_reducible repeat (first | refine blk_drewN ?_ _ | refine blk_drew ?_ | refine blk_alloc ?_ _)); exact BK579.out) hb); have n3_ := Aside0.mk (below_step (by repeat (first | (with_reducible first | exact HB.out | apply below_alloc | apply pw_below_drewN | apply below_drew1 | refine below_set ?_ GE579.out) | exact HB.out)) hb); clear HO583; clear HO586; clear BK579; clear HB; have HO583 := n0_; have HO586 := n1_; have BK579 := n2_; have HB := n3_; clear n0_ n1_ n2_ n3_; (try clear hb); (try clear hb2); (try clear hk); (try clear hi); have hcz44_0 : w43.cell? ⟨gb579, 0, none⟩ = some (.slice A0_0 l0_0.length c0_0) := (blk_cell BK579.out 0).trans rfl; have hcz44_1 : w43.cell? ⟨gb579, 1, none⟩ = some (.slice A0_1 l0_1.length c0_1) := (blk_cell BK579.out 1).trans rfl; have hfz44_0 := blk_frozen BK579.out 0; have hfz44_1 := blk_frozen BK579.out 1) | ((with_reducible refine gate_callee (f := 14) rfl ?_); refine goesL_ (some 16) rfl rfl Tryd.func14 (by kernel_rfl) rfl #[.agg #[.slice A0_0 l0_0.length c0_0, .slice A0_1 l0_1.length c0_1]] rfl (by (try simp only [List.map_toArray, List.map_cons, List.map_nil]); first | done | rfl | (simp only [List.length_drop, List.length_take]; rfl)) ?_; (with_reducible refine (laws_toPlate.calls k _ _ l0_0 _ _ l0_1 t588 t591 _ ?side1 ?side2 ?side3 ?side4 A9.out).mono ?_); (case side1 => repeat (first | exact (Kd.C_below HR0_0.out HB.out) | (with_reducible refine Kd.C_alloc ?_ _) | (with_reducible refine Kd.C_drewN ?_ _) | (with_reducible refine Kd.C_drew ?_))); (case side2 => exact HC0_0.out); (case side3 => repeat (first | exact (Kd.C_below HR0_1.out HB.out) | (with_reducible refine Kd.C_alloc ?_ _) | (with_reducible refine Kd.C_drewN ?_ _) | (with_reducible refine Kd.C_drew ?_))); (case side4 => exact HC0_1.out); rintro e w45 ⟨v589, v592, rfl, ho0, ho1, hb⟩; refine ⟨_, rfl, ?_⟩; have n0_ := Aside0.mk (Kd.R_elder' (by (with_reducible repeat (first | apply Kd.R_alloc | apply Kd.R_drewN | apply Kd.R_drew)); exact HO583.out) (Kd.R_base ho0) hb); have n1_ := Aside0.mk (Kd.S_mono (Kd.S_told (Kd.S_told (Kd.S_old (by (with_reducible repeat (first | apply Kd.S_alloc | apply Kd.S_drewN | apply Kd.S_drew)); exact HO586.out) hb) (Kd.R_base ho0)) (Kd.S_base ho1)) (fun _ h_ => h_.1)); have n2_ := Aside0.mk (Kd.R_lower (Kd.R_new' ho0 (Kd.R_lt (by (with_reducible repeat (first | apply Kd.R_alloc | apply Kd.R_drewN | apply Kd.R_drew)); exact HO583.out))) (below_size (by repeat (first | (with_reducible first | exact HB.out | apply below_alloc | apply pw_below_drewN | apply below_drew1 | refine below_set ?_ GE579.out) | exact HB.out)))); have n3_ := Aside0.mk (Kd.S_lower (Kd.S_new' (Kd.S_new' ho1 (Kd.R_lt (by (with_reducible repeat (first | apply Kd.R_alloc | apply Kd.R_drewN | apply Kd.R_drew)); exact HO583.out))) (Kd.S_lt (by (with_reducible repeat (first | apply Kd.S_alloc | apply Kd.S_drewN | apply Kd.S_drew)); exact HO586.out))) (below_size (by repeat (first | (with_reducible first | exact HB.out | apply below_alloc | apply pw_below_drewN | apply below_drew1 | refine below_set ?_ GE579.out) | exact HB.out)))); have n4_ := Aside0.mk (blk_below (g := gb579) (o := .cells #[.slice A0_0 l0_0.length c0_0, .slice A0_1 l0_1.length c0_1] 25 (0, 0)) (by (with_reducible repeat (first | refine blk_drewN ?_ _ | refine blk_drew ?_ | refine blk_alloc ?_ _)); exact BK579.out) hb); have n5_ := Aside0.mk (below_step (by repeat (first | (with_reducible first | exact HB.out | apply below_alloc | apply pw_below_drewN | apply below_drew1 | refine below_set ?_ GE579.out) | exact HB.out)) hb); clear HO583; clear HO586; clear BK579; clear HB; have HO583 := n0_; have HO586 := n1_; have HO590 := n2_; have HO593 := n3_; have BK579 := n4_; have HB := n5_; clear n0_ n1_ n2_ n3_ n4_ n5_; (try clear hb); (try clear hb2); (try clear hk); (try clear hi); (try clear ho0); (try clear ho1)) | ((with_reducible refine gate_dst (N := 5) rfl ?_); refine box_event ?hg (N := 5) ?hd (cs := #[.slice none 0 0, .slice none 0 0]) (t := 31) ?hr ?_; (case hd => rfl); (case hg => rfl); (case hr => first | (go_simp; done) | (go_simp; rfl)); intro gb594 hg w46 hbox hb; have n0_ := Aside0.mk (Kd.R_below (by (with_reducible repeat (first | apply Kd.R_alloc | apply Kd.R_drewN | apply Kd.R_drew)); exact HO583.out) hb); have n1_ := Aside0.mk (Kd.S_below (by (with_reducible repeat (first | apply Kd.S_alloc | apply Kd.S_drewN | apply Kd.S_drew)); exact HO586.out) hb); have n2_ := Aside0.mk (Kd.R_below (by (with_reducible repeat (first | apply Kd.R_alloc | apply Kd.R_drewN | apply Kd.R_drew)); exact HO590.out) hb); have n3_ := Aside0.mk (Kd.S_below (by (with_reducible repeat (first | apply Kd.S_alloc | apply Kd.S_drewN | apply Kd.S_drew)); exact HO593.out) hb); have n4_ := Aside0.mk (blk_below (g := gb579) (o := .cells #[.slice A0_0 l0_0.length c0_0, .slice A0_1 l0_1.length c0_1] 25 (0, 0)) (by (with_reducible repeat (first | refine blk_drewN ?_ _ | refine blk_drew ?_ | refine blk_alloc ?_ _)); exact BK579.out) hb); have n5_ := Aside0.mk (below_step (by repeat (first | (with_reducible first | exact HB.out | apply below_alloc | apply pw_below_drewN | apply below_drew1 | refine below_set ?_ GE579.out) | exact HB.out)) hb); have n6_ := Aside0.mk (hbox); have n7_ := Aside0.mk ((by rw [hg]; exact (below_size (by repeat (first | (with_reducible first | exact HB.out | apply below_alloc | apply pw_below_drewN | apply below_drew1 | refine below_set ?_ GE579.out) | exact HB.out))) : w.heap.size ≤ gb594)); have n8_ := Aside0.mk ((by rw [hg]; exact (below_size (by repeat (first | (with_reducible first | exact HB.out | apply below_alloc | apply pw_below_drewN | apply below_drew1 | refine below_set ?_ GE579.out) | exact HB.out))) : w.heap.size ≤ gb594)); have n9_ := Aside0.mk ((by rw [hg]; exact Nat.ne_of_lt (blk_lt (g := gb579) (o := .cells #[.slice A0_0 l0_0.length c0_0, .slice A0_1 l0_1.length c0_1] 25 (0, 0)) (by (with_reducible repeat (first | refine blk_drewN ?_ _ | refine blk_drew ?_ | refine blk_alloc ?_ _)); exact BK579.out)) : gb579 ≠ gb594)); have n10_ := Aside0.mk ((by rw [hg]; exact Nat.ne_of_gt (blk_lt (g := gb579) (o := .cells #[.slice A0_0 l0_0.length c0_0, .slice A0_1 l0_1.length c0_1] 25 (0, 0)) (by (with_reducible repeat (first | refine blk_drewN ?_ _ | refine blk_drew ?_ | refine blk_alloc ?_ _)); exact BK579.out)) : gb594 ≠ gb579)); clear HO583; clear HO586; clear HO590; clear HO593; clear BK579; clear HB; have HO583 := n0_; have HO586 := n1_; have HO590 := n2_; have HO593 := n3_; have BK579 := n4_; have HB := n5_; have BK594 := n6_; have GW594 := n7_; have GE594 := n8_; have NB579_594 := n9_; have NB594_579 := n10_; clear n0_ n1_ n2_ n3_ n4_ n5_ n6_ n7_ n8_ n9_ n10_; clear hb hbox hg; obtain ⟨Ao47, co47, eo47⟩ := Kd.R_slice HO590.out; subst eo47; have hnb48 := NB594_579.out; have hnc48 := NB579_594.out; have hcz49_0 : w46.cell? ⟨gb594, 0, none⟩ = some (.slice none 0 0) := (blk_cell BK594.out 0).trans rfl; have hcz49_1 : w46.cell? ⟨gb594, 1, none⟩ = some (.slice none 0 0) := (blk_cell BK594.out 1).trans rfl; have hfz49_0 := blk_frozen BK594.out 0; have hfz49_1 := blk_frozen BK594.out 1; obtain ⟨Ao50, co50, eo50⟩ := Kd.S_slice HO593.out; subst eo50) | ((with_reducible refine gate_callee (f := 15) rfl ?_); refine goesL_ (some 18) rfl rfl Tryd.func15 (by kernel_rfl) rfl #[.agg #[.slice Ao47 t588.length co47, .slice Ao50 t591.length co50]] rfl (by (try simp only [List.map_toArray, List.map_cons, List.map_nil]); first | done | rfl | (simp only [List.length_drop, List.length_take]; rfl)) ?_; (with_reducible refine (impl_PlateText.calls _ _ t588 _ _ t591 t595 _ ?side1 ?side2 ?side3 ?side4 A10.out).mono ?_); (case side1 => refine (Kd.R_reads' (e := 97) (base := w.heap.size) (ok := fun k_ => (True ∧ some k_ ≠ (.slice Ao41 t581.length co41 : Value).ownBlock)) (n := t588.length) (c := co47) ?_).2.2; exact (by (with_reducible repeat (first | apply Kd.R_alloc | apply Kd.R_drewN | apply Kd.R_drew)); exact (Kd.R_mono (Kd.R_far (p := ⟨gb594, 1, none⟩) (Kd.R_far (p := ⟨gb594, 0, none⟩) (Kd.R_types HO590.out BK594.out (by decide)) (fun _ hk => hk.2) (.slice Ao47 t588.length co47)) (fun _ hk => hk.2) (.slice Ao50 t591.length co50)) (fun _ h_ => h_.1)))); (case side2 => exact (Kd.R_reads' HO590.out).2.1); (case side3 => refine (Kd.S_reads' (e := 28) (base := w.heap.size) (ok := fun k_ => ((some k_ ≠ (.slice Ao47 t588.length co47 : Value).ownBlock ∧ some k_ ≠ (.slice Ao41 t581.length co41 : Value).ownBlock) ∧ some k_ ≠ (.slice Ao42 t584.length co42 : Value).ownBlock)) (n := t591.length) (c := co50) ?_).2.2; exact (by (with_reducible repeat (first | apply Kd.S_alloc | apply Kd.S_drewN | apply Kd.S_drew)); exact (Kd.S_mono (Kd.S_far (p := ⟨gb594, 1, none⟩) (Kd.S_far (p := ⟨gb594, 0, none⟩) (Kd.S_types HO593.out BK594.out (by decide)) (fun _ hk => hk.2) (.slice Ao47 t588.length co47)) (fun _ hk => hk.2) (.slice Ao50 t591.length co50)) (fun _ h_ => h_.1)))); (case side4 => exact (Kd.S_reads' HO593.out).2.1); rintro e w51 ⟨rfl, hb⟩; refine ⟨_, rfl, ?_⟩; have n0_ := Aside0.mk (Kd.R_below (by (with_reducible repeat (first | apply Kd.R_alloc | apply Kd.R_drewN | apply Kd.R_drew)); exact (Kd.R_mono (Kd.R_far (p := ⟨gb594, 1, none⟩) (Kd.R_far (p := ⟨gb594, 0, none⟩) (Kd.R_types HO583.out BK594.out (by decide)) (fun _ hk => hk.2) (.slice Ao47 t588.length co47)) (fun _ hk => hk.2) (.slice Ao50 t591.length co50)) (fun _ h_ => h_.1))) hb); have n1_ := Aside0.mk (Kd.S_below (by (with_reducible repeat (first | apply Kd.S_alloc | apply Kd.S_drewN | apply Kd.S_drew)); exact (Kd.S_mono (Kd.S_far (p := ⟨gb594, 1, none⟩) (Kd.S_far (p := ⟨gb594, 0, none⟩) (Kd.S_types HO586.out BK594.out (by decide)) (fun _ hk => hk.2) (.slice Ao47 t588.length co47)) (fun _ hk => hk.2) (.slice Ao50 t591.length co50)) (fun _ h_ => h_.1))) hb); have n2_ := Aside0.mk (Kd.R_below (by (with_reducible repeat (first | apply Kd.R_alloc | apply Kd.R_drewN | apply Kd.R_drew)); exact (Kd.R_mono (Kd.R_far (p := ⟨gb594, 1, none⟩) (Kd.R_far (p := ⟨gb594, 0, none⟩) (Kd.R_types HO590.out BK594.out (by decide)) (fun _ hk => hk.2) (.slice Ao47 t588.length co47)) (fun _ hk => hk.2) (.slice Ao50 t591.length co50)) (fun _ h_ => h_.1))) hb); have n3_ := Aside0.mk (Kd.S_below (by (with_reducible repeat (first | apply Kd.S_alloc | apply Kd.S_drewN | apply Kd.S_drew)); exact (Kd.S_mono (Kd.S_far (p := ⟨gb594, 1, none⟩) (Kd.S_far (p := ⟨gb594, 0, none⟩) (Kd.S_types HO593.out BK594.out (by decide)) (fun _ hk => hk.2) (.slice Ao47 t588.length co47)) (fun _ hk => hk.2) (.slice Ao50 t591.length co50)) (fun _ h_ => h_.1))) hb); have n4_ := Aside0.mk (blk_below (g := gb579) (o := .cells #[.slice A0_0 l0_0.length c0_0, .slice A0_1 l0_1.length c0_1] 25 (0, 0)) (by (with_reducible repeat (first | refine blk_drewN ?_ _ | refine blk_drew ?_ | refine blk_alloc ?_ _)); refine blk_far ?_ NB579_594.out _; (with_reducible repeat (first | refine blk_drewN ?_ _ | refine blk_drew ?_ | refine blk_alloc ?_ _)); refine blk_far ?_ NB579_594.out _; (with_reducible repeat (first | refine blk_drewN ?_ _ | refine blk_drew ?_ | refine blk_alloc ?_ _)); exact BK579.out) hb); have n5_ := Aside0.mk (blk_below (g := gb594) (o := .cells #[.slice Ao47 t588.length co47, .slice Ao50 t591.length co50] 31 (0, 0)) (by (with_reducible repeat (first | refine blk_drewN ?_ _ | refine blk_drew ?_ | refine blk_alloc ?_ _)); refine blk_put (cs := #[.slice Ao47 t588.length co47, .slice none 0 0]) ?_ 1 _ rfl; (with_reducible repeat (first | refine blk_drewN ?_ _ | refine blk_drew ?_ | refine blk_alloc ?_ _)); refine blk_put (cs := #[.slice none 0 0, .slice none 0 0]) ?_ 0 _ rfl; (with_reducible repeat (first | refine blk_drewN ?_ _ | refine blk_drew ?_ | refine blk_alloc ?_ _)); exact BK594.out) hb); have n6_ := Aside0.mk (below_step (by repeat (first | (with_reducible first | exact HB.out | apply below_alloc | apply pw_below_drewN | apply below_drew1 | refine below_set ?_ GE579.out | refine below_set ?_ GE594.out) | exact HB.out)) hb); clear HO583; clear HO586; clear HO590; clear HO593; clear BK579; clear BK594; clear HB; have HO583 := n0_; have HO586 := n1_; have HO590 := n2_; have HO593 := n3_; have BK579 := n4_; have BK594 := n5_; have HB := n6_; clear n0_ n1_ n2_ n3_ n4_ n5_ n6_; (try clear hb); (try clear hb2); (try clear hk); (try clear hi)))
    have n0_ := Aside0.mk (Kd.R_drew HO583.out); have n1_ := Aside0.mk (Kd.S_drew HO586.out); have n2_ := Aside0.mk (Kd.R_drew HO590.out); have n3_ := Aside0.mk (Kd.S_drew HO593.out); have n4_ := Aside0.mk (blk_drew BK579.out); have n5_ := Aside0.mk (blk_drew BK594.out); have n6_ := Aside0.mk (below_drew1 HB.out); clear HO583; clear HO586; clear HO590; clear HO593; clear BK579; clear BK594; clear HB; have HO583 := n0_; have HO586 := n1_; have HO590 := n2_; have HO593 := n3_; have BK579 := n4_; have BK594 := n5_; have HB := n6_; clear n0_ n1_ n2_ n3_ n4_ n5_ n6_; refine start_ (n := 5) (S := fun w' => w'.cell? ⟨gb594, 0, none⟩ = some (.slice Ao47 t588.length co47) ∧ w'.cell? ⟨gb594, 1, none⟩ = some (.slice Ao50 t591.length co50) ∧ w'.cell? ⟨gb579, 0, none⟩ = some (.slice A0_0 l0_0.length c0_0) ∧ w'.cell? ⟨gb579, 1, none⟩ = some (.slice A0_1 l0_1.length c0_1)) (ds := []) #[false, false, false, false, false] (by kernel_rfl) rfl rfl ⟨(blk_cell BK594.out 0).trans rfl, (blk_cell BK594.out 1).trans rfl, (blk_cell BK579.out 0).trans rfl, (blk_cell BK579.out 1).trans rfl⟩ (fun hHeld => ?_); generalize w51.drew = w52 at HO583 HO586 HO590 HO593 BK579 BK594 HB hHeld ⊢
    refine take_ (i := 0) (N := some 22) (v := ?_) (a' := ?_) #[true, false, false, false, false] rfl rfl (by kernel_rfl) (fun _ _ _ h => h) (Or.inl ⟨by rfl, ?_⟩) hHeld ?_ ?_; rotate_left; ·rintro w' ⟨s0, s1, s2, s3⟩; go_simp; with_reducible rfl
    rotate_left; ·simp only [Act.put, Geo.sa_, Geo.sb_, Geo.sc_, i64_w, i32_w]; rfl
    refine take_ (i := 1) (N := some 23) (v := ?_) (a' := ?_) #[true, true, false, false, false] rfl rfl (by kernel_rfl) (fun _ _ _ h => h) (Or.inl ⟨by rfl, ?_⟩) hHeld ?_ ?_; rotate_left; ·rintro w' ⟨s0, s1, s2, s3⟩; go_simp; with_reducible rfl
    rotate_left; ·simp only [Act.put, Geo.sa_, Geo.sb_, Geo.sc_, i64_w, i32_w]; rfl
    refine one_ (i := 2) (N := some 24) #[true, true, true, false, false] rfl rfl (by kernel_rfl) (by decide) (fun K hK => ?_); refine goes_ Tryd.func14 (by kernel_rfl) rfl #[.agg #[.slice A0_0 l0_0.length c0_0, .slice A0_1 l0_1.length c0_1]] (by rfl) rfl rfl (by (try simp only [List.map_toArray, List.map_cons, List.map_nil]); first | done | rfl | (simp only [List.length_drop, List.length_take]; rfl)) ?_; with_reducible refine (laws_toPlate.calls k _ _ l0_0 _ _ l0_1 t596 t599 _ ?side1 ?side2 ?side3 ?side4 A12.out).mono ?_
    (case side1 => repeat (first | exact (Kd.C_below HR0_0.out HB.out) | (with_reducible refine Kd.C_alloc ?_ _) | (with_reducible refine Kd.C_drewN ?_ _) | (with_reducible refine Kd.C_drew ?_)))
    (case side2 => exact HC0_0.out)
    (case side3 => repeat (first | exact (Kd.C_below HR0_1.out HB.out) | (with_reducible refine Kd.C_alloc ?_ _) | (with_reducible refine Kd.C_drewN ?_ _) | (with_reducible refine Kd.C_drew ?_)))
    (case side4 => exact HC0_1.out)
    rintro e w53 ⟨v597, v600, rfl, ho0, ho1, hb⟩; refine ⟨_, rfl, ?_⟩; have n0_ := Aside0.mk (Kd.R_elder' (by (with_reducible repeat (first | apply Kd.R_alloc | apply Kd.R_drewN | apply Kd.R_drew)); exact HO583.out) (Kd.R_base ho0) hb); have n1_ := Aside0.mk (Kd.S_mono (Kd.S_told (Kd.S_told (Kd.S_old (by (with_reducible repeat (first | apply Kd.S_alloc | apply Kd.S_drewN | apply Kd.S_drew)); exact HO586.out) hb) (Kd.R_base ho0)) (Kd.S_base ho1)) (fun _ h_ => h_.1)); have n2_ := Aside0.mk (Kd.R_elder' (by (with_reducible repeat (first | apply Kd.R_alloc | apply Kd.R_drewN | apply Kd.R_drew)); exact HO590.out) (Kd.R_base ho0) hb); have n3_ := Aside0.mk (Kd.S_mono (Kd.S_told (Kd.S_told (Kd.S_old (by (with_reducible repeat (first | apply Kd.S_alloc | apply Kd.S_drewN | apply Kd.S_drew)); exact HO593.out) hb) (Kd.R_base ho0)) (Kd.S_base ho1)) (fun _ h_ => h_.1)); have n4_ := Aside0.mk (Kd.R_lower (Kd.R_new' (Kd.R_new' ho0 (Kd.R_lt (by (with_reducible repeat (first | apply Kd.R_alloc | apply Kd.R_drewN | apply Kd.R_drew)); exact HO583.out))) (Kd.R_lt (by (with_reducible repeat (first | apply Kd.R_alloc | apply Kd.R_drewN | apply Kd.R_drew)); exact HO590.out))) (below_size (by repeat (first | (with_reducible first | exact HB.out | apply below_alloc | apply pw_below_drewN | apply below_drew1 | refine below_set ?_ GE579.out | refine below_set ?_ GE594.out) | exact HB.out)))); have n5_ := Aside0.mk (Kd.S_lower (Kd.S_new' (Kd.S_new' (Kd.S_new' (Kd.S_new' ho1 (Kd.R_lt (by (with_reducible repeat (first | apply Kd.R_alloc | apply Kd.R_drewN | apply Kd.R_drew)); exact HO583.out))) (Kd.S_lt (by (with_reducible repeat (first | apply Kd.S_alloc | apply Kd.S_drewN | apply Kd.S_drew)); exact HO586.out))) (Kd.R_lt (by (with_reducible repeat (first | apply Kd.R_alloc | apply Kd.R_drewN | apply Kd.R_drew)); exact HO590.out))) (Kd.S_lt (by (with_reducible repeat (first | apply Kd.S_alloc | apply Kd.S_drewN | apply Kd.S_drew)); exact HO593.out))) (below_size (by repeat (first | (with_reducible first | exact HB.out | apply below_alloc | apply pw_below_drewN | apply below_drew1 | refine below_set ?_ GE579.out | refine below_set ?_ GE594.out) | exact HB.out)))); have n6_ := Aside0.mk (blk_below (g := gb579) (o := .cells #[.slice A0_0 l0_0.length c0_0, .slice A0_1 l0_1.length c0_1] 25 (0, 0)) (by (with_reducible repeat (first | refine blk_drewN ?_ _ | refine blk_drew ?_ | refine blk_alloc ?_ _)); exact BK579.out) hb); have n7_ := Aside0.mk (blk_below (g := gb594) (o := .cells #[.slice Ao47 t588.length co47, .slice Ao50 t591.length co50] 31 (0, 0)) (by (with_reducible repeat (first | refine blk_drewN ?_ _ | refine blk_drew ?_ | refine blk_alloc ?_ _)); exact BK594.out) hb); have n8_ := Aside0.mk (below_step (by repeat (first | (with_reducible first | exact HB.out | apply below_alloc | apply pw_below_drewN | apply below_drew1 | refine below_set ?_ GE579.out | refine below_set ?_ GE594.out) | exact HB.out)) hb); clear HO583; clear HO586; clear HO590; clear HO593; clear BK579; clear BK594; clear HB; have HO583 := n0_; have HO586 := n1_; have HO590 := n2_; have HO593 := n3_; have HO598 := n4_; have HO601 := n5_; have BK579 := n6_; have BK594 := n7_; have HB := n8_; clear n0_ n1_ n2_ n3_ n4_ n5_ n6_ n7_ n8_; (try clear hb); (try clear hb2); (try clear hk); (try clear hi); (try clear ho0); (try clear ho1); obtain ⟨Ao54, co54, eo54⟩ := Kd.R_slice HO598.out; (first | subst eo54 | (injection eo54 with f1_ f2_ f3_; have f4_ := f1_.symm; have f5_ := f3_.symm; clear f1_ f2_ f3_; subst f4_; subst f5_)); obtain ⟨Ao55, co55, eo55⟩ := Kd.S_slice HO601.out; (first | subst eo55 | (injection eo55 with f1_ f2_ f3_; have f4_ := f1_.symm; have f5_ := f3_.symm; clear f1_ f2_ f3_; subst f4_; subst f5_)); refine hK.out _ _ ⟨(blk_cell BK594.out 0).trans rfl, (blk_cell BK594.out 1).trans rfl, (blk_cell BK579.out 0).trans rfl, (blk_cell BK579.out 1).trans rfl⟩ (fun hHeld => ?_); clear hK K; refine norm_ (a' := ?_) ?_ ?_; rotate_left; ·show Act.put _ (some 24) _ = _; simp only [Act.put, Geo.sa_, Geo.sb_, Geo.sc_, i64_w, i32_w]; rfl
    refine one_ (i := 3) (N := some 25) #[true, true, true, true, false] rfl rfl (by kernel_rfl) (by decide) (fun K hK => ?_); refine goes_ Tryd.func16 (by kernel_rfl) rfl #[.agg #[.slice Ao47 t588.length co47, .slice Ao50 t591.length co50], .agg #[.slice Ao54 t596.length co54, .slice Ao55 t599.length co55]] (by rfl) rfl rfl (by (try simp only [List.map_toArray, List.map_cons, List.map_nil]); first | done | rfl | (simp only [List.length_drop, List.length_take]; rfl)) ?_; with_reducible refine (laws_eqPlate.calls k _ _ t588 _ _ t591 _ _ t596 _ _ t599 false _ ?side1 ?side2 ?side3 ?side4 ?side5 ?side6 ?side7 ?side8 A13.out).mono ?_
    (case side1 => repeat (first | exact (Kd.R_reads' HO590.out).2.2 | (with_reducible refine Kd.C_alloc ?_ _) | (with_reducible refine Kd.C_drewN ?_ _) | (with_reducible refine Kd.C_drew ?_)))
    (case side2 => exact (Kd.R_reads' HO590.out).2.1)
    (case side3 => repeat (first | exact (Kd.S_reads' HO593.out).2.2 | (with_reducible refine Kd.C_alloc ?_ _) | (with_reducible refine Kd.C_drewN ?_ _) | (with_reducible refine Kd.C_drew ?_)))
    (case side4 => exact (Kd.S_reads' HO593.out).2.1)
    (case side5 => repeat (first | exact (Kd.R_reads' HO598.out).2.2 | (with_reducible refine Kd.C_alloc ?_ _) | (with_reducible refine Kd.C_drewN ?_ _) | (with_reducible refine Kd.C_drew ?_)))
    (case side6 => exact (Kd.R_reads' HO598.out).2.1)
    (case side7 => repeat (first | exact (Kd.S_reads' HO601.out).2.2 | (with_reducible refine Kd.C_alloc ?_ _) | (with_reducible refine Kd.C_drewN ?_ _) | (with_reducible refine Kd.C_drew ?_)))
    (case side8 => exact (Kd.S_reads' HO601.out).2.1)
    rintro e w56 ⟨rfl, hb⟩; refine ⟨_, rfl, ?_⟩; have n0_ := Aside0.mk (Kd.R_below (by (with_reducible repeat (first | apply Kd.R_alloc | apply Kd.R_drewN | apply Kd.R_drew)); exact HO583.out) hb); have n1_ := Aside0.mk (Kd.S_below (by (with_reducible repeat (first | apply Kd.S_alloc | apply Kd.S_drewN | apply Kd.S_drew)); exact HO586.out) hb); have n2_ := Aside0.mk (Kd.R_below (by (with_reducible repeat (first | apply Kd.R_alloc | apply Kd.R_drewN | apply Kd.R_drew)); exact HO590.out) hb); have n3_ := Aside0.mk (Kd.S_below (by (with_reducible repeat (first | apply Kd.S_alloc | apply Kd.S_drewN | apply Kd.S_drew)); exact HO593.out) hb); have n4_ := Aside0.mk (Kd.R_below (by (with_reducible repeat (first | apply Kd.R_alloc | apply Kd.R_drewN | apply Kd.R_drew)); exact HO598.out) hb); have n5_ := Aside0.mk (Kd.S_below (by (with_reducible repeat (first | apply Kd.S_alloc | apply Kd.S_drewN | apply Kd.S_drew)); exact HO601.out) hb); have n6_ := Aside0.mk (blk_below (g := gb579) (o := .cells #[.slice A0_0 l0_0.length c0_0, .slice A0_1 l0_1.length c0_1] 25 (0, 0)) (by (with_reducible repeat (first | refine blk_drewN ?_ _ | refine blk_drew ?_ | refine blk_alloc ?_ _)); exact BK579.out) hb); have n7_ := Aside0.mk (blk_below (g := gb594) (o := .cells #[.slice Ao47 t588.length co47, .slice Ao50 t591.length co50] 31 (0, 0)) (by (with_reducible repeat (first | refine blk_drewN ?_ _ | refine blk_drew ?_ | refine blk_alloc ?_ _)); exact BK594.out) hb); have n8_ := Aside0.mk (below_step (by repeat (first | (with_reducible first | exact HB.out | apply below_alloc | apply pw_below_drewN | apply below_drew1 | refine below_set ?_ GE579.out | refine below_set ?_ GE594.out) | exact HB.out)) hb); clear HO583; clear HO586; clear HO590; clear HO593; clear HO598; clear HO601; clear BK579; clear BK594; clear HB; have HO583 := n0_; have HO586 := n1_; have HO590 := n2_; have HO593 := n3_; have HO598 := n4_; have HO601 := n5_; have BK579 := n6_; have BK594 := n7_; have HB := n8_; clear n0_ n1_ n2_ n3_ n4_ n5_ n6_ n7_ n8_; (try clear hb); (try clear hb2); (try clear hk); (try clear hi); refine hK.out _ _ ⟨(blk_cell BK594.out 0).trans rfl, (blk_cell BK594.out 1).trans rfl, (blk_cell BK579.out 0).trans rfl, (blk_cell BK579.out 1).trans rfl⟩ (fun hHeld => ?_); clear hK K; refine norm_ (a' := ?_) ?_ ?_; rotate_left; ·show Act.put _ (some 25) _ = _; simp only [Act.put, Geo.sa_, Geo.sb_, Geo.sc_, i64_w, i32_w]; rfl
    refine pure_ (i := 4) (N := some 26) (v := ?_) (a' := ?_) #[true, true, true, true, true] rfl rfl (by kernel_rfl) (fun _ _ _ h => h) (Or.inl ⟨by rfl, ?_⟩) ?_ ?_; rotate_left; ·intro w'; go_simp; with_reducible rfl
    rotate_left; ·simp only [Act.put, Geo.sa_, Geo.sb_, Geo.sc_, i64_w, i32_w]; rfl
    refine done_ (by kernel_rfl) ?_; try go_wp2
    go_ret
    exact ⟨by first | rfl | (simp [errW_none, errW_some] <;> rfl) | (simp [*, errW_none, errW_some] <;> rfl), by repeat (first | (with_reducible first | exact HB.out | apply below_alloc | apply pw_below_drewN | apply below_drew1 | refine below_set ?_ GE579.out | refine below_set ?_ GE594.out) | exact HB.out)⟩
  ·rw [if_neg c11] at H; have c11b0 : (t595.toList == t587.toList) = false := beq_eq_false_iff_ne.mpr c11; have c11b1 : (t595.toList != t587.toList) = true := bne_iff_ne.mpr c11; obtain rfl := Option.some.inj H; go_enter Tryd.func3, Tryd.ntmps3
   go_wp2_with (first | ((with_reducible refine gate_dst (N := 1) rfl ?_); refine box_event ?hg (N := 1) ?hd (cs := #[.slice A0_0 l0_0.length c0_0, .slice A0_1 l0_1.length c0_1]) (t := 25) ?hr ?_; (case hd => rfl); (case hg => rfl); (case hr => first | (go_simp; done) | (go_simp; rfl)); intro gb579 hg w57 hbox hb; have n0_ := Aside0.mk (below_step (by repeat (first | (with_reducible first | exact HB.out | apply below_alloc | apply pw_below_drewN | apply below_drew1) | exact HB.out)) hb); have n1_ := Aside0.mk (hbox); have n2_ := Aside0.mk ((by rw [hg]; exact (below_size (by repeat (first | (with_reducible first | exact HB.out | apply below_alloc | apply pw_below_drewN | apply below_drew1) | exact HB.out))) : w.heap.size ≤ gb579)); have n3_ := Aside0.mk ((by rw [hg]; exact (below_size (by repeat (first | (with_reducible first | exact HB.out | apply below_alloc | apply pw_below_drewN | apply below_drew1) | exact HB.out))) : w.heap.size ≤ gb579)); clear HB; have HB := n0_; have BK579 := n1_; have GW579 := n2_; have GE579 := n3_; clear n0_ n1_ n2_ n3_; clear hb hbox hg; have hcz58_0 : w57.cell? ⟨gb579, 0, none⟩ = some (.slice A0_0 l0_0.length c0_0) := (blk_cell BK579.out 0).trans rfl; have hcz58_1 : w57.cell? ⟨gb579, 1, none⟩ = some (.slice A0_1 l0_1.length c0_1) := (blk_cell BK579.out 1).trans rfl; have hfz58_0 := blk_frozen BK579.out 0; have hfz58_1 := blk_frozen BK579.out 1) | ((with_reducible refine gate_callee (f := 12) rfl ?_); refine goesL_ (some 9) rfl rfl Tryd.func12 (by kernel_rfl) rfl #[.agg #[.slice A0_0 l0_0.length c0_0, .slice A0_1 l0_1.length c0_1], .int .i64 1048576] rfl (by (try simp only [List.map_toArray, List.map_cons, List.map_nil]); first | done | rfl | (simp only [List.length_drop, List.length_take]; rfl)) ?_; (with_reducible refine (laws_szPlate.calls k _ _ l0_0 _ _ l0_1 1048576 t580 _ ?side1 ?side2 ?side3 ?side4 A2.out).mono ?_); (case side1 => repeat (first | exact (Kd.C_below HR0_0.out HB.out) | (with_reducible refine Kd.C_alloc ?_ _) | (with_reducible refine Kd.C_drewN ?_ _) | (with_reducible refine Kd.C_drew ?_))); (case side2 => exact HC0_0.out); (case side3 => repeat (first | exact (Kd.C_below HR0_1.out HB.out) | (with_reducible refine Kd.C_alloc ?_ _) | (with_reducible refine Kd.C_drewN ?_ _) | (with_reducible refine Kd.C_drew ?_))); (case side4 => exact HC0_1.out); rintro e w59 ⟨rfl, hb⟩; refine ⟨_, rfl, ?_⟩; have n0_ := Aside0.mk (blk_below (g := gb579) (o := .cells #[.slice A0_0 l0_0.length c0_0, .slice A0_1 l0_1.length c0_1] 25 (0, 0)) (by (with_reducible repeat (first | refine blk_drewN ?_ _ | refine blk_drew ?_ | refine blk_alloc ?_ _)); exact BK579.out) hb); have n1_ := Aside0.mk (below_step (by repeat (first | (with_reducible first | exact HB.out | apply below_alloc | apply pw_below_drewN | apply below_drew1 | refine below_set ?_ GE579.out) | exact HB.out)) hb); clear BK579; clear HB; have BK579 := n0_; have HB := n1_; clear n0_ n1_; (try clear hb); (try clear hb2); (try clear hk); (try clear hi); have hcz60_0 : w59.cell? ⟨gb579, 0, none⟩ = some (.slice A0_0 l0_0.length c0_0) := (blk_cell BK579.out 0).trans rfl; have hcz60_1 : w59.cell? ⟨gb579, 1, none⟩ = some (.slice A0_1 l0_1.length c0_1) := (blk_cell BK579.out 1).trans rfl; have hfz60_0 := blk_frozen BK579.out 0; have hfz60_1 := blk_frozen BK579.out 1) | ((with_reducible refine gate_callee (f := 14) rfl ?_); refine goesL_ (some 13) rfl rfl Tryd.func14 (by kernel_rfl) rfl #[.agg #[.slice A0_0 l0_0.length c0_0, .slice A0_1 l0_1.length c0_1]] rfl (by (try simp only [List.map_toArray, List.map_cons, List.map_nil]); first | done | rfl | (simp only [List.length_drop, List.length_take]; rfl)) ?_; (with_reducible refine (laws_toPlate.calls k _ _ l0_0 _ _ l0_1 t581 t584 _ ?side1 ?side2 ?side3 ?side4 A7.out).mono ?_); (case side1 => repeat (first | exact (Kd.C_below HR0_0.out HB.out) | (with_reducible refine Kd.C_alloc ?_ _) | (with_reducible refine Kd.C_drewN ?_ _) | (with_reducible refine Kd.C_drew ?_))); (case side2 => exact HC0_0.out); (case side3 => repeat (first | exact (Kd.C_below HR0_1.out HB.out) | (with_reducible refine Kd.C_alloc ?_ _) | (with_reducible refine Kd.C_drewN ?_ _) | (with_reducible refine Kd.C_drew ?_))); (case side4 => exact HC0_1.out); rintro e w61 ⟨v582, v585, rfl, ho0, ho1, hb⟩; refine ⟨_, rfl, ?_⟩; have n0_ := Aside0.mk (Kd.R_lower ho0 (below_size (by repeat (first | (with_reducible first | exact HB.out | apply below_alloc | apply pw_below_drewN | apply below_drew1 | refine below_set ?_ GE579.out) | exact HB.out)))); have n1_ := Aside0.mk (Kd.S_lower ho1 (below_size (by repeat (first | (with_reducible first | exact HB.out | apply below_alloc | apply pw_below_drewN | apply below_drew1 | refine below_set ?_ GE579.out) | exact HB.out)))); have n2_ := Aside0.mk (blk_below (g := gb579) (o := .cells #[.slice A0_0 l0_0.length c0_0, .slice A0_1 l0_1.length c0_1] 25 (0, 0)) (by (with_reducible repeat (first | refine blk_drewN ?_ _ | refine blk_drew ?_ | refine blk_alloc ?_ _)); exact BK579.out) hb); have n3_ := Aside0.mk (below_step (by repeat (first | (with_reducible first | exact HB.out | apply below_alloc | apply pw_below_drewN | apply below_drew1 | refine below_set ?_ GE579.out) | exact HB.out)) hb); clear BK579; clear HB; have HO583 := n0_; have HO586 := n1_; have BK579 := n2_; have HB := n3_; clear n0_ n1_ n2_ n3_; (try clear hb); (try clear hb2); (try clear hk); (try clear hi); (try clear ho0); (try clear ho1); obtain ⟨Ao62, co62, eo62⟩ := Kd.R_slice HO583.out; subst eo62; obtain ⟨Ao63, co63, eo63⟩ := Kd.S_slice HO586.out; subst eo63) | ((with_reducible refine gate_callee (f := 13) rfl ?_); refine goesL_ (some 14) rfl rfl Tryd.func13 (by kernel_rfl) rfl #[.agg #[.slice Ao62 t581.length co62, .slice Ao63 t584.length co63]] rfl (by (try simp only [List.map_toArray, List.map_cons, List.map_nil]); first | done | rfl | (simp only [List.length_drop, List.length_take]; rfl)) ?_; (with_reducible refine (spec_PlateText.calls k _ _ t581 _ _ t584 t587 _ ?side1 ?side2 ?side3 ?side4 A8.out).mono ?_); (case side1 => repeat (first | exact (Kd.R_reads' HO583.out).2.2 | (with_reducible refine Kd.C_alloc ?_ _) | (with_reducible refine Kd.C_drewN ?_ _) | (with_reducible refine Kd.C_drew ?_))); (case side2 => exact (Kd.R_reads' HO583.out).2.1); (case side3 => repeat (first | exact (Kd.S_reads' HO586.out).2.2 | (with_reducible refine Kd.C_alloc ?_ _) | (with_reducible refine Kd.C_drewN ?_ _) | (with_reducible refine Kd.C_drew ?_))); (case side4 => exact (Kd.S_reads' HO586.out).2.1); rintro e w64 ⟨rfl, hb⟩; refine ⟨_, rfl, ?_⟩; have n0_ := Aside0.mk (Kd.R_below (by (with_reducible repeat (first | apply Kd.R_alloc | apply Kd.R_drewN | apply Kd.R_drew)); exact HO583.out) hb); have n1_ := Aside0.mk (Kd.S_below (by (with_reducible repeat (first | apply Kd.S_alloc | apply Kd.S_drewN | apply Kd.S_drew)); exact HO586.out) hb); have n2_ := Aside0.mk (blk_below (g := gb579) (o := .cells #[.slice A0_0 l0_0.length c0_0, .slice A0_1 l0_1.length c0_1] 25 (0, 0)) (by (with_reducible repeat (first | refine blk_drewN ?_ _ | refine blk_drew ?_ | refine blk_alloc ?_ _)); exact BK579.out) hb); have n3_ := Aside0.mk (below_step (by repeat (first | (with_reducible first | exact HB.out | apply below_alloc | apply pw_below_drewN | apply below_drew1 | refine below_set ?_ GE579.out) | exact HB.out)) hb); clear HO583; clear HO586; clear BK579; clear HB; have HO583 := n0_; have HO586 := n1_; have BK579 := n2_; have HB := n3_; clear n0_ n1_ n2_ n3_; (try clear hb); (try clear hb2); (try clear hk); (try clear hi); have hcz65_0 : w64.cell? ⟨gb579, 0, none⟩ = some (.slice A0_0 l0_0.length c0_0) := (blk_cell BK579.out 0).trans rfl; have hcz65_1 : w64.cell? ⟨gb579, 1, none⟩ = some (.slice A0_1 l0_1.length c0_1) := (blk_cell BK579.out 1).trans rfl; have hfz65_0 := blk_frozen BK579.out 0; have hfz65_1 := blk_frozen BK579.out 1) | ((with_reducible refine gate_callee (f := 14) rfl ?_); refine goesL_ (some 16) rfl rfl Tryd.func14 (by kernel_rfl) rfl #[.agg #[.slice A0_0 l0_0.length c0_0, .slice A0_1 l0_1.length c0_1]] rfl (by (try simp only [List.map_toArray, List.map_cons, List.map_nil]); first | done | rfl | (simp only [List.length_drop, List.length_take]; rfl)) ?_; (with_reducible refine (laws_toPlate.calls k _ _ l0_0 _ _ l0_1 t588 t591 _ ?side1 ?side2 ?side3 ?side4 A9.out).mono ?_); (case side1 => repeat (first | exact (Kd.C_below HR0_0.out HB.out) | (with_reducible refine Kd.C_alloc ?_ _) | (with_reducible refine Kd.C_drewN ?_ _) | (with_reducible refine Kd.C_drew ?_))); (case side2 => exact HC0_0.out); (case side3 => repeat (first | exact (Kd.C_below HR0_1.out HB.out) | (with_reducible refine Kd.C_alloc ?_ _) | (with_reducible refine Kd.C_drewN ?_ _) | (with_reducible refine Kd.C_drew ?_))); (case side4 => exact HC0_1.out); rintro e w66 ⟨v589, v592, rfl, ho0, ho1, hb⟩; refine ⟨_, rfl, ?_⟩; have n0_ := Aside0.mk (Kd.R_elder' (by (with_reducible repeat (first | apply Kd.R_alloc | apply Kd.R_drewN | apply Kd.R_drew)); exact HO583.out) (Kd.R_base ho0) hb); have n1_ := Aside0.mk (Kd.S_mono (Kd.S_told (Kd.S_told (Kd.S_old (by (with_reducible repeat (first | apply Kd.S_alloc | apply Kd.S_drewN | apply Kd.S_drew)); exact HO586.out) hb) (Kd.R_base ho0)) (Kd.S_base ho1)) (fun _ h_ => h_.1)); have n2_ := Aside0.mk (Kd.R_lower (Kd.R_new' ho0 (Kd.R_lt (by (with_reducible repeat (first | apply Kd.R_alloc | apply Kd.R_drewN | apply Kd.R_drew)); exact HO583.out))) (below_size (by repeat (first | (with_reducible first | exact HB.out | apply below_alloc | apply pw_below_drewN | apply below_drew1 | refine below_set ?_ GE579.out) | exact HB.out)))); have n3_ := Aside0.mk (Kd.S_lower (Kd.S_new' (Kd.S_new' ho1 (Kd.R_lt (by (with_reducible repeat (first | apply Kd.R_alloc | apply Kd.R_drewN | apply Kd.R_drew)); exact HO583.out))) (Kd.S_lt (by (with_reducible repeat (first | apply Kd.S_alloc | apply Kd.S_drewN | apply Kd.S_drew)); exact HO586.out))) (below_size (by repeat (first | (with_reducible first | exact HB.out | apply below_alloc | apply pw_below_drewN | apply below_drew1 | refine below_set ?_ GE579.out) | exact HB.out)))); have n4_ := Aside0.mk (blk_below (g := gb579) (o := .cells #[.slice A0_0 l0_0.length c0_0, .slice A0_1 l0_1.length c0_1] 25 (0, 0)) (by (with_reducible repeat (first | refine blk_drewN ?_ _ | refine blk_drew ?_ | refine blk_alloc ?_ _)); exact BK579.out) hb); have n5_ := Aside0.mk (below_step (by repeat (first | (with_reducible first | exact HB.out | apply below_alloc | apply pw_below_drewN | apply below_drew1 | refine below_set ?_ GE579.out) | exact HB.out)) hb); clear HO583; clear HO586; clear BK579; clear HB; have HO583 := n0_; have HO586 := n1_; have HO590 := n2_; have HO593 := n3_; have BK579 := n4_; have HB := n5_; clear n0_ n1_ n2_ n3_ n4_ n5_; (try clear hb); (try clear hb2); (try clear hk); (try clear hi); (try clear ho0); (try clear ho1)) | ((with_reducible refine gate_dst (N := 5) rfl ?_); refine box_event ?hg (N := 5) ?hd (cs := #[.slice none 0 0, .slice none 0 0]) (t := 31) ?hr ?_; (case hd => rfl); (case hg => rfl); (case hr => first | (go_simp; done) | (go_simp; rfl)); intro gb594 hg w67 hbox hb; have n0_ := Aside0.mk (Kd.R_below (by (with_reducible repeat (first | apply Kd.R_alloc | apply Kd.R_drewN | apply Kd.R_drew)); exact HO583.out) hb); have n1_ := Aside0.mk (Kd.S_below (by (with_reducible repeat (first | apply Kd.S_alloc | apply Kd.S_drewN | apply Kd.S_drew)); exact HO586.out) hb); have n2_ := Aside0.mk (Kd.R_below (by (with_reducible repeat (first | apply Kd.R_alloc | apply Kd.R_drewN | apply Kd.R_drew)); exact HO590.out) hb); have n3_ := Aside0.mk (Kd.S_below (by (with_reducible repeat (first | apply Kd.S_alloc | apply Kd.S_drewN | apply Kd.S_drew)); exact HO593.out) hb); have n4_ := Aside0.mk (blk_below (g := gb579) (o := .cells #[.slice A0_0 l0_0.length c0_0, .slice A0_1 l0_1.length c0_1] 25 (0, 0)) (by (with_reducible repeat (first | refine blk_drewN ?_ _ | refine blk_drew ?_ | refine blk_alloc ?_ _)); exact BK579.out) hb); have n5_ := Aside0.mk (below_step (by repeat (first | (with_reducible first | exact HB.out | apply below_alloc | apply pw_below_drewN | apply below_drew1 | refine below_set ?_ GE579.out) | exact HB.out)) hb); have n6_ := Aside0.mk (hbox); have n7_ := Aside0.mk ((by rw [hg]; exact (below_size (by repeat (first | (with_reducible first | exact HB.out | apply below_alloc | apply pw_below_drewN | apply below_drew1 | refine below_set ?_ GE579.out) | exact HB.out))) : w.heap.size ≤ gb594)); have n8_ := Aside0.mk ((by rw [hg]; exact (below_size (by repeat (first | (with_reducible first | exact HB.out | apply below_alloc | apply pw_below_drewN | apply below_drew1 | refine below_set ?_ GE579.out) | exact HB.out))) : w.heap.size ≤ gb594)); have n9_ := Aside0.mk ((by rw [hg]; exact Nat.ne_of_lt (blk_lt (g := gb579) (o := .cells #[.slice A0_0 l0_0.length c0_0, .slice A0_1 l0_1.length c0_1] 25 (0, 0)) (by (with_reducible repeat (first | refine blk_drewN ?_ _ | refine blk_drew ?_ | refine blk_alloc ?_ _)); exact BK579.out)) : gb579 ≠ gb594)); have n10_ := Aside0.mk ((by rw [hg]; exact Nat.ne_of_gt (blk_lt (g := gb579) (o := .cells #[.slice A0_0 l0_0.length c0_0, .slice A0_1 l0_1.length c0_1] 25 (0, 0)) (by (with_reducible repeat (first | refine blk_drewN ?_ _ | refine blk_drew ?_ | refine blk_alloc ?_ _)); exact BK579.out)) : gb594 ≠ gb579)); clear HO583; clear HO586; clear HO590; clear HO593; clear BK579; clear HB; have HO583 := n0_; have HO586 := n1_; have HO590 := n2_; have HO593 := n3_; have BK579 := n4_; have HB := n5_; have BK594 := n6_; have GW594 := n7_; have GE594 := n8_; have NB579_594 := n9_; have NB594_579 := n10_; clear n0_ n1_ n2_ n3_ n4_ n5_ n6_ n7_ n8_ n9_ n10_; clear hb hbox hg; obtain ⟨Ao68, co68, eo68⟩ := Kd.R_slice HO590.out; subst eo68; have hnb69 := NB594_579.out; have hnc69 := NB579_594.out; have hcz70_0 : w67.cell? ⟨gb594, 0, none⟩ = some (.slice none 0 0) := (blk_cell BK594.out 0).trans rfl; have hcz70_1 : w67.cell? ⟨gb594, 1, none⟩ = some (.slice none 0 0) := (blk_cell BK594.out 1).trans rfl; have hfz70_0 := blk_frozen BK594.out 0; have hfz70_1 := blk_frozen BK594.out 1; obtain ⟨Ao71, co71, eo71⟩ := Kd.S_slice HO593.out; subst eo71) | ((with_reducible refine gate_callee (f := 15) rfl ?_); refine goesL_ (some 18) rfl rfl Tryd.func15 (by kernel_rfl) rfl #[.agg #[.slice Ao68 t588.length co68, .slice Ao71 t591.length co71]] rfl (by (try simp only [List.map_toArray, List.map_cons, List.map_nil]); first | done | rfl | (simp only [List.length_drop, List.length_take]; rfl)) ?_; (with_reducible refine (impl_PlateText.calls _ _ t588 _ _ t591 t595 _ ?side1 ?side2 ?side3 ?side4 A10.out).mono ?_); (case side1 => refine (Kd.R_reads' (e := 97) (base := w.heap.size) (ok := fun k_ => (True ∧ some k_ ≠ (.slice Ao62 t581.length co62 : Value).ownBlock)) (n := t588.length) (c := co68) ?_).2.2; exact (by (with_reducible repeat (first | apply Kd.R_alloc | apply Kd.R_drewN | apply Kd.R_drew)); exact (Kd.R_mono (Kd.R_far (p := ⟨gb594, 1, none⟩) (Kd.R_far (p := ⟨gb594, 0, none⟩) (Kd.R_types HO590.out BK594.out (by decide)) (fun _ hk => hk.2) (.slice Ao68 t588.length co68)) (fun _ hk => hk.2) (.slice Ao71 t591.length co71)) (fun _ h_ => h_.1)))); (case side2 => exact (Kd.R_reads' HO590.out).2.1); (case side3 => refine (Kd.S_reads' (e := 28) (base := w.heap.size) (ok := fun k_ => ((some k_ ≠ (.slice Ao68 t588.length co68 : Value).ownBlock ∧ some k_ ≠ (.slice Ao62 t581.length co62 : Value).ownBlock) ∧ some k_ ≠ (.slice Ao63 t584.length co63 : Value).ownBlock)) (n := t591.length) (c := co71) ?_).2.2; exact (by (with_reducible repeat (first | apply Kd.S_alloc | apply Kd.S_drewN | apply Kd.S_drew)); exact (Kd.S_mono (Kd.S_far (p := ⟨gb594, 1, none⟩) (Kd.S_far (p := ⟨gb594, 0, none⟩) (Kd.S_types HO593.out BK594.out (by decide)) (fun _ hk => hk.2) (.slice Ao68 t588.length co68)) (fun _ hk => hk.2) (.slice Ao71 t591.length co71)) (fun _ h_ => h_.1)))); (case side4 => exact (Kd.S_reads' HO593.out).2.1); rintro e w72 ⟨rfl, hb⟩; refine ⟨_, rfl, ?_⟩; have n0_ := Aside0.mk (Kd.R_below (by (with_reducible repeat (first | apply Kd.R_alloc | apply Kd.R_drewN | apply Kd.R_drew)); exact (Kd.R_mono (Kd.R_far (p := ⟨gb594, 1, none⟩) (Kd.R_far (p := ⟨gb594, 0, none⟩) (Kd.R_types HO583.out BK594.out (by decide)) (fun _ hk => hk.2) (.slice Ao68 t588.length co68)) (fun _ hk => hk.2) (.slice Ao71 t591.length co71)) (fun _ h_ => h_.1))) hb); have n1_ := Aside0.mk (Kd.S_below (by (with_reducible repeat (first | apply Kd.S_alloc | apply Kd.S_drewN | apply Kd.S_drew)); exact (Kd.S_mono (Kd.S_far (p := ⟨gb594, 1, none⟩) (Kd.S_far (p := ⟨gb594, 0, none⟩) (Kd.S_types HO586.out BK594.out (by decide)) (fun _ hk => hk.2) (.slice Ao68 t588.length co68)) (fun _ hk => hk.2) (.slice Ao71 t591.length co71)) (fun _ h_ => h_.1))) hb); have n2_ := Aside0.mk (Kd.R_below (by (with_reducible repeat (first | apply Kd.R_alloc | apply Kd.R_drewN | apply Kd.R_drew)); exact (Kd.R_mono (Kd.R_far (p := ⟨gb594, 1, none⟩) (Kd.R_far (p := ⟨gb594, 0, none⟩) (Kd.R_types HO590.out BK594.out (by decide)) (fun _ hk => hk.2) (.slice Ao68 t588.length co68)) (fun _ hk => hk.2) (.slice Ao71 t591.length co71)) (fun _ h_ => h_.1))) hb); have n3_ := Aside0.mk (Kd.S_below (by (with_reducible repeat (first | apply Kd.S_alloc | apply Kd.S_drewN | apply Kd.S_drew)); exact (Kd.S_mono (Kd.S_far (p := ⟨gb594, 1, none⟩) (Kd.S_far (p := ⟨gb594, 0, none⟩) (Kd.S_types HO593.out BK594.out (by decide)) (fun _ hk => hk.2) (.slice Ao68 t588.length co68)) (fun _ hk => hk.2) (.slice Ao71 t591.length co71)) (fun _ h_ => h_.1))) hb); have n4_ := Aside0.mk (blk_below (g := gb579) (o := .cells #[.slice A0_0 l0_0.length c0_0, .slice A0_1 l0_1.length c0_1] 25 (0, 0)) (by (with_reducible repeat (first | refine blk_drewN ?_ _ | refine blk_drew ?_ | refine blk_alloc ?_ _)); refine blk_far ?_ NB579_594.out _; (with_reducible repeat (first | refine blk_drewN ?_ _ | refine blk_drew ?_ | refine blk_alloc ?_ _)); refine blk_far ?_ NB579_594.out _; (with_reducible repeat (first | refine blk_drewN ?_ _ | refine blk_drew ?_ | refine blk_alloc ?_ _)); exact BK579.out) hb); have n5_ := Aside0.mk (blk_below (g := gb594) (o := .cells #[.slice Ao68 t588.length co68, .slice Ao71 t591.length co71] 31 (0, 0)) (by (with_reducible repeat (first | refine blk_drewN ?_ _ | refine blk_drew ?_ | refine blk_alloc ?_ _)); refine blk_put (cs := #[.slice Ao68 t588.length co68, .slice none 0 0]) ?_ 1 _ rfl; (with_reducible repeat (first | refine blk_drewN ?_ _ | refine blk_drew ?_ | refine blk_alloc ?_ _)); refine blk_put (cs := #[.slice none 0 0, .slice none 0 0]) ?_ 0 _ rfl; (with_reducible repeat (first | refine blk_drewN ?_ _ | refine blk_drew ?_ | refine blk_alloc ?_ _)); exact BK594.out) hb); have n6_ := Aside0.mk (below_step (by repeat (first | (with_reducible first | exact HB.out | apply below_alloc | apply pw_below_drewN | apply below_drew1 | refine below_set ?_ GE579.out | refine below_set ?_ GE594.out) | exact HB.out)) hb); clear HO583; clear HO586; clear HO590; clear HO593; clear BK579; clear BK594; clear HB; have HO583 := n0_; have HO586 := n1_; have HO590 := n2_; have HO593 := n3_; have BK579 := n4_; have BK594 := n5_; have HB := n6_; clear n0_ n1_ n2_ n3_ n4_ n5_ n6_; (try clear hb); (try clear hb2); (try clear hk); (try clear hi)))
   go_ret
   exact ⟨by first | rfl | (simp [errW_none, errW_some] <;> rfl) | (simp [*, errW_none, errW_some] <;> rfl), by repeat (first | (with_reducible first | exact HB.out | apply below_alloc | apply pw_below_drewN | apply below_drew1 | refine below_set ?_ GE579.out | refine below_set ?_ GE594.out) | exact HB.out)⟩

end Go.Proofs.YtddbahlofgkoaaaDoor.PA
