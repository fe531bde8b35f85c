/- What the row of FnPlateHoles rests on, part 4: words, plain facts, functions and their contracts. No condition. -/
import Derived.Test.YtehkklmacglelaaMFnPlateHolesd
namespace Go.Proofs.Ytehkklmacglelaa.PA
open Go.RowKit Go.Proofs.YtehkklmacglelaaW.PrintWords Go.Proofs.YtehkklmacglelaaW.PrintLast Go.Proofs.YtehkklmacglelaaW.PrintMore
attribute [local go_sem] max2_int min2_int max_two min_two max_three min_three max_four min_four   -- for this text's walks alone
set_option linter.unusedVariables false
set_option linter.unusedSimpArgs false

/-! ### impl_bodyOf: function 68 -/
section
open Edges Go.Shelf
attribute [local go_sem] Oper.semAt_some
/-- The holes' places among each other, of two holes at most. -/
def nestP (l : List S25) : List (List S25) → Bool
  | [] => true
  | [a] => decide (insF l (hd0 a) = 1)
  | [a, b] => (decide (insF l (hd0 a) = 1) && decide (insF b (hd0 a) = -1)) && (decide (insF l (hd0 b) = 1) && decide (insF a (hd0 b) = -1))
  | _ => false
theorem nestedN_P (n : Nd) : ∀ ns : List Nd, ns.length ≤ 2 → (ns.map Nd.b).Nodup → nestedN n ns = nestP n.l (ns.map Nd.l)
  | [], _, _ => rfl
  | [a], _, _ => by simp [nestedN, nestedM, nestP]
  | [a, b], _, h => by
    have hab : ¬ a.b = b.b := by simpa using h
    have hba : ¬ b.b = a.b := fun e => hab e.symm
    simp [nestedN, nestedM, nestP, hab, hba]
  | _ :: _ :: _ :: _, h, _ => by simp at h
def bodyOk (l : List S25) (hs : List (List S25)) : Bool :=
  decide (hs.length ≤ 2) && (impl_LoopOk.all l && (hs.all impl_LoopOk.all && (apartB (l :: hs) && nestP l hs)))
def edgeRow (l : List S25) : List impl_LoopOk.E := upto l l.length
def bodyEdges (ls : List (List S25)) : List impl_LoopOk.E := ls.flatMap edgeRow
def bodyRows (pre : List impl_LoopOk.E) : List Value := pre.flatMap fun x => [.int .i64 x.2.1.f0, .int .i64 x.2.1.f1, .int .i64 x.2.2.f0, .int .i64 x.2.2.f1]
theorem bodyOk_no1 {l : List S25} {hs : List (List S25)} (h : ¬ hs.length ≤ 2) : bodyOk l hs = false := by rw [bodyOk, decide_eq_false h]; rfl
theorem bodyOk_no2 {l : List S25} {hs : List (List S25)} (h : impl_LoopOk.all l = false) : bodyOk l hs = false := by rw [bodyOk, h]; simp
theorem bodyOk_no3 {l : List S25} {hs : List (List S25)} {i : Nat} (hi : i < hs.length) (h : impl_LoopOk.all (rd_L4 hs i) = false) : bodyOk l hs = false := by
  have : hs.all impl_LoopOk.all = false := by
    rw [List.all_eq_false]
    refine ⟨hs[i], List.getElem_mem hi, ?_⟩
    rw [rd_L4, Int.toNat_natCast, List.getD_eq_getElem?_getD, List.getElem?_eq_getElem hi, Option.getD_some] at h
    rw [h]; decide
  rw [bodyOk, this]; simp
/-- What is behind the first loop: the body's block g, the variable's block v. -/
structure Lay (w W : World) (g : Nat) (A0 : Option Addr) (c0 : Nat) (l0 : List S25) (l1 : List (List S25)) (i : Nat) (last : Value) : Prop where
  below : Below w.heap.size w W
  var : Boxed W (g + 1) 84 (.pointer (some ⟨g, 0, none⟩))
  st : (i = 0 ∧ last = .pointer (some ⟨g, 0, none⟩) ∧ W.heap[g]? = some (.cells #[.slice A0 l0.length c0, .pointer none, .slice none 0 0] 94 (0, 0))) ∨
    (i = 1 ∧ ∃ r1 A1 c1, g + 1 < r1 ∧ last = .pointer (some ⟨r1, 0, none⟩) ∧ W.heap[g]? = some (.cells #[.slice A0 l0.length c0, .pointer (some ⟨r1, 0, none⟩), .slice none 0 0] 94 (0, 0)) ∧
      W.heap[r1]? = some (.cells #[.slice A1 (rd_L4 l1 0).length c1, .pointer none] 92 (0, 0)) ∧ Kd.C k25 w A1 (rd_L4 l1 0).length (rd_L4 l1 0) ∧ (rd_L4 l1 0).length ≤ c1) ∨
    (i = 2 ∧ ∃ r1 A1 c1 r2 A2 c2, g + 1 < r1 ∧ r1 < r2 ∧ last = .pointer (some ⟨r2, 0, none⟩) ∧ W.heap[g]? = some (.cells #[.slice A0 l0.length c0, .pointer (some ⟨r1, 0, none⟩), .slice none 0 0] 94 (0, 0)) ∧
      W.heap[r1]? = some (.cells #[.slice A1 (rd_L4 l1 0).length c1, .pointer (some ⟨r2, 0, none⟩)] 92 (0, 0)) ∧ Kd.C k25 w A1 (rd_L4 l1 0).length (rd_L4 l1 0) ∧ (rd_L4 l1 0).length ≤ c1 ∧
      W.heap[r2]? = some (.cells #[.slice A2 (rd_L4 l1 1).length c2, .pointer none] 92 (0, 0)) ∧ Kd.C k25 w A2 (rd_L4 l1 1).length (rd_L4 l1 1) ∧ (rd_L4 l1 1).length ≤ c2)
theorem take_all {l : List (List S25)} {p : List S25 → Bool} {i : Nat} (hi : i < l.length) (h : (l.take i).all p = true) (hp : p (rd_L4 l i) = true) : (l.take (i + 1)).all p = true := by
  rw [rd_L4, Int.toNat_natCast, List.getD_eq_getElem?_getD, List.getElem?_eq_getElem hi, Option.getD_some] at hp
  rw [List.take_add_one, List.getElem?_eq_getElem hi, List.all_append, h]; simp [hp]
def Rings (W : World) : List Nd → Prop
  | [] => True
  | m :: r => W.heap[m.b]? = some (.cells #[.slice m.A m.l.length m.c, Nd.ptr r] 92 (0, 0)) ∧ Rings W r
theorem Rings.mono {W W' : World} : ∀ {ns : List Nd}, (∀ m ∈ ns, W'.heap[m.b]? = W.heap[m.b]?) → Rings W ns → Rings W' ns
  | [], _, _ => trivial
  | m :: _, h, hr => ⟨(h m (List.mem_cons_self ..)).trans hr.1, Rings.mono (fun x hx => h x (List.mem_cons_of_mem _ hx)) hr.2⟩
theorem Rings.lt {W : World} : ∀ {ns : List Nd}, Rings W ns → ∀ m ∈ ns, m.b < W.heap.size
  | _ :: _, hr, m, hm => by
    rcases List.mem_cons.1 hm with rfl | hm
    · exact (Array.getElem?_eq_some_iff.1 hr.1).1
    · exact Rings.lt hr.2 m hm
theorem Rings.blk {W : World} : ∀ {ns : List Nd}, Rings W ns → ∀ m ∈ ns, ∃ cs, W.heap[m.b]? = some (.cells cs 92 (0, 0))
  | _ :: _, hr, m, hm => by
    rcases List.mem_cons.1 hm with rfl | hm
    · exact ⟨_, hr.1⟩
    · exact Rings.blk hr.2 m hm
theorem Rings.below {W W' : World} {ns : List Nd} (h : Rings W ns) (hb : Below W.heap.size W W') : Rings W' ns := h.mono fun m hm => hb.block _ (h.lt m hm)
theorem rings_own {β : Type} (ns : List Nd) : Own (fun (_ : β) W => Rings W ns) := fun _ X Y row hs hg hrow => hs.mono fun m hm => hg.block _ (hs.lt m hm) (fun e' => by
  obtain ⟨cs, hc⟩ := hs.blk m hm
  obtain ⟨o, ho, hc'⟩ := hrow m.b e'.symm
  rw [hc] at ho; cases ho; cases hc')
/-- What the holes' loops are read of: the points as they came in. -/
def Ins (w : World) (g : Nat) (ns : List Nd) : Prop := ∀ m ∈ ns, g + 1 < m.b ∧ Kd.C k25 w m.A m.l.length m.l ∧ m.l.length ≤ m.c
theorem Rings.chain {w W : World} {g : Nat} (hb : Below w.heap.size w W) : ∀ {ns : List Nd}, Ins w g ns → Rings W ns → Chain W ns
  | [], _, _ => trivial
  | m :: r, hi, hr => ⟨⟨blk_cell hr.1 0, blk_cell hr.1 1, Kd.C_below (hi m (List.mem_cons_self ..)).2.1 hb, (hi m (List.mem_cons_self ..)).2.2, _, _, hr.1⟩, Rings.chain hb (fun x hx => hi x (List.mem_cons_of_mem _ hx)) hr.2⟩
theorem Chain.drop {W : World} {m : Nd} {r : List Nd} : ∀ {pre : List Nd}, Chain W (pre ++ m :: r) → Chain W (m :: r)
  | [], h => h
  | _ :: _, h => Chain.drop h.2
theorem blk_not_row {W : World} {B t e : Nat} {cs : Array Value} (h : W.heap[B]? = some (.cells cs t (0, 0))) (hte : t ≠ e) {base size k : Nat} {v : Value} {xs : List Value} (hr : W.ownsRow base e size v k xs) : some B ≠ v.ownBlock := by
  rcases hr.2 with ⟨rfl, _⟩ | ⟨g, cap, cur, rfl, _, hgb, _⟩
  · simp [Value.ownBlock]
  · intro e'
    obtain rfl : B = g := by simpa [Value.ownBlock] using e'
    have := h.symm.trans hgb
    simp at this
    exact hte this.2
theorem holds3_own {β : Type} (n₀ g : Nat) (t e : TypeId) (f0 f1 : Value) (size : Nat) (k : β → Nat) (f : β → List Value) : Own (fun s W => ∃ v, W.heap[g]? = some (.cells #[f0, f1, v] t (0, 0)) ∧ W.ownsRow n₀ e size v (k s) (f s)) := by
  rintro s X Y row ⟨v, hv, hr⟩ hg hrow
  refine ⟨v, (hg.block g (Array.getElem?_eq_some_iff.1 hv).1 (fun e' => ?_)).trans hv, hr.kept hg ?_⟩
  · obtain ⟨o, ho, hc⟩ := hrow g e'.symm
    rw [hv] at ho; cases ho; cases hc
  · rcases hr.2 with ⟨rfl, _⟩ | ⟨q, cap, cur, rfl, _, hgb, _⟩
    · exact .inl rfl
    · refine .inr fun e' => ?_
      obtain ⟨o, ho, hc⟩ := hrow q (by simpa [Value.ownBlock] using e'.symm)
      rw [hgb] at ho; cases ho; cases hc
theorem Lay.chain {w W : World} {g : Nat} {A0 : Option Addr} {c0 : Nat} {l0 : List S25} {l1 : List (List S25)} {last : Value} (h : Lay w W g A0 c0 l0 l1 l1.length last)
    (hr0 : Kd.C k25 w A0 l0.length l0) (hc0 : l0.length ≤ c0) :
    ∃ ns, Chain W (⟨g, A0, c0, l0⟩ :: ns) ∧ ns.map Nd.l = l1 ∧ (ns.map Nd.b).Nodup ∧ ns.length ≤ 2 ∧ W.heap[g]? = some (.cells #[.slice A0 l0.length c0, Nd.ptr ns, .slice none 0 0] 94 (0, 0)) ∧ Rings W ns ∧ Ins w g ns := by
  rcases h.st with ⟨e, _, hG⟩ | ⟨e, r1, A1, c1, h1, _, hG, hR, hC, hc⟩ | ⟨e, r1, A1, c1, r2, A2, c2, h1, h12, _, hG, hR, hC, hc, hR2, hC2, hc2⟩
  · obtain rfl : l1 = [] := List.eq_nil_of_length_eq_zero e
    exact ⟨[], ⟨⟨blk_cell hG 0, blk_cell hG 1, Kd.C_below hr0 h.below, hc0, _, _, hG⟩, trivial⟩, rfl, by simp, by simp, hG, trivial, by simp [Ins]⟩
  · obtain ⟨a, rfl⟩ := List.length_eq_one_iff.1 e
    refine ⟨[⟨r1, A1, c1, a⟩], ⟨⟨blk_cell hG 0, blk_cell hG 1, Kd.C_below hr0 h.below, hc0, _, _, hG⟩, ⟨blk_cell hR 0, blk_cell hR 1, Kd.C_below hC h.below, hc, _, _, hR⟩, trivial⟩, rfl, by simp, by simp, hG, ⟨hR, trivial⟩, fun m hm => ?_⟩
    obtain rfl := List.mem_singleton.1 hm
    exact ⟨h1, hC, hc⟩
  · obtain ⟨a, b, rfl⟩ : ∃ a b, l1 = [a, b] := by match l1, e with | [a, b], _ => exact ⟨a, b, rfl⟩
    refine ⟨[⟨r1, A1, c1, a⟩, ⟨r2, A2, c2, b⟩], ⟨⟨blk_cell hG 0, blk_cell hG 1, Kd.C_below hr0 h.below, hc0, _, _, hG⟩, ⟨blk_cell hR 0, blk_cell hR 1, Kd.C_below hC h.below, hc, _, _, hR⟩, ⟨blk_cell hR2 0, blk_cell hR2 1, Kd.C_below hC2 h.below, hc2, _, _, hR2⟩, trivial⟩, rfl, by simp; omega, by simp, hG, ⟨hR, hR2, trivial⟩, fun m hm => ?_⟩
    rcases List.mem_cons.1 hm with rfl | hm
    · exact ⟨h1, hC, hc⟩
    · obtain rfl := List.mem_singleton.1 hm
      exact ⟨by show g + 1 < r2; omega, hC2, hc2⟩
def markOf (D : Nat) : Deferred := { target := .collected D, args := #[] }
/-- The marks that the ranges have left. -/
def Marks (n₀ : Nat) (Ds : List Nat) (W : World) : Prop := Ds.Nodup ∧ ∀ D ∈ Ds, n₀ ≤ D ∧ W.heap[D]? = some (.deferred (some []))
theorem leaves_marks {F : Fence} {n : Nat} {P : Program} {fn : Func} {tmps : Array Value} {R : Ending → World → Prop} {n₀ : Nat} (St : World → Prop)
    (hput : ∀ W D, n₀ ≤ D → W.heap[D]? = some (.deferred (some [])) → St W → St (W.putObj D (.deferred none))) (hend : ∀ W, St W → LeavesIn F n P fn tmps R [] .returning W) :
    ∀ (Ds : List Nat) (W : World), Marks n₀ Ds W → St W → LeavesInM F n P fn tmps R (Ds.map markOf) .returning W
  | [], W, _, h => hend W h
  | D :: Ds, W, hm, h => ⟨by simp, .inl ⟨D, _, rfl, run_takeDeferred (hm.2 D (List.mem_cons_self ..)).2, leaves_marks St hput hend Ds _ ⟨(List.nodup_cons.1 hm.1).2, fun D' h' => ⟨(hm.2 D' (List.mem_cons_of_mem _ h')).1,
      (World.putObj_heap_other (fun e => (List.nodup_cons.1 hm.1).1 (by first | exact e ▸ h' | exact e.symm ▸ h'))).trans (hm.2 D' (List.mem_cons_of_mem _ h')).2⟩⟩ (hput W D (hm.2 D (List.mem_cons_self ..)).1 (hm.2 D (List.mem_cons_self ..)).2 h)⟩⟩
theorem wpAnyIn_inv {F : Fence} {n : Nat} {P : Program} {md : Region.Mode} {ops : Array Oper} {Q : Exit → Act → World → Prop} (Inv : Array Bool → Act → World → Prop)
    (hdone : ∀ L a w, Inv L a w → Region.ready md ops L = [] → Q .normal a w)
    (hstep : ∀ L a w i, Inv L a w → i ∈ Region.ready md ops L → wpOpIn F n P ops Q i (Inv (L.setIfInBounds i true)) a w) :
    ∀ (fuel : Nat) (L : Array Bool) (a : Act) (w : World), L.toList.count false ≤ fuel → (∀ i, L.getD i true = false → i < L.size) → Inv L a w → wpAnyIn F n P md ops Q fuel L a w
  | 0, L, a, w, hc, hs, h => by
    have hr : Region.ready md ops L = [] := by
      rw [List.eq_nil_iff_forall_not_mem]
      intro j hj
      have h1 := (mem_ready.1 hj).1
      have h2 := hs j h1
      have h3 : L[j] = false := by simpa [h2] using h1
      have h4 : false ∈ L.toList := by rw [← h3]; simp
      have := List.count_pos_iff.2 h4
      omega
    exact ⟨hr, hdone L a w h hr⟩
  | fuel + 1, L, a, w, hc, hs, h => by
    refine ⟨hdone L a w h, fun i hi => wpOpIn_mono (fun a' w' h' => wpAnyIn_inv Inv hdone hstep fuel _ a' w' ?_ ?_ h') (hstep L a w i h hi)⟩
    · have h1 := (mem_ready.1 hi).1
      have h2 := hs i h1
      have h3 : L[i] = false := by simpa [h2] using h1
      have h4 := List.count_set (a := true) (b := false) (l := L.toList) (i := i) (by simpa using h2)
      simp only [Array.toList_setIfInBounds]
      have h5 : (L.toList[i]'(by simpa using h2)) = false := by rw [Array.getElem_toList]; exact h3
      rw [h4, h5]
      rw [if_pos (by decide), if_neg (by decide)]; omega
    · intro j hj
      by_cases e : i = j
      · subst e
        have h2 := hs i (mem_ready.1 hi).1
        simp [h2] at hj
      · have h2 := hs j (by rw [getD_set_ne true e] at hj; exact hj)
        simpa using h2
theorem ownsRow_alloc {X : World} {base e size k : Nat} {v : Value} {xs : List Value} {o : Obj} (h : X.ownsRow base e size v k xs) : (X.drew.alloc o).ownsRow base e size v k xs := World.ownsRow.alloc (w := X.drew) h o
theorem wpIn_append_own {F : Fence} {n : Nat} {P : Program} (w : World) {o : Oper} {a : Act} {K : Act → World → Prop} {Q : Exit → Act → World → Prop}
    (s x : Operand) (t : TypeId) (hop : o.op = Op.call { callee := Callee.builtin Builtin.append, args := #[s, x], argTypes := #[t, t] })
    (base : Nat) (e : TypeId) (i : TypeInfo) (z : Value) (size bytes : Nat) (h1 : P.underlying t = some (.slice e)) (h2 : P.info? e = some i) (h3 : i.zero = some z) (h4 : i.size = size) (h5 : i.bytes = bytes) (h6 : z.cells.size = size) (h7 : 0 < size)
    (v : Value) (k : Nat) (xs : List Value) (hs : a.eval s = v) (hown : w.ownsRow base e size v k xs) (ad : Addr) (m c : Nat) (news : List Value) (hx : a.eval x = .slice (some ad) m c) (hn : news.length = m * size)
    (hc : ∀ j u, news[j]? = some u → w.cell? (ad.add j) = some u) (h1c : ∀ u ∈ news, u.oneCell' = true) (b1 : k + m ≤ maxLen) (b2 : (k + m) * bytes ≤ 140737488355328) (b3 : base ≤ w.heap.size)
    (hK : ∀ v' w', w'.ownsRow base e size v' (k + m) (xs ++ news) → w.grownBy w' v.ownBlock → (v' = .slice none 0 0 ↔ v = .slice none 0 0 ∧ m = 0) → K (a.put o.dst v') w') : o.wpIn F n P a w K Q := by
  obtain ⟨v', w', hrun, r1, r2, r3⟩ := run_append_own (P := P) w base t o.type e i z size bytes h1 h2 h3 h4 h5 h6 h7 v k xs hown ad m c news hn hc h1c b1 b2 b3
  unfold Oper.wpIn
  refine ⟨?_, ?_⟩
  · simp [Oper.about, hop, resolve, Target.leads, Sem.run_pure]
  · rw [Oper.semAt_plain F _ _ (by rw [hop]; intro c hc'; cases hc')]
    simp [execOp, hop, resolve, invoke, builtin, hs, hx, hrun, Result.andThen]
    exact hK _ _ r1 r2 r3
theorem bodyEdges_len : ∀ (ls : List (List S25)), (∀ l ∈ ls, l.length ≤ 8) → (bodyEdges ls).length ≤ 8 * ls.length
  | [], _ => by simp [bodyEdges]
  | l :: r, h => by
    have h1 := bodyEdges_len r (fun x hx => h x (List.mem_cons_of_mem _ hx))
    have h2 := h l (List.mem_cons_self ..)
    have e : bodyEdges (l :: r) = upto l l.length ++ bodyEdges r := by simp [bodyEdges, edgeRow]
    rw [e, List.length_append, upto_length, List.length_cons]; omega
theorem marks_own {β : Type} {B : Nat} : ∀ {Ds : List Nat}, (∀ D ∈ Ds, D < B) → OwnFrom B (fun (_ : β) X => ∀ D ∈ Ds, X.heap[D]? = some (.deferred (some []))) := fun h s X Y row hs hg hr D hD =>
  old_own (h D hD) _ s X Y row (hs D hD) hg hr
/-- Where a round of the last loop stands: ahead of what is to be appended, behind it, behind append, behind the store. -/
def Ph (n₀ g : Nat) (X : World) (v : Value) (k : Nat) (xs row : List Value) (sg : Array Value) (b6 b7 b10 : Bool) (s80 s81 : Value) (w' : World) : Prop :=
  (b6 = false ∧ b7 = false ∧ b10 = false ∧ w' = X.drew) ∨ (b6 = true ∧ b7 = false ∧ b10 = false ∧ w' = X.drew.alloc (.cells sg 35) ∧ s80 = .slice (some ⟨X.heap.size, 0, none⟩) 1 1) ∨
  (b6 = true ∧ b7 = true ∧ b10 = false ∧ w'.ownsRow n₀ 35 4 s81 (k + 1) (xs ++ row) ∧ (X.drew.alloc (.cells sg 35)).grownBy w' v.ownBlock) ∨
  (b6 = true ∧ b7 = true ∧ b10 = true ∧ ∃ w4, w4.ownsRow n₀ 35 4 s81 (k + 1) (xs ++ row) ∧ (X.drew.alloc (.cells sg 35)).grownBy w4 v.ownBlock ∧ w' = w4.setCell ⟨g, 2, none⟩ s81)
theorem grown_blk {X Y : World} {v : Value} {n₀ k B t : Nat} {cs : Array Value} {xs : List Value} {o : Obj} (hB : X.heap[B]? = some (.cells cs t (0, 0))) (ht : t ≠ 35) (ho : X.ownsRow n₀ 35 4 v k xs) (hg : (X.drew.alloc o).grownBy Y v.ownBlock) : Y.heap[B]? = some (.cells cs t (0, 0)) := by
  have h1 : (X.drew.alloc o).heap[B]? = some (.cells cs t (0, 0)) := blk_alloc (w := X.drew) hB o
  exact (hg.block B (Array.getElem?_eq_some_iff.1 h1).1 (blk_not_row hB ht ho)).trans h1
theorem body_appended {X w1 : World} {n₀ g : Nat} {f0 f1 v v' : Value} {k m : Nat} {xs ys : List Value} {tmp : Array Value} (hv : X.heap[g]? = some (.cells #[f0, f1, v] 94 (0, 0))) (hB : n₀ ≤ g)
    (hrow : X.ownsRow n₀ 35 4 v k xs) (hn₀ : n₀ ≤ X.heap.size) (hown' : w1.ownsRow n₀ 35 4 v' m ys) (hgrow : (X.drew.alloc (.cells tmp 35)).grownBy w1 v.ownBlock) :
    (w1.setCell ⟨g, 2, none⟩ v').heap[g]? = some (.cells #[f0, f1, v'] 94 (0, 0)) ∧ (w1.setCell ⟨g, 2, none⟩ v').ownsRow n₀ 35 4 v' m ys ∧ KeepsOthers X (w1.setCell ⟨g, 2, none⟩ v') ∧ Below n₀ X (w1.setCell ⟨g, 2, none⟩ v') := by
  have hv1 := grown_blk hv (by decide) hrow hgrow
  have gs : ∀ (Y : World) (u : Value), Y.grownBy (Y.setCell ⟨g, 2, none⟩ u) (some g) := fun Y u => ⟨rfl, rfl, rfl, (KeepsWalks.setCell Y _ u).size, fun k _ hk => Below.heap_setCell _ _ _ k (fun e => hk (by rw [e]))⟩
  refine ⟨blk_put hv1 2 _ rfl, hown'.kept (gs w1 v') (.inr (blk_not_row hv1 (by decide) hown').symm), ?_, ?_⟩
  · refine ((KeepsOthers.drew X).trans ((KeepsOthers.alloc X.drew (.cells tmp 35)).trans (KeepsOthers.of_grownBy hgrow fun j o ej hj => ?_))).trans (KeepsOthers.setCell _ _ _)
    rcases (ownsRow_alloc (o := .cells tmp 35) hrow).2 with ⟨rfl, _⟩ | ⟨q, cap, cur, rfl, _, hgb, _⟩
    · simp [Value.ownBlock] at ej
    · obtain rfl : q = j := by simpa [Value.ownBlock] using ej
      rw [hgb] at hj; cases hj; rfl
  · refine ((((Below.refl n₀ X).drew.alloc hn₀ (.cells tmp 35)).grown hgrow (by simp; omega) fun j ej => ?_).setCell (p := ⟨g, 2, none⟩) hB v')
    rcases hrow.2 with ⟨rfl, _⟩ | ⟨q, cap, cur, rfl, hb, _, _⟩
    · simp [Value.ownBlock] at ej
    · obtain rfl : q = j := by simpa [Value.ownBlock] using ej
      exact hb
theorem Ph.look {n₀ g : Nat} {X w' : World} {v s80 s81 : Value} {k : Nat} {xs row : List Value} {sg : Array Value} {b6 b7 b10 : Bool} (h : Ph n₀ g X v k xs row sg b6 b7 b10 s80 s81 w') (h10 : b10 = false) (ho : X.ownsRow n₀ 35 4 v k xs)
    {B t : Nat} {cs : Array Value} (hB : X.heap[B]? = some (.cells cs t (0, 0))) (ht : t ≠ 35) : w'.heap[B]? = some (.cells cs t (0, 0)) := by
  rcases h with ⟨_, _, _, rfl⟩ | ⟨_, _, _, rfl, _⟩ | ⟨_, _, _, h1, h2⟩ | ⟨_, _, h, _⟩
  · exact hB
  · exact blk_alloc (w := X.drew) hB _
  · exact grown_blk hB ht ho h2
  · rw [h10] at h; cases h
theorem rounds_ind {F : Fence} {n : Nat} {P : Program} {c : Code} {Q : Exit → Act → World → Prop} (I : Nat → Act → World → Prop) (h0 : ∀ a w, I 0 a w → c.wpIn F n P (Exit.then (fun _ _ => False) Q) a w)
    (hs : ∀ k a w, I (k + 1) a w → c.wpIn F n P (Exit.then (I k) Q) a w) : ∀ k a w, I k a w → Code.roundsIn F n P c Q (k + 1) a w
  | 0, a, w, h => h0 a w h
  | k + 1, a, w, h => Code.wpIn_mono (fun e a' w' q => by cases e <;> first | exact rounds_ind I h0 hs k _ _ q | exact q) (hs k a w h)
set_option maxRecDepth 100000 in
set_option maxHeartbeats 8000000 in
theorem impl_bodyOf.calls (A0 : Option Addr) (c0 : Nat) (l0 : List S25) (A1 : Option Addr) (c1 : Nat) (l1 : List (List S25)) (w : World)
    (hr0 : Kd.C k25 w A0 l0.length l0) (hc0 : l0.length ≤ c0) (hr1 : Kd.C (Kd.slice 25 k25) w A1 l1.length l1) (hc1 : l1.length ≤ c1) :
    Calls Try.prog 68 #[.agg #[.slice A0 l0.length c0, .slice A1 l1.length c1]] w fun e w' =>
      ∃ v, e = .returned (.tuple #[v, .bool (bodyOk l0 l1)]) ∧ Below w.heap.size w w' ∧ (bodyOk l0 l1 = true → ∃ n ns ev, v = .pointer (some ⟨n.b, 0, none⟩) ∧ n.l = l0 ∧ ns.map Nd.l = l1 ∧ Chain w' (n :: ns) ∧ w'.cell? ⟨n.b, 2, none⟩ = some ev ∧
        w'.ownsRow w.heap.size 35 4 ev (bodyEdges (l0 :: l1)).length (bodyRows (bodyEdges (l0 :: l1)))) := by
  refine (callsIn_wide (n := 8)).1 ?_
  have hu1 := Try.underlying25
  have hu2 := Try.underlying35
  have hu3 := Try.underlying92
  have hu4 := Try.underlying94
  have hu5 := Try.underlying50
  refine callsIn_of_wp_marks Try.func68 rfl trivial ?_ rfl
  simp only [Try.ntmps68, List.size_toArray, List.length_cons, List.length_nil, Nat.reduceAdd, Nat.reduceSub, Array.replicate_succ, Array.replicate_zero, List.push_toArray, List.append_toArray, List.nil_append, List.cons_append]
  obtain ⟨i0, hi0, hz0, hz1, hz2⟩ := info_parts info35
  have hu31 : Try.prog.underlying 31 = some (.slice 35) := by kernel_rfl
  have HI := Aside0.mk (And.intro hi0 (And.intro hz0 (And.intro hz1 hz2)))
  clear hi0 hz0 hz1 hz2
  by_cases h2 : l1.length ≤ 2
  · obtain ⟨b, hb⟩ : ∃ b, impl_LoopOk.all l0 = b := ⟨_, rfl⟩
    have HB := Aside0.mk hb
    have hd : decide ((2 : Int) < (l1.length : Int)) = false := decide_eq_false (by omega)
    have hbf : impl_LoopOk.f l0 = some b := by rw [impl_LoopOk.f, hb]
    clear hb
    cases b
    · gi_wp2_with (first | (refine ⟨trivial, ?_⟩; gi_at_call 47; refine (callsIn_wide.2 (impl_LoopOk.calls _ _ _ _ _ (Kd.C_below hr0 ((Below.refl _ w).alloc (Nat.le_refl _) _)) hc0 hbf)).mono ?_; rintro e w1 ⟨rfl, hb1⟩))
      exact ⟨.tuple #[.pointer none, .bool false], by simp [results, Try.f68, go_sem], .pointer none, by rw [bodyOk_no2 HB.out], ((Below.refl _ w).alloc (Nat.le_refl _) _).trans (hb1.mono (by simp)), fun h => by rw [bodyOk_no2 HB.out] at h; cases h⟩
    · gi_wp2_with (first | (refine ⟨trivial, ?_⟩; gi_at_call 47; refine (callsIn_wide.2 (impl_LoopOk.calls _ _ _ _ _ (Kd.C_below hr0 ((Below.refl _ w).alloc (Nat.le_refl _) _)) hc0 hbf)).mono ?_; rintro e w1 ⟨rfl, hb1⟩; have bP := blk_below (blk_new w (.cells #[.slice A0 l0.length c0, .slice A1 l1.length c1] 50)) hb1; have cP0 : w1.cell? ⟨w.heap.size, 0, none⟩ = some (.slice A0 l0.length c0) := blk_cell bP 0; have cP1 : w1.cell? ⟨w.heap.size, 1, none⟩ = some (.slice A1 l1.length c1) := blk_cell bP 1; have cP1' : ∀ o o', ((w1.alloc o).alloc o').cell? ⟨w.heap.size, 1, none⟩ = some (.slice A1 l1.length c1) := fun o o' => blk_cell (blk_alloc (blk_alloc bP o) o') 1; have hlt1 := hb1.size; simp only [World.size_alloc] at hlt1))
      clear cP0 cP1 cP1' hbf hd
      have hw1 : Below w.heap.size w w1 := ((Below.refl _ w).alloc (Nat.le_refl _) _).trans (hb1.mono (by simp))
      have hL0 : Lay w ((w1.alloc (.cells #[.slice A0 l0.length c0, .pointer none, .slice none 0 0] 94)).alloc (.cells #[.pointer (some ⟨w1.heap.size, 0, none⟩)] 84)) w1.heap.size A0 c0 l0 l1 0 (.pointer (some ⟨w1.heap.size, 0, none⟩)) :=
        ⟨(hw1.alloc hw1.size _).alloc (by simp; omega) _, by have := Boxed.new (w1.alloc (.cells #[.slice A0 l0.length c0, .pointer none, .slice none 0 0] 94)) 84 (.pointer (some ⟨w1.heap.size, 0, none⟩)); simpa only [World.size_alloc] using this, .inl ⟨rfl, rfl, blk_alloc (blk_new w1 _) _⟩⟩
      obtain ⟨g, hg⟩ : ∃ g, w1.heap.size = g := ⟨_, rfl⟩
      have hgl : w.heap.size < g := by omega
      rw [hg] at hL0 ⊢
      obtain ⟨W0, hW0⟩ : ∃ W0, (w1.alloc (.cells #[.slice A0 l0.length c0, .pointer none, .slice none 0 0] 94)).alloc (.cells #[.pointer (some ⟨g, 0, none⟩)] 84) = W0 := ⟨_, rfl⟩
      rw [hW0] at hL0 ⊢
      clear hW0 hg hw1 hb1 bP hlt1
      gi_loopw [5, 32] (fun v5 v32 wr => ∃ i : Nat, i ≤ l1.length ∧ v32 = .int .i64 i ∧ (l1.take i).all impl_LoopOk.all = true ∧ Lay w wr g A0 c0 l0 l1 i v5)
        (fun _ v32 _ => l1.length - (intOf v32).toNat)
      case atStart => exact ⟨0, Nat.zero_le _, rfl, rfl, hL0⟩
      case round =>
        clear hL0
        obtain ⟨i, hi, rfl, hall, hL⟩ := hrel
        by_cases hlt : i < l1.length
        · obtain ⟨ad, Ah, ch, rfl, hx, hlh, hch⟩ := at_L4 hr1 (i : Int) (by omega) (by omega)
          rw [Int.toNat_natCast] at hx
          have hxr : wr.cell? (ad.add i) = some (.slice Ah (rd_L4 l1 i).length ch) := (hL.below.cell (World.block_lt_of_cell? w _ hx)).trans hx
          have hCr := Kd.C_below hch hL.below
          obtain ⟨b, hb⟩ : ∃ b, impl_LoopOk.all (rd_L4 l1 i) = b := ⟨_, rfl⟩
          have HB2 := Aside0.mk hb
          have hbf : impl_LoopOk.f (rd_L4 l1 i) = some b := by rw [impl_LoopOk.f, hb]
          clear hb hx
          have hsz := hL.below.size
          cases b
          · gi_wp2_with (first | (refine ⟨trivial, ?_⟩; gi_at_call 47; refine (callsIn_wide.2 (impl_LoopOk.calls _ _ _ _ _ hCr hlh hbf)).mono ?_; rintro e w2 ⟨rfl, hb2⟩))
            exact ⟨.tuple #[.pointer none, .bool false], by simp [results, Try.f68, go_sem], .pointer none, by rw [bodyOk_no3 hlt HB2.out], hL.below.trans (hb2.mono hsz), fun h => by rw [bodyOk_no3 hlt HB2.out] at h; cases h⟩
          · rcases hL.st with ⟨rfl, rfl, hG⟩ | ⟨rfl, r1, A2, c2, hr1', rfl, hG, hR1, hC1, hc1'⟩ | ⟨rfl, _⟩
            · rw [Addr.add_zero'] at hxr
              gi_wp2_with (first | (refine ⟨trivial, ?_⟩; gi_at_call 47; refine (callsIn_wide.2 (impl_LoopOk.calls _ _ _ _ _ hCr hlh hbf)).mono ?_; rintro e w2 ⟨rfl, hb2⟩; have hG2 := blk_below hG hb2; have k1 : ∀ o, (w2.alloc o).cell? ⟨g, 1, none⟩ = some (.pointer none) := fun o => blk_cell (blk_alloc hG2 o) 1; have f1 : ∀ o, (w2.alloc o).frozen? ⟨g, 1, none⟩ = false := fun o => blk_frozen (blk_alloc hG2 o) 1))
              have hv2 : Boxed w2 (g + 1) 84 _ := (hb2.block _ hL.var.lt).trans hL.var
              have hlt2 := hv2.lt
              have hbw := hL.below.trans (hb2.mono hsz)
              refine ⟨⟨1, by omega, rfl, take_all hlt hall HB2.out, ⟨(hbw.alloc hbw.size _).setCell (p := ⟨g, 1, none⟩) (by simp; omega) _, (Below.heap_setCell _ _ _ _ (by simp)).trans (hv2.alloc _), .inr (.inl ⟨rfl, w2.heap.size, Ah, ch, hlt2, rfl, blk_put (blk_alloc hG2 _) 1 _ rfl, (Below.heap_setCell _ _ _ _ (by simp; omega)).trans (blk_new w2 _), hch, hlh⟩)⟩⟩, by simp [intOf]; omega⟩
            · rw [show ad.add 1 = ⟨ad.block, ad.off + 1, none⟩ from rfl] at hxr
              gi_wp2_with (first | (refine ⟨trivial, ?_⟩; gi_at_call 47; refine (callsIn_wide.2 (impl_LoopOk.calls _ _ _ _ _ hCr hlh hbf)).mono ?_; rintro e w2 ⟨rfl, hb2⟩; have hR2 := blk_below hR1 hb2; have k1 : ∀ o, (w2.alloc o).cell? ⟨r1, 1, none⟩ = some (.pointer none) := fun o => blk_cell (blk_alloc hR2 o) 1; have f1 : ∀ o, (w2.alloc o).frozen? ⟨r1, 1, none⟩ = false := fun o => blk_frozen (blk_alloc hR2 o) 1))
              have hv2 : Boxed w2 (g + 1) 84 _ := (hb2.block _ hL.var.lt).trans hL.var
              have hlt2 := (Array.getElem?_eq_some_iff.1 hR2).1
              have hbw := hL.below.trans (hb2.mono hsz)
              have hG2 := blk_below hG hb2
              refine ⟨⟨2, by omega, rfl, take_all hlt hall HB2.out, ⟨(hbw.alloc hbw.size _).setCell (p := ⟨r1, 1, none⟩) (by simp; omega) _, (Below.heap_setCell _ _ _ _ (by simp; omega)).trans (hv2.alloc _), .inr (.inr ⟨rfl, r1, A2, c2, w2.heap.size, Ah, ch, hr1', hlt2, rfl, (Below.heap_setCell _ _ _ _ (by simp; omega)).trans (blk_alloc hG2 _), blk_put (blk_alloc hR2 _) 1 _ rfl, hC1, hc1', (Below.heap_setCell _ _ _ _ (by simp; omega)).trans (blk_new w2 _), hch, hlh⟩)⟩⟩, by simp [intOf]; omega⟩
            · omega
        · obtain rfl : i = l1.length := by omega
          have hall' : l1.all impl_LoopOk.all = true := by rwa [List.take_length] at hall
          obtain ⟨ns, hCh, hns, hnd, hn2, hG, hRi, hm⟩ := hL.chain hr0 hc0
          have hV := hL.var.cell
          have hmap : (⟨g, A0, c0, l0⟩ :: ns : List Nd).map Nd.l = l0 :: l1 := by rw [List.map_cons, hns]
          have hlen : ∀ m ∈ ns, 0 < m.l.length := fun m hm' => by
            have h1 : impl_LoopOk.all m.l = true := List.all_eq_true.1 hall' _ (hns ▸ List.mem_map_of_mem hm')
            simp only [impl_LoopOk.all, Bool.and_eq_true, decide_eq_true_eq] at h1
            omega
          have h8 : ∀ q ∈ (⟨g, A0, c0, l0⟩ :: ns : List Nd), q.l.length ≤ 8 := fun q hq => by
            have h1 : impl_LoopOk.all q.l = true := by
              rcases List.mem_cons.1 hq with rfl | hq
              · exact HB.out
              · exact List.all_eq_true.1 hall' _ (hns ▸ List.mem_map_of_mem hq)
            simp only [impl_LoopOk.all, Bool.and_eq_true, decide_eq_true_eq] at h1
            omega
          have H8 := Aside0.mk (And.intro h8 hn2)
          clear h8
          have HALL := Aside0.mk hall'
          have HMAP := Aside0.mk hmap
          have HNS := Aside0.mk hns
          have HM := Aside0.mk hm
          clear hall' hmap hns hm hall hi
          obtain ⟨a, ha⟩ : ∃ a, apartB ((⟨g, A0, c0, l0⟩ :: ns : List Nd).map Nd.l) = a := ⟨_, rfl⟩
          have hsz := hL.below.size
          cases a
          · have hno : bodyOk l0 l1 = false := by rw [HMAP.out] at ha; rw [bodyOk, ha]; simp
            gi_wp2_with (first | (refine ⟨trivial, ?_⟩; gi_at_call 85; refine (callsIn_wide.2 (impl_body_apart.calls ⟨g, A0, c0, l0⟩ ns wr hCh)).mono ?_; rintro e w3 ⟨rfl, hb3⟩; rw [ha]; have hCh3 := Aside0.mk (Chain.below hb3 hCh); have hV3 : w3.cell? ⟨g + 1, 0, none⟩ = some (.pointer (some ⟨g, 0, none⟩)) := Boxed.cell (show Boxed w3 (g + 1) 84 (.pointer (some ⟨g, 0, none⟩)) from (hb3.block _ hL.var.lt).trans hL.var)) | (refine ⟨trivial, ?_⟩; skip))
            exact ⟨.tuple #[.pointer none, .bool false], by simp [results, Try.f68, go_sem], .pointer none, by rw [hno], hL.below.trans (hb3.mono hsz), fun h => by rw [hno] at h; cases h⟩
          · obtain ⟨d, hnn⟩ : ∃ d, nestedN ⟨g, A0, c0, l0⟩ ns = d := ⟨_, rfl⟩
            cases d
            · have hno : bodyOk l0 l1 = false := by rw [nestedN_P _ _ hn2 hnd, HNS.out] at hnn; rw [bodyOk, hnn]; simp
              gi_wp2_with (first | (refine ⟨trivial, ?_⟩; gi_at_call 85; refine (callsIn_wide.2 (impl_body_apart.calls ⟨g, A0, c0, l0⟩ ns wr hCh)).mono ?_; rintro e w3 ⟨rfl, hb3⟩; rw [ha]; have hCh3 := Aside0.mk (Chain.below hb3 hCh); have hV3 : w3.cell? ⟨g + 1, 0, none⟩ = some (.pointer (some ⟨g, 0, none⟩)) := Boxed.cell (show Boxed w3 (g + 1) 84 (.pointer (some ⟨g, 0, none⟩)) from (hb3.block _ hL.var.lt).trans hL.var)) | (refine ⟨trivial, ?_⟩; gi_at_call 86; refine (callsIn_wide.2 (impl_body_nested.calls ⟨g, A0, c0, l0⟩ ns w3 hCh3.out hlen)).mono ?_; rintro e w4 ⟨rfl, hb4⟩; rw [hnn]; have hV4 : w4.cell? ⟨g + 1, 0, none⟩ = some (.pointer (some ⟨g, 0, none⟩)) := Boxed.cell (show Boxed w4 (g + 1) 84 (.pointer (some ⟨g, 0, none⟩)) from (hb4.block _ (Nat.lt_of_lt_of_le hL.var.lt hb3.size)).trans ((hb3.block _ hL.var.lt).trans hL.var))))
              exact ⟨.tuple #[.pointer none, .bool false], by simp [results, Try.f68, go_sem], .pointer none, by rw [hno], (hL.below.trans (hb3.mono hsz)).trans (hb4.mono (Nat.le_trans hsz hb3.size)), fun h => by rw [hno] at h; cases h⟩
            · have hyes : bodyOk l0 l1 = true := by rw [nestedN_P _ _ hn2 hnd, HNS.out] at hnn; rw [HMAP.out] at ha; rw [bodyOk, HB.out, HALL.out, ha, hnn, decide_eq_true h2]; rfl
              gi_wp2_with (first | (refine ⟨trivial, ?_⟩; gi_at_call 85; refine (callsIn_wide.2 (impl_body_apart.calls ⟨g, A0, c0, l0⟩ ns wr hCh)).mono ?_; rintro e w3 ⟨rfl, hb3⟩; rw [ha]; have hCh3 := Aside0.mk (Chain.below hb3 hCh); have hV3 : w3.cell? ⟨g + 1, 0, none⟩ = some (.pointer (some ⟨g, 0, none⟩)) := Boxed.cell (show Boxed w3 (g + 1) 84 (.pointer (some ⟨g, 0, none⟩)) from (hb3.block _ hL.var.lt).trans hL.var)) | (refine ⟨trivial, ?_⟩; gi_at_call 86; refine (callsIn_wide.2 (impl_body_nested.calls ⟨g, A0, c0, l0⟩ ns w3 hCh3.out hlen)).mono ?_; rintro e w4 ⟨rfl, hb4⟩; rw [hnn]; have hV4 : w4.cell? ⟨g + 1, 0, none⟩ = some (.pointer (some ⟨g, 0, none⟩)) := Boxed.cell (show Boxed w4 (g + 1) 84 (.pointer (some ⟨g, 0, none⟩)) from (hb4.block _ (Nat.lt_of_lt_of_le hL.var.lt hb3.size)).trans ((hb3.block _ hL.var.lt).trans hL.var))))
              have hV4b : Boxed w4 (g + 1) 84 (.pointer (some ⟨g, 0, none⟩)) := (hb4.block _ (Nat.lt_of_lt_of_le hL.var.lt hb3.size)).trans ((hb3.block _ hL.var.lt).trans hL.var)
              have hG4 := blk_below (blk_below hG hb3) hb4
              have hR4 := (hRi.below hb3).below hb4
              have hW4 := (hL.below.trans (hb3.mono hsz)).trans (hb4.mono (Nat.le_trans hsz hb3.size))
              have HY := Aside0.mk hyes
              clear hyes hnn ha hV4 hV3 hV hb3 hb4 hG hRi hCh3 hCh hsz hnd hn2 hlen HALL h2 hL
              obtain ⟨all, hal⟩ : ∃ all : List Nd, all = ⟨g, A0, c0, l0⟩ :: ns := ⟨_, rfl⟩
              have HAL := Aside0.mk hal
              have hptr : Value.pointer (some ⟨g, 0, none⟩) = Nd.ptr all := by rw [hal]; rfl
              have HPT := Aside0.mk hptr
              have hmapA : all.map Nd.l = l0 :: l1 := by rw [hal]; exact HMAP.out
              have HMA := Aside0.mk hmapA
              clear hmapA hptr hal
              refine wpIn_loop_rounds (all.length + 1) (rounds_ind (fun kq a W => ∃ (Ds : List Nat) (pre rest : List Nd) (x10 x61 x62 x63 x64 x65 x66 x67 x68 x69 x70 x71 x72 x73 x74 x75 x76 x77 x78 x79 x80 x81 x82 x83 : Value), a = { tmps := #[.agg #[.slice A0 l0.length c0, .slice A1 l1.length c1], .pointer (some ⟨w.heap.size, 0, none⟩), u2, u3, .pointer (some ⟨g + 1, 0, none⟩), u5, undef, u7, Nd.ptr rest, undef, x10, .pointer (some ⟨w.heap.size, 1, none⟩), .slice A1 l1.length c1, .int .i64 (l1.length : Int), .bool false, .bool false, .pointer (some ⟨w.heap.size, 0, none⟩), .slice A0 l0.length c0, .bool true, .bool false, .bool false, .pointer (some ⟨w.heap.size, 0, none⟩), .slice A0 l0.length c0, .agg #[.slice A0 l0.length c0, .pointer none], .agg #[.slice A0 l0.length c0, .pointer none, .slice none 0 0], .pointer (some ⟨g, 0, none⟩), .pointer (some ⟨g, 0, none⟩), .pointer (some ⟨g, 0, none⟩), .pointer (some ⟨g, 0, none⟩), .pointer (some ⟨w.heap.size, 1, none⟩), .slice A1 l1.length c1, .int .i64 (l1.length : Int), .int .i64 (l1.length : Int), .bool false, u34, u35, u36, u37, u38, u39, u40, u41, u42, u43, u44, u45, u46, u47, u48, u49, .pointer (some ⟨g, 0, none⟩), .bool true, .bool false, .bool false, .pointer (some ⟨g, 0, none⟩), .bool true, .bool false, .bool false, .pointer (some ⟨g, 0, none⟩), .pointer (some ⟨g, 0, none⟩), .pointer (some ⟨g, 0, none⟩), x61, x62, x63, x64, x65, x66, x67, x68, x69, x70, x71, x72, x73, x74, x75, x76, x77, x78, x79, x80, x81, x82, x83, undef], defers := Ds.map markOf } ∧ kq = rest.length ∧ all = pre ++ rest ∧ Below w.heap.size w W ∧ Boxed W (g + 1) 84 (.pointer (some ⟨g, 0, none⟩)) ∧ Rings W ns ∧
                  (∃ ev, W.heap[g]? = some (.cells #[.slice A0 l0.length c0, Nd.ptr ns, ev] 94 (0, 0)) ∧ W.ownsRow w.heap.size 35 4 ev (bodyEdges (pre.map Nd.l)).length (bodyRows (bodyEdges (pre.map Nd.l)))) ∧ Marks w.heap.size Ds W) ?zero ?succ all.length _ _ ?start)
              case start => exact ⟨[], [], all, _, _, _, _, _, _, _, _, _, _, _, _, _, _, _, _, _, _, _, _, _, _, _, _, by rw [← HPT.out]; rfl, rfl, rfl, hW4, hV4b, hR4, ⟨_, hG4, World.ownsRow_nil _ _ _ _⟩, by simp [Marks]⟩
              case zero =>
                clear hW4 hV4b hR4 hG4
                rintro a W ⟨Ds, pre, rest, x10, x61, x62, x63, x64, x65, x66, x67, x68, x69, x70, x71, x72, x73, x74, x75, x76, x77, x78, x79, x80, x81, x82, x83, rfl, hk, hpr, hB, hV, hR, ⟨ev, hG, ho⟩, hD⟩
                obtain rfl : rest = [] := List.eq_nil_of_length_eq_zero hk.symm
                have hp : pre = all := by rw [hpr, List.append_nil]
                clear hpr hk
                subst hp
                have hV0 := hV.cell
                have HR := Aside0.mk hR
                simp only [Nd.ptr_nil]
                gi_wp2
                rw [HMA.out] at ho
                refine leaves_marks (n₀ := w.heap.size) (fun W => Below w.heap.size w W ∧ Rings W ns ∧ ∃ ev, W.heap[g]? = some (.cells #[.slice A0 l0.length c0, Nd.ptr ns, ev] 94 (0, 0)) ∧ W.ownsRow w.heap.size 35 4 ev (bodyEdges (l0 :: l1)).length (bodyRows (bodyEdges (l0 :: l1)))) ?_ ?_ Ds _ hD ⟨hB, HR.out, ev, hG, ho⟩
                · rintro W D hn hDd ⟨hB, hR, ev, hG, ho⟩
                  refine ⟨hB.trans (belowK_b (w := w) (Nat.le_refl _) W D _ _ hn hDd rfl rfl), hR.mono (fun m hmm => World.putObj_heap_other (fun e => ?_)), ev, (World.putObj_heap_other (fun e => ?_)).trans hG, ownsRow_putObj ho _ hDd rfl⟩
                  · obtain ⟨cs, hc⟩ := hR.blk m hmm
                    rw [e, hDd] at hc; cases hc
                  · rw [e, hDd] at hG; cases hG
                · rintro W ⟨hB, hR, ev, hG, ho⟩
                  exact ⟨.tuple #[.pointer (some ⟨g, 0, none⟩), .bool true], by simp [results, Try.f68, go_sem], .pointer (some ⟨g, 0, none⟩), by rw [HY.out], hB, fun _ => ⟨⟨g, A0, c0, l0⟩, ns, ev, rfl, rfl, HNS.out, ⟨⟨blk_cell hG 0, blk_cell hG 1, Kd.C_below hr0 hB, hc0, _, _, hG⟩, Rings.chain hB HM.out hR⟩, blk_cell hG 2, ho⟩⟩
              case succ =>
                clear hW4 hV4b hR4 hG4
                rintro k a W ⟨Ds, pre, rest, x10, x61, x62, x63, x64, x65, x66, x67, x68, x69, x70, x71, x72, x73, x74, x75, x76, x77, x78, x79, x80, x81, x82, x83, rfl, hk, hpr, hB, hV, hR, ⟨ev, hG, ho⟩, hD⟩
                cases rest with
                | nil => simp at hk
                | cons m r =>
                  have hCA : Chain W all := by rw [HAL.out]; exact ⟨⟨blk_cell hG 0, blk_cell hG 1, Kd.C_below hr0 hB, hc0, _, _, hG⟩, Rings.chain hB HM.out hR⟩
                  rw [hpr] at hCA
                  have hcell := (Chain.drop hCA).1.1
                  have hcel1 := (Chain.drop hCA).1.2.1
                  have hcm := (Chain.drop hCA).1.2.2.2.1
                  have hCw : Kd.C k25 w m.A m.l.length m.l := by
                    have hmem : m ∈ all := by rw [hpr]; simp
                    rw [HAL.out] at hmem
                    rcases List.mem_cons.1 hmem with rfl | h
                    · exact hr0
                    · exact (HM.out m h).2.1
                  have HP := Aside0.mk hpr
                  have HK := Aside0.mk hk
                  have HD := Aside0.mk hD
                  clear hCA hpr hk hD
                  simp only [Nd.ptr_cons]
                  gi_wp2_with (first | (refine ⟨trivial, ?_⟩; gi_at_call 56; refine (all_in _ _ _ _ _).mono ?_; rintro e w5 ⟨rfl, rfl⟩))
                  have hm8 : m.l.length ≤ 8 ∧ (bodyEdges (pre.map Nd.l)).length ≤ 24 := by
                    have h1 : ∀ q ∈ pre ++ m :: r, q.l.length ≤ 8 := by rw [← HP.out, HAL.out]; exact H8.out.1
                    have h2 := bodyEdges_len (pre.map Nd.l) (fun l hl => by obtain ⟨q, hq, rfl⟩ := List.mem_map.1 hl; exact h1 q (List.mem_append_left _ hq))
                    have h3 := congrArg List.length (HP.out.symm.trans HAL.out)
                    have h4 := H8.out.2
                    simp only [List.length_append, List.length_cons, List.length_map] at h2 h3
                    exact ⟨h1 m (by simp), by omega⟩
                  have hlW : ∀ D ∈ Ds, D < W.heap.size := fun D h => (Array.getElem?_eq_some_iff.1 (HD.out.2 D h).2).1
                  have hBr := hB.alloc hB.size (.cells #[.slice m.A m.l.length m.c] 23)
                  have hVr := hV.alloc (.cells #[.slice m.A m.l.length m.c] 23)
                  have hRr : Rings (W.alloc (.cells #[.slice m.A m.l.length m.c] 23)) ns := hR.mono fun q hq => Below.heap_alloc W _ _ (hR.lt q hq)
                  have hGr := blk_alloc hG (.cells #[.slice m.A m.l.length m.c] 23)
                  have hor := ho.alloc (.cells #[.slice m.A m.l.length m.c] 23)
                  have hDr : ∀ D ∈ Ds, (W.alloc (.cells #[.slice m.A m.l.length m.c] 23)).heap[D]? = some (.deferred (some [])) := fun D h => (Below.heap_alloc W _ _ (hlW D h)).trans (HD.out.2 D h).2
                  have bN := Boxed.new W 23 (.slice m.A m.l.length m.c)
                  have hszr : (W.alloc (.cells #[.slice m.A m.l.length m.c] 23)).heap.size = W.heap.size + 1 := by simp
                  have hwW := hB.size
                  have hgB : g + 1 < W.heap.size := hV.lt
                  obtain ⟨Bn, hBn⟩ : ∃ Bn, W.heap.size = Bn := ⟨_, rfl⟩
                  obtain ⟨Wr, hWr⟩ : ∃ Wr, W.alloc (.cells #[.slice m.A m.l.length m.c] 23) = Wr := ⟨_, rfl⟩
                  rw [hBn] at bN hszr hlW hwW hgB ⊢
                  rw [hWr] at hBr hVr hRr hGr hor hDr bN hszr ⊢
                  clear hWr hBn hB hV hR hG ho hcell hcel1
                  refine wpIn_rangeFunc_ownH rfl (by decide) (gf := 84) (lb := #[.pointer (some ⟨Bn, 0, none⟩)]) rfl trivial (enters_of Try.func84 (by kernel_rfl) rfl)
                    (all_stops 7 (by decide) Bn w.heap.size w m.A m.c m.l hCw (Nat.le_refl _) Wr hBr bN) Kp_t (Kp_b (by omega) (by omega)) (Below.refl _ _) (fun _ => rfl)
                    (fun (pr : List impl_LoopOk.E) (X : World) => (((((∃ v, X.heap[g]? = some (.cells #[.slice A0 l0.length c0, Nd.ptr ns, v] 94 (0, 0)) ∧ X.ownsRow w.heap.size 35 4 v (bodyEdges (pre.map Nd.l) ++ pr).length (bodyRows (bodyEdges (pre.map Nd.l) ++ pr))) ∧ Boxed X (g + 1) 84 (.pointer (some ⟨g, 0, none⟩))) ∧ Rings X ns) ∧ (∀ D ∈ Ds, X.heap[D]? = some (.deferred (some [])))) ∧ Boxed X Bn 23 (.slice m.A m.l.length m.c)) ∧ Below w.heap.size w X)
                    (fun _ _ _ => False)
                    (OwnFrom.and (OwnFrom.and (OwnFrom.and (OwnFrom.and (OwnFrom.and (Own.from (holds3_own _ _ _ _ _ _ _ (fun pr : List impl_LoopOk.E => (bodyEdges (pre.map Nd.l) ++ pr).length) (fun pr => bodyRows (bodyEdges (pre.map Nd.l) ++ pr))) _) (Own.from (boxed_own _ _ _) _)) (Own.from (rings_own _) _)) (marks_own (fun D h => by have := hlW D h; omega))) (Own.from (boxed_own _ _ _) _)) (ownFrom_below (Nat.le_refl _) (by omega)))
                    (fun _ _ _ _ _ hs _ _ => hs)
                    ⟨⟨⟨⟨⟨⟨ev, hGr, by rw [List.append_nil]; exact hor⟩, hVr⟩, hRr⟩, hDr⟩, bN⟩, hBr⟩
                    (fun x a' X => ∃ Bx, X.heap[Bx]? = some (.cells (seg x.2.1 x.2.2) 35 (0, 0)) ∧ a' = { tmps := #[.agg #[.slice A0 l0.length c0, .slice A1 l1.length c1], .pointer (some ⟨w.heap.size, 0, none⟩), u2, u3, .pointer (some ⟨g + 1, 0, none⟩), u5, undef, u7, .pointer (some ⟨m.b, 0, none⟩), undef, .pointer (some ⟨Bx, 0, none⟩), .pointer (some ⟨w.heap.size, 1, none⟩), .slice A1 l1.length c1, .int .i64 (l1.length : Int), .bool false, .bool false, .pointer (some ⟨w.heap.size, 0, none⟩), .slice A0 l0.length c0, .bool true, .bool false, .bool false, .pointer (some ⟨w.heap.size, 0, none⟩), .slice A0 l0.length c0, .agg #[.slice A0 l0.length c0, .pointer none], .agg #[.slice A0 l0.length c0, .pointer none, .slice none 0 0], .pointer (some ⟨g, 0, none⟩), .pointer (some ⟨g, 0, none⟩), .pointer (some ⟨g, 0, none⟩), .pointer (some ⟨g, 0, none⟩), .pointer (some ⟨w.heap.size, 1, none⟩), .slice A1 l1.length c1, .int .i64 (l1.length : Int), .int .i64 (l1.length : Int), .bool false, u34, u35, u36, u37, u38, u39, u40, u41, u42, u43, u44, u45, u46, u47, u48, u49, .pointer (some ⟨g, 0, none⟩), .bool true, .bool false, .bool false, .pointer (some ⟨g, 0, none⟩), .bool true, .bool false, .bool false, .pointer (some ⟨g, 0, none⟩), .pointer (some ⟨g, 0, none⟩), .pointer (some ⟨g, 0, none⟩), .pointer (some ⟨m.b, 0, none⟩), .bool true, x63, x64, x65, x66, .pointer (some ⟨m.b, 0, none⟩), .pointer (some ⟨m.b, 0, none⟩), .pointer (some ⟨m.b, 0, none⟩), .slice m.A m.l.length m.c, .func (.func 84) #[] #[.pointer (some ⟨Bn, 0, none⟩)], .int .i64 (x.1 : Int), .agg (seg x.2.1 x.2.2), x74, x75, x76, x77, x78, x79, x80, x81, x82, x83, undef], defers := [] })
                    (fun x a' _ X Y row hs hg hr => by obtain ⟨Bx, h2, h3⟩ := hs; exact ⟨Bx, blk_own Bx 35 (fun (_ : Unit) => seg x.2.1 x.2.2) () X Y row h2 hg (fun r e => (hr r e).2), h3⟩)
                    ?assign ?body ?done ?stop
                  case assign =>
                    rintro l pr x X K ⟨⟨⟨⟨⟨⟨v, bG, ho1⟩, bV⟩, bR⟩, bD⟩, bN1⟩, hB1⟩ hK
                    simp only [enc, seg]
                    gi_wp2
                    exact hK _ _ ((KeepsOthers.alloc _ _).from _) ⟨(Below.refl _ X).alloc hB1.size _, fun o e => blk_alloc e _⟩ ⟨⟨⟨⟨⟨⟨v, blk_alloc bG _, ho1.alloc _⟩, bV.alloc _⟩, bR.mono fun q hq => Below.heap_alloc X _ _ (bR.lt q hq)⟩, fun D h => (Below.heap_alloc X _ _ (Array.getElem?_eq_some_iff.1 (bD D h)).1).trans (bD D h)⟩, bN1.alloc _⟩, hB1.alloc hB1.size _⟩ ⟨X.heap.size, World.alloc_heap_new X _, rfl⟩
                  case stop =>
                    rintro D c pr X _ _ h _
                    exact h.elim
                  case done =>
                    rintro D zs X hD rfl ⟨⟨⟨⟨⟨⟨v, bG, ho1⟩, bV⟩, bR⟩, bD⟩, bN1⟩, hB1⟩ hKD
                    have hCA : Chain X all := by rw [HAL.out]; exact ⟨⟨blk_cell bG 0, blk_cell bG 1, Kd.C_below hr0 hB1, hc0, _, _, bG⟩, Rings.chain hB1 HM.out bR⟩
                    rw [HP.out] at hCA
                    have hcel1 := (Chain.drop hCA).1.2.1
                    clear hCA
                    gi_wp2
                    refine ⟨D :: Ds, pre ++ [m], r, _, _, _, _, _, _, _, _, _, _, _, _, _, _, _, _, _, _, _, _, _, _, _, _, rfl, by have := HK.out; simp at this; omega, by rw [HP.out]; simp, hB1, bV, bR, ⟨v, bG, ?_⟩, List.nodup_cons.2 ⟨fun h => ?_, HD.out.1⟩, fun D' h' => ?_⟩
                    · have e : bodyEdges ((pre ++ [m]).map Nd.l) = bodyEdges (pre.map Nd.l) ++ upto m.l m.l.length := by simp [bodyEdges, edgeRow]
                      rw [e]; exact ho1
                    · have := hlW D h; omega
                    · rcases List.mem_cons.1 h' with rfl | h'
                      · exact ⟨by omega, hKD⟩
                      · exact ⟨(HD.out.2 D' h').1, bD D' h'⟩
                  case body =>
                    rintro l pr x a' X hl ⟨q, hq⟩ ⟨⟨⟨⟨⟨⟨v, bG, ho1⟩, bV⟩, bR⟩, bD⟩, bN1⟩, hB1⟩ ⟨Bx, bX, rfl⟩ hlt
                    obtain ⟨xi, ⟨xa, xb⟩, ⟨xc, xd⟩⟩ := x
                    gi_wp2
                    refine wpIn_region_any (by kernel_rfl) ?_
                    refine wpAnyIn_inv (fun L a w' => ∃ (b0 b1 b2 b3 b4 b5 b6 b7 b8 b9 b10 : Bool) (s74 s75 s76 s77 s78 s79 s80 s81 s82 s83 : Value), L = #[b0, b1, b2, b3, b4, b5, b6, b7, b8, b9, b10] ∧ a = { tmps := #[.agg #[.slice A0 l0.length c0, .slice A1 l1.length c1], .pointer (some ⟨w.heap.size, 0, none⟩), u2, u3, .pointer (some ⟨g + 1, 0, none⟩), u5, undef, u7, .pointer (some ⟨m.b, 0, none⟩), undef, .pointer (some ⟨Bx, 0, none⟩), .pointer (some ⟨w.heap.size, 1, none⟩), .slice A1 l1.length c1, .int .i64 (l1.length : Int), .bool false, .bool false, .pointer (some ⟨w.heap.size, 0, none⟩), .slice A0 l0.length c0, .bool true, .bool false, .bool false, .pointer (some ⟨w.heap.size, 0, none⟩), .slice A0 l0.length c0, .agg #[.slice A0 l0.length c0, .pointer none], .agg #[.slice A0 l0.length c0, .pointer none, .slice none 0 0], .pointer (some ⟨g, 0, none⟩), .pointer (some ⟨g, 0, none⟩), .pointer (some ⟨g, 0, none⟩), .pointer (some ⟨g, 0, none⟩), .pointer (some ⟨w.heap.size, 1, none⟩), .slice A1 l1.length c1, .int .i64 (l1.length : Int), .int .i64 (l1.length : Int), .bool false, u34, u35, u36, u37, u38, u39, u40, u41, u42, u43, u44, u45, u46, u47, u48, u49, .pointer (some ⟨g, 0, none⟩), .bool true, .bool false, .bool false, .pointer (some ⟨g, 0, none⟩), .bool true, .bool false, .bool false, .pointer (some ⟨g, 0, none⟩), .pointer (some ⟨g, 0, none⟩), .pointer (some ⟨g, 0, none⟩), .pointer (some ⟨m.b, 0, none⟩), .bool true, x63, x64, x65, x66, .pointer (some ⟨m.b, 0, none⟩), .pointer (some ⟨m.b, 0, none⟩), .pointer (some ⟨m.b, 0, none⟩), .slice m.A m.l.length m.c, .func (.func 84) #[] #[.pointer (some ⟨Bn, 0, none⟩)], .int .i64 (xi : Int), .agg #[.int .i64 xa, .int .i64 xb, .int .i64 xc, .int .i64 xd], s74, s75, s76, s77, s78, s79, s80, s81, s82, s83, undef], defers := [] } ∧ (b0 = true → s74 = .pointer (some ⟨g, 0, none⟩)) ∧ (b1 = true → s75 = .pointer (some ⟨g, 0, none⟩)) ∧ (b2 = true → s76 = .pointer (some ⟨g, 0, none⟩)) ∧ (b3 = true → s77 = .pointer (some ⟨g, 2, none⟩)) ∧ (b4 = true → s78 = v) ∧ (b5 = true → s79 = .agg #[.int .i64 xa, .int .i64 xb, .int .i64 xc, .int .i64 xd]) ∧ (b8 = true → s82 = .pointer (some ⟨g, 0, none⟩)) ∧ (b9 = true → s83 = .pointer (some ⟨g, 2, none⟩)) ∧ (b6 = true → b5 = true) ∧ (b7 = true → b6 = true ∧ b4 = true) ∧ (b10 = true → b0 = true ∧ b1 = true ∧ b4 = true ∧ b7 = true) ∧ Ph w.heap.size g X v (bodyEdges (pre.map Nd.l) ++ pr).length (bodyRows (bodyEdges (pre.map Nd.l) ++ pr)) [.int .i64 xa, .int .i64 xb, .int .i64 xc, .int .i64 xd] #[.int .i64 xa, .int .i64 xb, .int .i64 xc, .int .i64 xd] b6 b7 b10 s80 s81 w') ?fin ?step _ _ _ _ (by decide) ?bnd ⟨false, false, false, false, false, false, false, false, false, false, false, x74, x75, x76, x77, x78, x79, x80, x81, x82, x83, rfl, rfl, by simp, by simp, by simp, by simp, by simp, by simp, by simp, by simp, by simp, by simp, by simp, .inl ⟨rfl, rfl, rfl, rfl⟩⟩
                    case bnd =>
                      intro i h
                      by_cases hi : i < 11
                      · simpa using hi
                      · simp [hi] at h
                    case fin =>
                      rintro L a w' ⟨b0, b1, b2, b3, b4, b5, b6, b7, b8, b9, b10, s74, s75, s76, s77, s78, s79, s80, s81, s82, s83, rfl, rfl, h74, h75, h76, h77, h78, h79, h82, h83, c6, c7, c10, ph⟩ hr
                      rw [List.eq_nil_iff_forall_not_mem] at hr
                      have a0 : b0 = true := by cases b0 with | true => rfl | false => exact (hr 0 (mem_ready.2 ⟨rfl, _, rfl, by simp [Region.binds]⟩)).elim
                      have a1 : b1 = true := by cases b1 with | true => rfl | false => exact (hr 1 (mem_ready.2 ⟨rfl, _, rfl, by simp [Region.binds]⟩)).elim
                      have a2 : b2 = true := by cases b2 with | true => rfl | false => exact (hr 2 (mem_ready.2 ⟨rfl, _, rfl, by simp [Region.binds, a1]⟩)).elim
                      have a3 : b3 = true := by cases b3 with | true => rfl | false => exact (hr 3 (mem_ready.2 ⟨rfl, _, rfl, by simp [Region.binds, a2]⟩)).elim
                      have a4 : b4 = true := by cases b4 with | true => rfl | false => exact (hr 4 (mem_ready.2 ⟨rfl, _, rfl, by simp [Region.binds, a3]⟩)).elim
                      have a5 : b5 = true := by cases b5 with | true => rfl | false => exact (hr 5 (mem_ready.2 ⟨rfl, _, rfl, by simp [Region.binds]⟩)).elim
                      have a6 : b6 = true := by cases b6 with | true => rfl | false => exact (hr 6 (mem_ready.2 ⟨rfl, _, rfl, by simp [Region.binds, a5]⟩)).elim
                      have a7 : b7 = true := by cases b7 with | true => rfl | false => exact (hr 7 (mem_ready.2 ⟨rfl, _, rfl, by simp [Region.binds, a4, a6]⟩)).elim
                      have a8 : b8 = true := by cases b8 with | true => rfl | false => exact (hr 8 (mem_ready.2 ⟨rfl, _, rfl, by simp [Region.binds, a0, a1, a2, a3, a4, a5, a6, a7]⟩)).elim
                      have a9 : b9 = true := by cases b9 with | true => rfl | false => exact (hr 9 (mem_ready.2 ⟨rfl, _, rfl, by simp [Region.binds, a0, a1, a2, a3, a4, a5, a6, a7, a8]⟩)).elim
                      have a10 : b10 = true := by cases b10 with | true => rfl | false => exact (hr 10 (mem_ready.2 ⟨rfl, _, rfl, by simp [Region.binds, a0, a1, a2, a3, a4, a5, a6, a7, a8, a9]⟩)).elim
                      rcases ph with ⟨_, _, e, _⟩ | ⟨_, _, e, _⟩ | ⟨_, _, e, _⟩ | ⟨_, _, _, w4, r1, r2, rfl⟩
                      · rw [a10] at e; cases e
                      · rw [a10] at e; cases e
                      · rw [a10] at e; cases e
                      · clear a0 a1 a2 a3 a4 a5 a6 a7 a8 a9 a10 hr
                        obtain ⟨q1, q2, q3, q4⟩ := body_appended bG (by omega) ho1 hB1.size r1 r2
                        have hne : ∀ B, B ≠ g → ∀ (Y : World) (u : Value), (Y.setCell ⟨g, 2, none⟩ u).heap[B]? = Y.heap[B]? := fun B hB Y u => Below.heap_setCell _ _ _ _ hB
                        refine (show KeepsFrom Wr.heap.size X _ ∧ Kp w.heap.size Bn X _ ∧ _ from ⟨q3.from _, ⟨q4, fun o e => ?_⟩, ⟨⟨⟨⟨⟨⟨_, q1, ?_⟩, (hne _ (by omega) _ _).trans (grown_blk bV (by decide) ho1 r2)⟩, bR.mono fun q hq => (hne _ (by have := (HM.out q hq).1; omega) _ _).trans ?_⟩, fun D h => q3.same D _ (bD D h) rfl⟩, (hne _ (by omega) _ _).trans (grown_blk bN1 (by decide) ho1 r2)⟩, hB1.trans q4⟩⟩)
                        · rw [show X.heap[Bn]? = _ from bN1] at e
                          cases e
                          exact (hne _ (by omega) _ _).trans (grown_blk bN1 (by decide) ho1 r2)
                        · have e1 : bodyEdges (pre.map Nd.l) ++ (pr ++ [(xi, ⟨xa, xb⟩, ⟨xc, xd⟩)]) = (bodyEdges (pre.map Nd.l) ++ pr) ++ [(xi, ⟨xa, xb⟩, ⟨xc, xd⟩)] := (List.append_assoc _ _ _).symm
                          have e2 : bodyRows ((bodyEdges (pre.map Nd.l) ++ pr) ++ [(xi, ⟨xa, xb⟩, ⟨xc, xd⟩)]) = bodyRows (bodyEdges (pre.map Nd.l) ++ pr) ++ [.int .i64 xa, .int .i64 xb, .int .i64 xc, .int .i64 xd] := by simp [bodyRows]
                          rw [e1, e2, List.length_append, List.length_cons, List.length_nil]
                          exact q2
                        · obtain ⟨cs, hc⟩ := bR.blk q hq
                          exact (grown_blk hc (by decide) ho1 r2).trans hc.symm
                    case step =>
                      rintro L a w' i ⟨b0, b1, b2, b3, b4, b5, b6, b7, b8, b9, b10, s74, s75, s76, s77, s78, s79, s80, s81, s82, s83, rfl, rfl, h74, h75, h76, h77, h78, h79, h82, h83, c6, c7, c10, ph⟩ hi
                      obtain ⟨hu, o, hoo, haf⟩ := mem_ready.1 hi
                      have hi11 : i < 11 := by
                        by_cases h : i < 11
                        · exact h
                        · simp [h] at hu
                      clear hi
                      rcases (by omega : i = 0 ∨ i = 1 ∨ i = 2 ∨ i = 3 ∨ i = 4 ∨ i = 5 ∨ i = 6 ∨ i = 7 ∨ i = 8 ∨ i = 9 ∨ i = 10) with rfl | rfl | rfl | rfl | rfl | rfl | rfl | rfl | rfl | rfl | rfl
                      · have hb : b0 = false := hu
                        have h10 : b10 = false := by cases b10 with | false => rfl | true => rw [(c10 rfl).1] at hb; cases hb
                        have cV := Boxed.cell (ph.look h10 ho1 bV (by decide))
                        refine wpOpIn_step rfl (fun K hK => ?_)
                        clear hoo haf
                        go_simp
                        exact hK _ _ ⟨true, b1, b2, b3, b4, b5, b6, b7, b8, b9, b10, .pointer (some ⟨g, 0, none⟩), s75, s76, s77, s78, s79, s80, s81, s82, s83, rfl, rfl, fun _ => rfl, h75, h76, h77, h78, h79, h82, h83, c6, c7, fun h => ⟨rfl, (c10 h).2⟩, ph⟩
                      · have hb : b1 = false := hu
                        have h10 : b10 = false := by cases b10 with | false => rfl | true => rw [(c10 rfl).2.1] at hb; cases hb
                        have cV := Boxed.cell (ph.look h10 ho1 bV (by decide))
                        refine wpOpIn_step rfl (fun K hK => ?_)
                        clear hoo haf
                        go_simp
                        exact hK _ _ ⟨b0, true, b2, b3, b4, b5, b6, b7, b8, b9, b10, s74, .pointer (some ⟨g, 0, none⟩), s76, s77, s78, s79, s80, s81, s82, s83, rfl, rfl, h74, fun _ => rfl, h76, h77, h78, h79, h82, h83, c6, c7, fun h => ⟨(c10 h).1, rfl, (c10 h).2.2⟩, ph⟩
                      · obtain rfl := Option.some.inj hoo
                        have haf' := haf
                        simp [Region.binds] at haf'
                        have a1 : b1 = true := haf'
                        obtain rfl := h75 a1
                        refine wpOpIn_step rfl (fun K hK => ?_)
                        clear hoo haf
                        go_simp
                        exact hK _ _ ⟨b0, b1, true, b3, b4, b5, b6, b7, b8, b9, b10, s74, .pointer (some ⟨g, 0, none⟩), .pointer (some ⟨g, 0, none⟩), s77, s78, s79, s80, s81, s82, s83, rfl, rfl, h74, fun _ => rfl, fun _ => rfl, h77, h78, h79, h82, h83, c6, c7, c10, ph⟩
                      · obtain rfl := Option.some.inj hoo
                        have haf' := haf
                        simp [Region.binds] at haf'
                        have a2 : b2 = true := haf'
                        obtain rfl := h76 a2
                        refine wpOpIn_step rfl (fun K hK => ?_)
                        clear hoo haf
                        go_simp
                        exact hK _ _ ⟨b0, b1, b2, true, b4, b5, b6, b7, b8, b9, b10, s74, s75, .pointer (some ⟨g, 0, none⟩), .pointer (some ⟨g, 2, none⟩), s78, s79, s80, s81, s82, s83, rfl, rfl, h74, h75, fun _ => rfl, fun _ => rfl, h78, h79, h82, h83, c6, c7, c10, ph⟩
                      · have hb : b4 = false := hu
                        have h10 : b10 = false := by cases b10 with | false => rfl | true => rw [(c10 rfl).2.2.1] at hb; cases hb
                        obtain rfl := Option.some.inj hoo
                        have haf' := haf
                        simp [Region.binds] at haf'
                        have a3 : b3 = true := haf'
                        obtain rfl := h77 a3
                        have cG := blk_cell (ph.look h10 ho1 bG (by decide)) 2
                        simp only [List.getElem?_toArray, List.getElem?_cons_succ, List.getElem?_cons_zero] at cG
                        refine wpOpIn_step rfl (fun K hK => ?_)
                        clear hoo haf
                        go_simp
                        exact hK _ _ ⟨b0, b1, b2, b3, true, b5, b6, b7, b8, b9, b10, s74, s75, s76, .pointer (some ⟨g, 2, none⟩), v, s79, s80, s81, s82, s83, rfl, rfl, h74, h75, h76, fun _ => rfl, fun _ => rfl, h79, h82, h83, c6, fun h => ⟨(c7 h).1, rfl⟩, fun h => ⟨(c10 h).1, (c10 h).2.1, rfl, (c10 h).2.2.2⟩, ph⟩
                      · have hb : b5 = false := hu
                        have h6 : b6 = false := by cases b6 with | false => rfl | true => rw [c6 rfl] at hb; cases hb
                        rcases ph with ⟨e6, e7, e10, rfl⟩ | ⟨e6, _⟩ | ⟨e6, _⟩ | ⟨e6, _⟩
                        · have cX0 : X.cell? ⟨Bx, 0, none⟩ = some (.int .i64 xa) := blk_cell bX 0
                          have cX1 : X.cell? ⟨Bx, 1, none⟩ = some (.int .i64 xb) := blk_cell bX 1
                          have cX2 : X.cell? ⟨Bx, 2, none⟩ = some (.int .i64 xc) := blk_cell bX 2
                          have cX3 : X.cell? ⟨Bx, 3, none⟩ = some (.int .i64 xd) := blk_cell bX 3
                          refine wpOpIn_step rfl (fun K hK => ?_)
                          clear hoo haf
                          go_simp
                          exact hK _ _ ⟨b0, b1, b2, b3, b4, true, b6, b7, b8, b9, b10, s74, s75, s76, s77, s78, .agg #[.int .i64 xa, .int .i64 xb, .int .i64 xc, .int .i64 xd], s80, s81, s82, s83, rfl, rfl, h74, h75, h76, h77, h78, fun _ => rfl, h82, h83, fun _ => rfl, c7, c10, .inl ⟨e6, e7, e10, rfl⟩⟩
                        all_goals rw [h6] at e6; cases e6
                      · have hb : b6 = false := hu
                        obtain rfl := Option.some.inj hoo
                        have haf' := haf
                        simp [Region.binds] at haf'
                        have a5 : b5 = true := haf'
                        obtain rfl := h79 a5
                        rcases ph with ⟨e6, e7, e10, rfl⟩ | ⟨e6, _⟩ | ⟨e6, _⟩ | ⟨e6, _⟩
                        · refine wpOpIn_step rfl (fun K hK => ?_)
                          clear hoo haf
                          go_simp
                          exact hK _ _ ⟨b0, b1, b2, b3, b4, b5, true, b7, b8, b9, b10, s74, s75, s76, s77, s78, .agg #[.int .i64 xa, .int .i64 xb, .int .i64 xc, .int .i64 xd], .slice (some ⟨X.heap.size, 0, none⟩) 1 1, s81, s82, s83, rfl, rfl, h74, h75, h76, h77, h78, fun _ => rfl, h82, h83, fun _ => a5, fun h => ⟨rfl, (c7 h).2⟩, c10, .inr (.inl ⟨rfl, e7, e10, rfl, rfl⟩)⟩
                        all_goals rw [hb] at e6; cases e6
                      · have hb : b7 = false := hu
                        obtain rfl := Option.some.inj hoo
                        have haf' := haf
                        simp [Region.binds] at haf'
                        obtain ⟨a4, a6⟩ : b4 = true ∧ b6 = true := haf'
                        have e78 := h78 a4
                        rcases ph with ⟨e6, _⟩ | ⟨e6, e7, e10, rfl, rfl⟩ | ⟨_, e7, _⟩ | ⟨_, e7, _⟩
                        · rw [a6] at e6; cases e6
                        · refine wpOpIn_step rfl (fun K hK => ?_)
                          clear hoo haf
                          rw [if_pos (by rfl)]
                          subst e78
                          refine wpIn_append_own _ _ _ 31 rfl w.heap.size 35 i0 _ 4 32 hu31 HI.out.1 HI.out.2.1 HI.out.2.2.1 HI.out.2.2.2 rfl (by decide) _ _ _ rfl (ownsRow_alloc ho1) ⟨X.heap.size, 0, none⟩ 1 1 [.int .i64 xa, .int .i64 xb, .int .i64 xc, .int .i64 xd] rfl rfl ?c1 ?c2 ?c3 ?c4 ?c5 ?_
                          case c1 =>
                            intro j u hj
                            rw [show (⟨X.heap.size, 0, none⟩ : Addr).add j = ⟨X.heap.size, j, none⟩ from (by simp [Addr.add]; omega)]
                            exact (blk_cell (World.alloc_heap_new X.drew (.cells #[.int .i64 xa, .int .i64 xb, .int .i64 xc, .int .i64 xd] 35)) j).trans (by simpa using hj)
                          case c2 =>
                            intro u hu
                            simp at hu
                            rcases hu with rfl | rfl | rfl | rfl <;> rfl
                          case c3 => rw [List.length_append]; unfold maxLen; omega
                          case c4 => rw [List.length_append]; omega
                          case c5 => have := hB1.size; simp; omega
                          rintro v' w4 r1 r2 _
                          exact hK _ _ ⟨b0, b1, b2, b3, b4, b5, b6, true, b8, b9, b10, s74, s75, s76, s77, s78, s79, _, v', s82, s83, rfl, rfl, h74, h75, h76, h77, h78, h79, h82, h83, c6, fun _ => ⟨a6, a4⟩, fun h => ⟨(c10 h).1, (c10 h).2.1, (c10 h).2.2.1, rfl⟩, .inr (.inr (.inl ⟨a6, rfl, e10, r1, r2⟩))⟩
                        all_goals rw [hb] at e7; cases e7
                      · obtain rfl := Option.some.inj hoo
                        have haf' := haf
                        simp [Region.binds] at haf'
                        have a0 : b0 = true := haf'.1
                        clear haf'
                        obtain rfl := h74 a0
                        refine wpOpIn_step rfl (fun K hK => ?_)
                        clear hoo haf
                        go_simp
                        exact hK _ _ ⟨b0, b1, b2, b3, b4, b5, b6, b7, true, b9, b10, .pointer (some ⟨g, 0, none⟩), s75, s76, s77, s78, s79, s80, s81, .pointer (some ⟨g, 0, none⟩), s83, rfl, rfl, fun _ => rfl, h75, h76, h77, h78, h79, fun _ => rfl, h83, c6, c7, c10, ph⟩
                      · obtain rfl := Option.some.inj hoo
                        have haf' := haf
                        simp [Region.binds] at haf'
                        have a8 : b8 = true := haf'.1
                        clear haf'
                        obtain rfl := h82 a8
                        refine wpOpIn_step rfl (fun K hK => ?_)
                        clear hoo haf
                        go_simp
                        exact hK _ _ ⟨b0, b1, b2, b3, b4, b5, b6, b7, b8, true, b10, s74, s75, s76, s77, s78, s79, s80, s81, .pointer (some ⟨g, 0, none⟩), .pointer (some ⟨g, 2, none⟩), rfl, rfl, h74, h75, h76, h77, h78, h79, fun _ => rfl, fun _ => rfl, c6, c7, c10, ph⟩
                      · have hb : b10 = false := hu
                        obtain rfl := Option.some.inj hoo
                        have haf' := haf
                        simp [Region.binds] at haf'
                        obtain ⟨a9, a7, a0, a1, a4⟩ : b9 = true ∧ b7 = true ∧ b0 = true ∧ b1 = true ∧ b4 = true := by simp [haf']
                        clear haf'
                        obtain rfl := h83 a9
                        have haa : (b0 = true ∧ b1 = true ∧ b4 = true ∧ b7 = true) ∧ b6 = true ∧ b7 = true := ⟨⟨a0, a1, a4, a7⟩, (c7 a7).1, a7⟩
                        rcases ph with ⟨_, e7, _⟩ | ⟨_, e7, _⟩ | ⟨e6, e7, _, r1, r2⟩ | ⟨_, _, e10, _⟩
                        · rw [a7] at e7; cases e7
                        · rw [a7] at e7; cases e7
                        · obtain ⟨q, cap, rfl⟩ := ownsRow_succ r1
                          have hg4 := grown_blk bG (by decide) ho1 r2
                          have k1 : w'.cell? ⟨g, 2, none⟩ = some v := blk_cell hg4 2
                          have f1 := blk_frozen hg4 2
                          clear a7 a0 a1 a4 a9 e6 e7
                          have A := Aside0.mk haa
                          clear haa
                          refine wpOpIn_step rfl (fun K hK => ?_)
                          clear hoo haf
                          go_simp
                          exact hK _ _ ⟨b0, b1, b2, b3, b4, b5, b6, b7, b8, b9, true, s74, s75, s76, s77, s78, s79, s80, _, s82, .pointer (some ⟨g, 2, none⟩), rfl, rfl, h74, h75, h76, h77, h78, h79, h82, fun _ => rfl, c6, c7, fun _ => A.out.1, .inr (.inr (.inr ⟨A.out.2.1, A.out.2.2, rfl, w', (by rw [List.length_append] at r1 ⊢; exact r1), r2, rfl⟩))⟩
                        · rw [hb] at e10; cases e10
  · have hd : decide ((2 : Int) < (l1.length : Int)) = true := decide_eq_true (by omega)
    gi_wp2_with (first | (refine ⟨trivial, ?_⟩; skip))
    exact ⟨.tuple #[.pointer none, .bool false], by simp [results, Try.f68, go_sem], .pointer none, by rw [bodyOk_no1 h2], (Below.refl _ w).alloc (Nat.le_refl _) _, fun h => by rw [bodyOk_no1 h2] at h; cases h⟩
end

end Go.Proofs.Ytehkklmacglelaa.PA
namespace Go.Proofs.Ytehkklmacglelaa.PA
open Go.RowKit Go.Proofs.YtehkklmacglelaaW.PrintWords Go.Proofs.YtehkklmacglelaaW.PrintLast Go.Proofs.YtehkklmacglelaaW.PrintMore
attribute [local go_sem] max2_int min2_int max_two min_two max_three min_three max_four min_four   -- for this text's walks alone
set_option linter.unusedVariables false
set_option linter.unusedSimpArgs false

/-! ### impl_PlateOk: function 29 -/
section
open Edges Go.Shelf
def impl_PlateOk.f (l0_0 : List S25) (l0_1 : List (List S25)) : Option Bool := some (bodyOk l0_0 l0_1)
set_option maxRecDepth 100000 in
set_option maxHeartbeats 4000000 in
theorem impl_PlateOk.calls (A0_0 : Option Addr) (c0_0 : Nat) (l0_0 : List (S25)) (A0_1 : Option Addr) (c0_1 : Nat) (l0_1 : List (List (S25))) (r : Bool) (w : World) (hr0_0 : Kd.C k25 w A0_0 l0_0.length l0_0) (hc0_0 : l0_0.length ≤ c0_0) (hr0_1 : Kd.C (Kd.slice 25 k25) w A0_1 l0_1.length l0_1) (hc0_1 : l0_1.length ≤ c0_1) (h : impl_PlateOk.f l0_0 l0_1 = some r) :
    Calls Try.prog 29 #[.agg #[.slice A0_0 l0_0.length c0_0, .slice A0_1 l0_1.length c0_1]] w fun e w' => e = .returned (.bool r) ∧ Below w.heap.size w w' := by
  have hu5 := Try.underlying50
  have hres := Aside0.mk (Option.some.inj h)
  clear h
  have hb0 : Below w.heap.size w (w.alloc (.cells #[.slice A0_0 l0_0.length c0_0, .slice A0_1 l0_1.length c0_1] 50)) := (Below.refl _ w).alloc (Nat.le_refl _) _
  have HB0 := Aside0.mk hb0
  have HC := Aside0.mk (And.intro (Kd.C_below hr0_0 hb0) (Kd.C_below hr0_1 hb0))
  clear hb0 hr0_0 hr0_1
  go_enter Try.func29, Try.ntmps29
  go_wp2_with (first | (go_at_call 68; refine (impl_bodyOf.calls _ _ _ _ _ _ _ HC.out.1 hc0_0 HC.out.2 hc0_1).mono ?_; rintro e w1 ⟨v, rfl, hb1, _⟩))
  go_ret
  exact ⟨by rw [hres.out]; rfl, HB0.out.trans (hb1.mono HB0.out.size)⟩
end

end Go.Proofs.Ytehkklmacglelaa.PA
namespace Go.Proofs.Ytehkklmacglelaa.PA
open Go.RowKit Go.Proofs.YtehkklmacglelaaW.PrintWords Go.Proofs.YtehkklmacglelaaW.PrintLast Go.Proofs.YtehkklmacglelaaW.PrintMore
attribute [local go_sem] max2_int min2_int max_two min_two max_three min_three max_four min_four   -- for this text's walks alone
set_option linter.unusedVariables false
set_option linter.unusedSimpArgs false

/-- A state of type 99 at block g of W; what its slices lead to came in by w0. -/
def IsS99 (w0 W : World) (g : Nat) (f0 : List Int) (f1 : Int) : Prop := ∃ A0 c0, W.heap[g]? = some (.cells #[.slice A0 f0.length c0, .int .i64 f1] 99 (0, 0)) ∧ w0.heap.size ≤ g ∧ Kd.C (Kd.int .u8) w0 A0 f0.length f0
theorem IsS99.grown {w0 W : World} {g : Nat} {f0 : List Int} {f1 : Int} {W1 : World} {row : Option Nat} (h : IsS99 w0 W g f0 f1) (hw : W.grownBy W1 row) (hne : some g ≠ row) : IsS99 w0 W1 g f0 f1 := by
 obtain ⟨A0, c0, hb, hg, hr0⟩ := h; exact ⟨A0, c0, blk_grown hb hw hne, hg, hr0⟩
theorem IsS99.own_neN {w0 W : World} {g : Nat} {f0 : List Int} {f1 : Int} {α : Type} {d : Kd α} {e : Nat} {base : Nat} {ok : Nat → Prop} {v : Value} {xs : List α} (h : IsS99 w0 W g f0 f1) (ho : Kd.N d e W base ok v xs) (ht : e ≠ 99) : some g ≠ v.ownBlock := by
 obtain ⟨A0, c0, hb, hg, hr0⟩ := h; exact Kd.N_ne ho hb ht
theorem IsS99.fresh {w0 W : World} {g : Nat} {f0 : List Int} {f1 : Int} (h : IsS99 w0 W g f0 f1) : ∀ k, W.heap.size ≤ k → k ≠ g := by
 obtain ⟨A0, c0, hb, hg, hr0⟩ := h; exact Kd.freshB hb
theorem IsS99.kept {w0 W : World} {g : Nat} {f0 : List Int} {f1 : Int} {W1 : World} {S : Nat → Prop} (h : IsS99 w0 W g f0 f1) (hk : Kept W W1 S) (hne : ¬ S g) : IsS99 w0 W1 g f0 f1 := by
 obtain ⟨A0, c0, hb, hg, hr0⟩ := h; exact ⟨A0, c0, blk_kept hb hk hne, hg, hr0⟩
theorem IsS99.below {w0 W : World} {g : Nat} {f0 : List Int} {f1 : Int} {W1 : World} (h : IsS99 w0 W g f0 f1) (hw : Below W.heap.size W W1) : IsS99 w0 W1 g f0 f1 := h.grown (grown_of_below hw none) (by simp)
theorem IsS99.alloc {w0 W : World} {g : Nat} {f0 : List Int} {f1 : Int} (h : IsS99 w0 W g f0 f1) (o : Obj) : IsS99 w0 (W.alloc o) g f0 f1 := h.below (below_alloc (Below.refl _ _) o)
theorem IsS99.drewN {w0 W : World} {g : Nat} {f0 : List Int} {f1 : Int} (h : IsS99 w0 W g f0 f1) (m : Nat) : IsS99 w0 (W.drewN m) g f0 f1 := h
theorem IsS99.drew {w0 W : World} {g : Nat} {f0 : List Int} {f1 : Int} (h : IsS99 w0 W g f0 f1) : IsS99 w0 W.drew g f0 f1 := h
theorem IsS99.at_ {w0 W : World} {g : Nat} {f0 : List Int} {f1 : Int} {w' : World} {m : Nat} (hq : W.drewN m = w') (h : IsS99 w0 W g f0 f1) : IsS99 w0 w' g f0 f1 := by subst hq; exact IsS99.drewN h m
theorem IsS99.apart {w0 W : World} {g : Nat} {f0 : List Int} {f1 : Int} {α : Type} {d : Kd α} {e : Nat} {base : Nat} {ok : Nat → Prop} {v : Value} {xs : List α} (h : IsS99 w0 W g f0 f1) (ho : d.R e W base ok v xs) (ht : ∀ q, q ∈ e :: d.E → q ≠ 99) : d.R e W base (fun k => ok k ∧ k ≠ g) v xs := by
 obtain ⟨A0, c0, hb, hg, hr0⟩ := h; exact Kd.R_types ho hb ht
theorem IsS99.own_ne {w0 W : World} {g : Nat} {f0 : List Int} {f1 : Int} {α : Type} {d : Kd α} {e : Nat} {base : Nat} {ok : Nat → Prop} {v : Value} {xs : List α} (h : IsS99 w0 W g f0 f1) (ho : d.R e W base ok v xs) (ht : e ≠ 99) : some g ≠ v.ownBlock := by
 obtain ⟨A0, c0, hb, hg, hr0⟩ := h; exact Kd.R_ne ho hb ht
theorem IsS99.apartQ {w0 W : World} {g : Nat} {f0 : List Int} {f1 : Int} {α : Type} {d : Kd α} {e : Nat} {base : Nat} {ok : Nat → Prop} {v : Value} {xs : List α} (h : IsS99 w0 W g f0 f1) (ho : d.Q e W base ok v xs) (ht : ∀ q, q ∈ e :: d.E → q ≠ 99) : d.Q e W base (fun k => ok k ∧ k ≠ g) v xs := by
 obtain ⟨A0, c0, hb, hg, hr0⟩ := h; exact Kd.Q_types ho hb ht
theorem IsS99.own_neQ {w0 W : World} {g : Nat} {f0 : List Int} {f1 : Int} {α : Type} {d : Kd α} {e : Nat} {base : Nat} {ok : Nat → Prop} {v : Value} {xs : List α} (h : IsS99 w0 W g f0 f1) (ho : d.Q e W base ok v xs) (ht : e ≠ 99) : some g ≠ v.ownBlock := by
 obtain ⟨A0, c0, hb, hg, hr0⟩ := h; exact Kd.Q_ne ho hb ht
theorem IsS99.apartS {w0 W : World} {g : Nat} {f0 : List Int} {f1 : Int} {α : Type} {d : Kd α} {e : Nat} {base : Nat} {ok : Nat → Prop} {v : Value} {xs : List α} (h : IsS99 w0 W g f0 f1) (ho : d.S e W base ok v xs) (ht : ∀ q, q ∈ e :: d.E → q ≠ 99) : d.S e W base (fun k => ok k ∧ k ≠ g) v xs := by
 obtain ⟨A0, c0, hb, hg, hr0⟩ := h; exact Kd.S_types ho hb ht
theorem IsS99.own_neS {w0 W : World} {g : Nat} {f0 : List Int} {f1 : Int} {α : Type} {d : Kd α} {e : Nat} {base : Nat} {ok : Nat → Prop} {v : Value} {xs : List α} (h : IsS99 w0 W g f0 f1) (ho : d.S e W base ok v xs) (ht : e ≠ 99) : some g ≠ v.ownBlock := by
 obtain ⟨A0, c0, hb, hg, hr0⟩ := h; exact Kd.S_ne ho hb ht
theorem IsS99.lt {w0 W : World} {g : Nat} {f0 : List Int} {f1 : Int} (h : IsS99 w0 W g f0 f1) : g < W.heap.size := by
 obtain ⟨A0, c0, hb, hg, hr0⟩ := h; exact blk_lt hb
theorem IsS99.ge {w0 W : World} {g : Nat} {f0 : List Int} {f1 : Int} (h : IsS99 w0 W g f0 f1) : w0.heap.size ≤ g := by
 obtain ⟨A0, c0, hb, hg, hr0⟩ := h; exact hg
theorem IsS99.ne_blk {w0 W : World} {g : Nat} {f0 : List Int} {f1 : Int} {a : Nat} {cs : Array Value} {t : TypeId} {fr : Nat × Nat} (h : IsS99 w0 W g f0 f1) (hb2 : W.heap[a]? = some (.cells cs t fr)) (ht : t ≠ 99) : g ≠ a := by
 obtain ⟨A0, c0, hb, hg, hr0⟩ := h; rintro rfl; rw [hb] at hb2; injection hb2 with hb2
 injection hb2 with _ ht2
 exact ht ht2.symm
theorem IsS99.far {w0 W : World} {g : Nat} {f0 : List Int} {f1 : Int} {p : Addr} (h : IsS99 w0 W g f0 f1) (hne : g ≠ p.block) (u : Value) : IsS99 w0 (W.setCell p u) g f0 f1 := by
 obtain ⟨A0, c0, hb, hg, hr0⟩ := h; exact ⟨A0, c0, blk_far hb hne u, hg, hr0⟩
theorem cellS99_0 {W : World} {g : Nat} {A0 : Option Addr} {c0 : Nat} {f0 : List Int} {f1 : Int} (h : W.heap[g]? = some (.cells #[.slice A0 f0.length c0, .int .i64 f1] 99 (0, 0))) : W.cell? ⟨g, 0, none⟩ = some (.slice A0 f0.length c0) := (blk_cell h 0).trans rfl
theorem cellS99_1 {W : World} {g : Nat} {A0 : Option Addr} {c0 : Nat} {f0 : List Int} {f1 : Int} (h : W.heap[g]? = some (.cells #[.slice A0 f0.length c0, .int .i64 f1] 99 (0, 0))) : W.cell? ⟨g, 1, none⟩ = some (.int .i64 f1) := (blk_cell h 1).trans rfl
theorem IsS99.set_1 {w0 W : World} {g : Nat} {f0 : List Int} {f1 : Int} (h : IsS99 w0 W g f0 f1) (x : Int) : IsS99 w0 (W.setCell ⟨g, 1, none⟩ (.int .i64 x)) g f0 x := by
 obtain ⟨A0, c0, hb, hg, hr0⟩ := h; exact ⟨A0, c0, by simpa using blk_set hb 1 (.int .i64 x), hg, hr0⟩
theorem IsS99.new (w0 W : World) (A0 : Option Addr) (c0 : Nat) (f0 : List Int) (f1 : Int) (hB : Below w0.heap.size w0 W) (hr0 : Kd.C (Kd.int .u8) w0 A0 f0.length f0) : IsS99 w0 (W.alloc (.cells #[.slice A0 f0.length c0, .int .i64 f1] 99)) W.heap.size f0 f1 := ⟨A0, c0, by simpa using heap_alloc_new W _, hB.size, hr0⟩

/-! ### spec_l6Open: function 44 -/
def spec_l6Open.f (l0 : List Int) : Option (List Int × Int) := if (l0.length : Int) > 2000 then (if 2000 ≤ (l0.length : Int) then (some (l0.take 2000, 0)) else (none)) else (some (l0, 0))
set_option maxHeartbeats 8000000 in
set_option maxRecDepth 100000 in
theorem spec_l6Open.calls (A0 : Option Addr) (c0 : Nat) (l0 : List Int) (r1 : List Int) (r2 : Int) (w0 w : World) (hB : Below w0.heap.size w0 w) (hr0 : Kd.C (Kd.int .u8) w0 A0 l0.length l0) (hc0 : l0.length ≤ c0) (h : spec_l6Open.f l0 = some (r1, r2)) :
  Calls Try.prog 44 #[.slice A0 l0.length c0] w fun e w' => ∃ g_ : Nat, e = .returned (.pointer (some ⟨g_, 0, none⟩)) ∧ IsS99 w0 w' g_ r1 r2 ∧ Below w0.heap.size w0 w' ∧ Below w.heap.size w w' := by
 have hu99 := Try.underlying99; have HR0 := A_ hr0; have HC0 := A_ hc0; clear hr0 hc0; have HBW := A_ (Below.refl w.heap.size w); have HW0 := A_ hB.size; have HB := A_ hB; clear hB; have H : (if (l0.length : Int) > 2000 then (if 2000 ≤ (l0.length : Int) then (some (l0.take 2000, 0)) else (none)) else (some (l0, 0))) = some (r1, r2) := h; clear h; by_cases c2 : (l0.length : Int) > 2000
 ·rw [if_pos c2] at H; have c2b0 : decide (2000 < (l0.length : Int)) = true := decide_eq_true c2; have c2b1 : decide (2000 < l0.length) = true := decide_eq_true (by omega); clear c2; by_cases c3 : 2000 ≤ (l0.length : Int)
  ·rw [if_pos c3] at H; have c3b0 := eq_true c3; have c3b1 : decide (2000 ≤ (l0.length : Int)) = true := decide_eq_true c3; clear c3; simp only [Option.some.injEq, Prod.mk.injEq] at H; obtain ⟨rfl, rfl⟩ := H; obtain ⟨i04, hi04, _, hsz4, _⟩ := info_parts info5; obtain ⟨hcut4, hA4, hC4⟩ := print_take_of (P := Try.prog) (Value.int .u8) 0 22 5 .i64 Try.underlying22 hi04 hsz4 A0 c0 l0 2000 (by omega) (of_decide_eq_true (by first | (with_reducible assumption) | assumption)) HC0.out; have HR101 := A_ (Kd.C_of_reads (h1 := fun _ => rfl) (hA4 _ (Kd.reads_of_C HR0.out))); have HC101 := A_ hC4; clear hA4 hC4 hi04 hsz4; go_enter Try.func44, Try.ntmps44
   go_wp2_with (first | ((with_reducible refine gate_dst (N := 10) rfl ?_); refine box_event ?hg (N := 10) ?hd (cs := #[.slice A0 (l0.take 2000).length c0, .int .i64 0]) (t := 99) ?hr ?_; (case hd => rfl); (case hg => rfl); (case hr => first | (go_simp; done) | (go_simp; rfl)); intro gb102 hg w5 hbox hb; have n0_ := A_ (below_step HBW.out hb); have n1_ := sb_ hb; have n2_ := A_ (hbox); have n3_ := A_ ((by rw [hg]; exact (below_size (by repeat (first | (with_reducible first | exact HBW.out | apply below_alloc | apply pw_below_drewN | apply below_drew1) | exact HBW.out))) : w.heap.size ≤ gb102)); have n4_ := A_ ((Nat.le_trans HW0.out (by rw [hg]; exact (below_size (by repeat (first | (with_reducible first | exact HBW.out | apply below_alloc | apply pw_below_drewN | apply below_drew1) | exact HBW.out))) : w.heap.size ≤ gb102) : w0.heap.size ≤ gb102)); clear HBW; clear HB; have HBW := n0_; have HB := n1_; have BK102 := n2_; have GW102 := n3_; have GE102 := n4_; clear n0_ n1_ n2_ n3_ n4_; clear hb hbox hg))
   go_ret
   exact ⟨_, rfl, (show IsS99 w0 _ gb102 (l0.take 2000) 0 from ⟨_, _, by (with_reducible repeat (first | refine blk_drewN ?_ _ | refine blk_drew ?_ | refine blk_alloc ?_ _)); exact BK102.out, GE102.out, HR101.out⟩), hB_, by repeat (first | (with_reducible first | exact HBW.out | apply below_alloc | apply pw_below_drewN | apply below_drew1 | refine below_set ?_ GW102.out) | exact HBW.out)⟩
  ·rw [if_neg c3] at H; exact absurd H (by simp)
 ·rw [if_neg c2] at H; have c2b0 : decide (2000 < (l0.length : Int)) = false := decide_eq_false c2; have c2b1 : decide (2000 < l0.length) = false := decide_eq_false (by omega); clear c2; simp only [Option.some.injEq, Prod.mk.injEq] at H; obtain ⟨rfl, rfl⟩ := H; go_enter Try.func44, Try.ntmps44
  go_wp2_with (first | ((with_reducible refine gate_dst (N := 10) rfl ?_); refine box_event ?hg (N := 10) ?hd (cs := #[.slice A0 l0.length c0, .int .i64 0]) (t := 99) ?hr ?_; (case hd => rfl); (case hg => rfl); (case hr => first | (go_simp; done) | (go_simp; rfl)); intro gb103 hg w6 hbox hb; have n0_ := A_ (below_step HBW.out hb); have n1_ := sb_ hb; have n2_ := A_ (hbox); have n3_ := A_ ((by rw [hg]; exact (below_size (by repeat (first | (with_reducible first | exact HBW.out | apply below_alloc | apply pw_below_drewN | apply below_drew1) | exact HBW.out))) : w.heap.size ≤ gb103)); have n4_ := A_ ((Nat.le_trans HW0.out (by rw [hg]; exact (below_size (by repeat (first | (with_reducible first | exact HBW.out | apply below_alloc | apply pw_below_drewN | apply below_drew1) | exact HBW.out))) : w.heap.size ≤ gb103) : w0.heap.size ≤ gb103)); clear HBW; clear HB; have HBW := n0_; have HB := n1_; have BK103 := n2_; have GW103 := n3_; have GE103 := n4_; clear n0_ n1_ n2_ n3_ n4_; clear hb hbox hg))
  go_ret
  exact ⟨_, rfl, (show IsS99 w0 _ gb103 l0 0 from ⟨_, _, by (with_reducible repeat (first | refine blk_drewN ?_ _ | refine blk_drew ?_ | refine blk_alloc ?_ _)); exact BK103.out, GE103.out, HR0.out⟩), hB_, by repeat (first | (with_reducible first | exact HBW.out | apply below_alloc | apply pw_below_drewN | apply below_drew1 | refine below_set ?_ GW103.out) | exact HBW.out)⟩

end Go.Proofs.Ytehkklmacglelaa.PA
namespace Go.Proofs.Ytehkklmacglelaa.PA
open Go.RowKit Go.Proofs.YtehkklmacglelaaW.PrintWords Go.Proofs.YtehkklmacglelaaW.PrintLast Go.Proofs.YtehkklmacglelaaW.PrintMore
attribute [local go_sem] max2_int min2_int max_two min_two max_three min_three max_four min_four   -- for this text's walks alone
set_option linter.unusedVariables false
set_option linter.unusedSimpArgs false

/-! ### spec_l6Rd_pick: function 72 -/
def spec_l6Rd_pick.j0 : Nat → Int → Bool → List Int → Int → Option (Int × Int)
 | 0, _, _, _, _ => none
 | k + 1, x1, x24, x1000, x1001 => if x24 = true then (some (0, x1001)) else (if (wrap64 (x1001 - 1)) < (x1000.length : Int) then (if 0 ≤ (wrap64 (x1001 - 1)) then (if x1 = 0 then (none) else (some (Int.tmod (wrap64 (rd x1000 (wrap64 (x1001 - 1)))) x1, x1001))) else (none)) else (if (x1000.length : Int) = 0 then (none) else (if 0 ≤ (Int.tmod (wrap64 (x1001 - 1)) (x1000.length : Int)) then (if (Int.tmod (wrap64 (x1001 - 1)) (x1000.length : Int)) < (x1000.length : Int) then (if 0 ≤ (Int.tmod (wrap64 ((wrap64 ((wrap64 (x1001 - 1)) * 7)) + 3)) (x1000.length : Int)) then (if (Int.tmod (wrap64 ((wrap64 ((wrap64 (x1001 - 1)) * 7)) + 3)) (x1000.length : Int)) < (x1000.length : Int) then (if x1 = 0 then (none) else (some (Int.tmod (Go.bits .xor .i64 (wrap64 ((wrap64 ((wrap64 ((wrap64 ((wrap64 (rd x1000 (Int.tmod (wrap64 (x1001 - 1)) (x1000.length : Int)))) * 131)) + (wrap64 ((wrap64 (rd x1000 (Int.tmod (wrap64 ((wrap64 ((wrap64 (x1001 - 1)) * 7)) + 3)) (x1000.length : Int)))) * 1117)))) + (wrap64 ((wrap64 (x1001 - 1)) * 29)))) + (wrap64 ((wrap64 (Int.tdiv (wrap64 (x1001 - 1)) (x1000.length : Int))) * 53)))) (wrap64 (Int.tdiv (wrap64 ((wrap64 ((wrap64 ((wrap64 ((wrap64 (rd x1000 (Int.tmod (wrap64 (x1001 - 1)) (x1000.length : Int)))) * 131)) + (wrap64 ((wrap64 (rd x1000 (Int.tmod (wrap64 ((wrap64 ((wrap64 (x1001 - 1)) * 7)) + 3)) (x1000.length : Int)))) * 1117)))) + (wrap64 ((wrap64 (x1001 - 1)) * 29)))) + (wrap64 ((wrap64 (Int.tdiv (wrap64 (x1001 - 1)) (x1000.length : Int))) * 53)))) 64))) x1, x1001))) else (none)) else (none)) else (none)) else (none))))
def spec_l6Rd_pick.f (k : Nat) (s0_0 : List Int) (s0_1 : Int) (a1 : Int) : Option (Int × Int) := if a1 < 1 then (spec_l6Rd_pick.j0 k a1 true s0_0 (wrap64 (s0_1 + 1))) else (spec_l6Rd_pick.j0 k a1 ((s0_0.length : Int) == 0) s0_0 (wrap64 (s0_1 + 1)))
theorem spec_l6Rd_pick.mono_l : ∀ k, (∀ y0 y1 y2 y3, LeO (spec_l6Rd_pick.j0 k y0 y1 y2 y3) (spec_l6Rd_pick.j0 (k + 1) y0 y1 y2 y3))
 | 0 => fun _ _ _ _ r h => by simp [spec_l6Rd_pick.j0] at h
 | k + 1 => by
  have ih0 := spec_l6Rd_pick.mono_l k
  ·intro y0 y1 y2 y3; unfold spec_l6Rd_pick.j0; repeat' first
   | (with_reducible exact ih0 _ _ _ _)
   | (with_reducible exact LeO.refl _)
   | (with_reducible exact LeO.none _)
   | (with_reducible refine LeO.ite ?_ ?_)
   | (with_reducible refine LeO.bind ?_ (fun _ => ?_))
   | exact ih0 _ _ _ _
   | exact LeO.none _
   | refine LeO.ite ?_ ?_
   | refine LeO.bind ?_ (fun _ => ?_)
theorem spec_l6Rd_pick.mono : ∀ a0 a1 a2 k, LeO (spec_l6Rd_pick.f k a0 a1 a2) (spec_l6Rd_pick.f (k + 1) a0 a1 a2) := by
 intro a0 a1 a2 k; have ih0 := spec_l6Rd_pick.mono_l k; unfold spec_l6Rd_pick.f; repeat' first
   | (with_reducible exact ih0 _ _ _ _)
   | (with_reducible exact LeO.refl _)
   | (with_reducible exact LeO.none _)
   | (with_reducible refine LeO.ite ?_ ?_)
   | (with_reducible refine LeO.bind ?_ (fun _ => ?_))
   | exact ih0 _ _ _ _
   | exact LeO.none _
   | refine LeO.ite ?_ ?_
   | refine LeO.bind ?_ (fun _ => ?_)
set_option maxHeartbeats 8000000 in
set_option maxRecDepth 100000 in
theorem spec_l6Rd_pick.calls (k : Nat) (g : Nat) (s0_0 : List Int) (s0_1 : Int) (a1 : Int) (r1 : Int) (r2 : Int) (w0 w : World) (hI : IsS99 w0 w g s0_0 s0_1) (hB : Below w0.heap.size w0 w) (h : spec_l6Rd_pick.f k s0_0 s0_1 a1 = some (r1, r2)) :
  Calls Try.prog 72 #[.pointer (some ⟨g, 0, none⟩), .int .i64 a1] w fun e w' => e = .returned (.int .i64 r1) ∧ IsS99 w0 w' g s0_0 r2 ∧ Below w0.heap.size w0 w' ∧ KeepBut w w' g none := by
 have HI0 := A_ hI; have HK := A_ (KeepBut.refl w g none); have HL := A_ hB.size; clear hI; have HW0 := A_ hB.size; have HB := A_ hB; clear hB; have H : (if a1 < 1 then (spec_l6Rd_pick.j0 k a1 true s0_0 (wrap64 (s0_1 + 1))) else (spec_l6Rd_pick.j0 k a1 ((s0_0.length : Int) == 0) s0_0 (wrap64 (s0_1 + 1)))) = some (r1, r2) := h; clear h; have HC3 := A_ H; clear H; obtain ⟨ASz4_0, cSz4_0, HGz4, hgz4, HSz4_0⟩ := HI0.out; have hcz4_0 := cellS99_0 HGz4; have hcz4_1 := cellS99_1 HGz4; have hfz4_1 := blk_frozen HGz4 1; clear HGz4 hgz4; go_enter Try.func72, Try.ntmps72
 go_upto_region 2 with (fail)
 repeat (go_quiet (fail); go_upto_region 2 with (fail))
 go_cut [24] (fun v24 wc => ∃ (kq : Nat) (x24_2 : Bool), v24 = .bool x24_2 ∧ Aside0 (spec_l6Rd_pick.j0 kq a1 x24_2 s0_0 (wrap64 (s0_1 + 1)) = some (r1, r2)) ∧ Aside0 (kq ≤ k) ∧ Aside0 (IsS99 w0 wc g s0_0 (wrap64 (s0_1 + 1))) ∧ Aside0 (KeepBut w wc g none) ∧ Aside0 (Below w0.heap.size w0 wc))
 case first =>
  have H := HC3.out; clear HC3; by_cases c5 : a1 < 1
  ·rw [if_pos c5] at H; have c5b0 : decide (a1 < 1) = true := decide_eq_true c5; clear c5; (first | rw [c5b0] | (simp only [i64_w, i32_w]; rw [c5b0]) | skip); have H' := A_ H; clear H; go_wp2
   repeat (go_quiet (fail); try go_wp2)
   go_meet
   case rel => exact ⟨_, (true), (by first | rfl | (simp; done) | (simp [*]; done)), H', ⟨by first | omega | exact Nat.le_refl _⟩, ⟨hI_⟩, ⟨hK_⟩, ⟨hB_⟩⟩
  ·rw [if_neg c5] at H; have c5b0 : decide (a1 < 1) = false := decide_eq_false c5; clear c5; (first | rw [c5b0] | (simp only [i64_w, i32_w]; rw [c5b0]) | skip); have H' := A_ H; clear H; obtain ⟨ASz6_0, cSz6_0, HGz6, hgz6, HSz6_0⟩ := HI0.out; have hcz6_0 := cellS99_0 HGz6; have hcz6_1 := cellS99_1 HGz6; have hfz6_1 := blk_frozen HGz6 1; clear HGz6 hgz6; go_wp2
   repeat (go_quiet (fail); try go_wp2)
   go_meet
   case rel => exact ⟨_, (((s0_0.length : Int) == 0)), (by first | rfl | (simp; done) | (simp [*]; done)), H', ⟨by first | omega | exact Nat.le_refl _⟩, ⟨hI_⟩, ⟨hK_⟩, ⟨hB_⟩⟩
 case rest =>
  clear HC3; try clear p2
  try clear c5
  try clear c5b0
  try clear p6
  try clear hcz4_0
  try clear hcz4_1
  try clear hcz6_0
  try clear hcz6_1
  try clear hfz4_1
  try clear hfz6_1
  obtain ⟨kq, x24_2, rfl, HA, HJ2, HI0, HK, HB⟩ := hcut; cases kq with
  | zero => exact absurd HA.out (by simp [spec_l6Rd_pick.j0])
  | succ kj2 =>
   have H := HA.out; clear HA; simp only [spec_l6Rd_pick.j0] at H; by_cases c7 : x24_2 = true
   ·subst c7; have H1 : (some (0, (wrap64 (s0_1 + 1)))) = some (r1, r2) := by rw [if_pos rfl] at H; exact H
    clear H; have H := H1; clear H1; simp only [Option.some.injEq, Prod.mk.injEq] at H; obtain ⟨rfl, rfl⟩ := H; go_wp2
    repeat (go_quiet (fail); try go_wp2)
    go_ret
    exact ⟨by first | rfl | (simp [errW_none, errW_some] <;> rfl) | (simp [*, errW_none, errW_some] <;> rfl), hI_, hB_, hK_⟩
   ·replace c7 := Bool.eq_false_iff.mpr c7; subst c7; have H1 : (if (wrap64 ((wrap64 (s0_1 + 1)) - 1)) < (s0_0.length : Int) then (if 0 ≤ (wrap64 ((wrap64 (s0_1 + 1)) - 1)) then (if a1 = 0 then (none) else (some (Int.tmod (wrap64 (rd s0_0 (wrap64 ((wrap64 (s0_1 + 1)) - 1)))) a1, (wrap64 (s0_1 + 1))))) else (none)) else (if (s0_0.length : Int) = 0 then (none) else (if 0 ≤ (Int.tmod (wrap64 ((wrap64 (s0_1 + 1)) - 1)) (s0_0.length : Int)) then (if (Int.tmod (wrap64 ((wrap64 (s0_1 + 1)) - 1)) (s0_0.length : Int)) < (s0_0.length : Int) then (if 0 ≤ (Int.tmod (wrap64 ((wrap64 ((wrap64 ((wrap64 (s0_1 + 1)) - 1)) * 7)) + 3)) (s0_0.length : Int)) then (if (Int.tmod (wrap64 ((wrap64 ((wrap64 ((wrap64 (s0_1 + 1)) - 1)) * 7)) + 3)) (s0_0.length : Int)) < (s0_0.length : Int) then (if a1 = 0 then (none) else (some (Int.tmod (Go.bits .xor .i64 (wrap64 ((wrap64 ((wrap64 ((wrap64 ((wrap64 (rd s0_0 (Int.tmod (wrap64 ((wrap64 (s0_1 + 1)) - 1)) (s0_0.length : Int)))) * 131)) + (wrap64 ((wrap64 (rd s0_0 (Int.tmod (wrap64 ((wrap64 ((wrap64 ((wrap64 (s0_1 + 1)) - 1)) * 7)) + 3)) (s0_0.length : Int)))) * 1117)))) + (wrap64 ((wrap64 ((wrap64 (s0_1 + 1)) - 1)) * 29)))) + (wrap64 ((wrap64 (Int.tdiv (wrap64 ((wrap64 (s0_1 + 1)) - 1)) (s0_0.length : Int))) * 53)))) (wrap64 (Int.tdiv (wrap64 ((wrap64 ((wrap64 ((wrap64 ((wrap64 (rd s0_0 (Int.tmod (wrap64 ((wrap64 (s0_1 + 1)) - 1)) (s0_0.length : Int)))) * 131)) + (wrap64 ((wrap64 (rd s0_0 (Int.tmod (wrap64 ((wrap64 ((wrap64 ((wrap64 (s0_1 + 1)) - 1)) * 7)) + 3)) (s0_0.length : Int)))) * 1117)))) + (wrap64 ((wrap64 ((wrap64 (s0_1 + 1)) - 1)) * 29)))) + (wrap64 ((wrap64 (Int.tdiv (wrap64 ((wrap64 (s0_1 + 1)) - 1)) (s0_0.length : Int))) * 53)))) 64))) a1, (wrap64 (s0_1 + 1))))) else (none)) else (none)) else (none)) else (none)))) = some (r1, r2) := by rw [if_neg (show ¬ (false = true) by decide)] at H; exact H
    clear H; have H := H1; clear H1; by_cases c8 : (wrap64 ((wrap64 (s0_1 + 1)) - 1)) < (s0_0.length : Int)
    ·rw [if_pos c8] at H; have c8b0 : decide ((wrap64 ((wrap64 (s0_1 + 1)) - 1)) < (s0_0.length : Int)) = true := decide_eq_true c8; clear c8; obtain ⟨ji9, hji9⟩ : ∃ j_ : Int, (wrap64 ((wrap64 (s0_1 + 1)) - 1)) = j_ := ⟨_, rfl⟩; replace H : (if 0 ≤ (ji9) then (if a1 = 0 then (none) else (some (Int.tmod (wrap64 (rd s0_0 (ji9))) a1, (wrap64 (s0_1 + 1))))) else (none)) = some (r1, r2) := by first | (rw [hji9] at H; exact H) | (simp only [hji9] at H ⊢; exact H)
     (try rw [hji9] at c8b0); have hji9w : (IntKind.i64.wrap ((wrap64 (s0_1 + 1)) - 1)) = ji9 := (i64_w _).trans hji9; by_cases c10 : 0 ≤ (ji9)
     ·rw [if_pos c10] at H; have c10b0 : decide (0 ≤ (ji9)) = true := decide_eq_true c10; clear c10; by_cases c11 : a1 = 0
      ·rw [if_pos c11] at H; exact absurd H (by simp)
      ·rw [if_neg c11] at H; have c11b0 : (a1 == 0) = false := beq_eq_false_iff_ne.mpr c11; have c11b1 : (a1 != 0) = true := bne_iff_ne.mpr c11; simp only [Option.some.injEq, Prod.mk.injEq] at H; obtain ⟨rfl, rfl⟩ := H; obtain ⟨ASz12_0, cSz12_0, HGz12, hgz12, HSz12_0⟩ := HI0.out; have hcz12_0 := cellS99_0 HGz12; have hcz12_1 := cellS99_1 HGz12; have hfz12_1 := blk_frozen HGz12 1; clear HGz12 hgz12; have p104 : 0 ≤ ((ji9) : Int) := of_decide_eq_true (by first | (with_reducible assumption) | assumption); have q104 : (ji9) < (s0_0.length : Int) := of_decide_eq_true (by first | (with_reducible assumption) | assumption); obtain ⟨ad104, e104, hx104_0⟩ := Kd.at_int HSz12_0 (ji9) p104 q104; cases e104; replace hx104_0 := pw_cell_below HB.out hx104_0; replace p104 := eq_true p104; replace q104 := eq_true q104; go_wp2
       repeat (go_quiet (fail); try go_wp2)
       go_ret
       exact ⟨by first | rfl | (simp [errW_none, errW_some] <;> rfl) | (simp only [← hji9]; first | rfl | (simp [errW_none, errW_some] <;> rfl)) | (simp [*, errW_none, errW_some] <;> rfl), hI_, hB_, hK_⟩
     ·rw [if_neg c10] at H; exact absurd H (by simp)
    ·rw [if_neg c8] at H; have c8b0 : decide ((wrap64 ((wrap64 (s0_1 + 1)) - 1)) < (s0_0.length : Int)) = false := decide_eq_false c8; clear c8; by_cases c13 : (s0_0.length : Int) = 0
     ·rw [if_pos c13] at H; exact absurd H (by simp)
     ·rw [if_neg c13] at H; have c13b0 : ((s0_0.length : Int) == 0) = false := beq_eq_false_iff_ne.mpr c13; have c13b1 : ((s0_0.length : Int) != 0) = true := bne_iff_ne.mpr c13; have c13b2 : ¬ (s0_0 = []) := fun h_ => c13 (by rw [h_]; rfl)
      obtain ⟨ji14, hji14⟩ : ∃ j_ : Int, (Int.tmod (wrap64 ((wrap64 (s0_1 + 1)) - 1)) (s0_0.length : Int)) = j_ := ⟨_, rfl⟩; replace H : (if 0 ≤ (ji14) then (if (ji14) < (s0_0.length : Int) then (if 0 ≤ (Int.tmod (wrap64 ((wrap64 ((wrap64 ((wrap64 (s0_1 + 1)) - 1)) * 7)) + 3)) (s0_0.length : Int)) then (if (Int.tmod (wrap64 ((wrap64 ((wrap64 ((wrap64 (s0_1 + 1)) - 1)) * 7)) + 3)) (s0_0.length : Int)) < (s0_0.length : Int) then (if a1 = 0 then (none) else (some (Int.tmod (Go.bits .xor .i64 (wrap64 ((wrap64 ((wrap64 ((wrap64 ((wrap64 (rd s0_0 (ji14))) * 131)) + (wrap64 ((wrap64 (rd s0_0 (Int.tmod (wrap64 ((wrap64 ((wrap64 ((wrap64 (s0_1 + 1)) - 1)) * 7)) + 3)) (s0_0.length : Int)))) * 1117)))) + (wrap64 ((wrap64 ((wrap64 (s0_1 + 1)) - 1)) * 29)))) + (wrap64 ((wrap64 (Int.tdiv (wrap64 ((wrap64 (s0_1 + 1)) - 1)) (s0_0.length : Int))) * 53)))) (wrap64 (Int.tdiv (wrap64 ((wrap64 ((wrap64 ((wrap64 ((wrap64 (rd s0_0 (ji14))) * 131)) + (wrap64 ((wrap64 (rd s0_0 (Int.tmod (wrap64 ((wrap64 ((wrap64 ((wrap64 (s0_1 + 1)) - 1)) * 7)) + 3)) (s0_0.length : Int)))) * 1117)))) + (wrap64 ((wrap64 ((wrap64 (s0_1 + 1)) - 1)) * 29)))) + (wrap64 ((wrap64 (Int.tdiv (wrap64 ((wrap64 (s0_1 + 1)) - 1)) (s0_0.length : Int))) * 53)))) 64))) a1, (wrap64 (s0_1 + 1))))) else (none)) else (none)) else (none)) else (none)) = some (r1, r2) := by first | (rw [hji14] at H; exact H) | (simp only [hji14] at H ⊢; exact H)
      by_cases c15 : 0 ≤ (ji14)
      ·rw [if_pos c15] at H; have c15b0 : decide (0 ≤ (ji14)) = true := decide_eq_true c15; clear c15; by_cases c16 : (ji14) < (s0_0.length : Int)
       ·rw [if_pos c16] at H; have c16b0 : decide ((ji14) < (s0_0.length : Int)) = true := decide_eq_true c16; clear c16; obtain ⟨ji17, hji17⟩ : ∃ j_ : Int, (Int.tmod (wrap64 ((wrap64 ((wrap64 ((wrap64 (s0_1 + 1)) - 1)) * 7)) + 3)) (s0_0.length : Int)) = j_ := ⟨_, rfl⟩; replace H : (if 0 ≤ (ji17) then (if (ji17) < (s0_0.length : Int) then (if a1 = 0 then (none) else (some (Int.tmod (Go.bits .xor .i64 (wrap64 ((wrap64 ((wrap64 ((wrap64 ((wrap64 (rd s0_0 (ji14))) * 131)) + (wrap64 ((wrap64 (rd s0_0 (ji17))) * 1117)))) + (wrap64 ((wrap64 ((wrap64 (s0_1 + 1)) - 1)) * 29)))) + (wrap64 ((wrap64 (Int.tdiv (wrap64 ((wrap64 (s0_1 + 1)) - 1)) (s0_0.length : Int))) * 53)))) (wrap64 (Int.tdiv (wrap64 ((wrap64 ((wrap64 ((wrap64 ((wrap64 (rd s0_0 (ji14))) * 131)) + (wrap64 ((wrap64 (rd s0_0 (ji17))) * 1117)))) + (wrap64 ((wrap64 ((wrap64 (s0_1 + 1)) - 1)) * 29)))) + (wrap64 ((wrap64 (Int.tdiv (wrap64 ((wrap64 (s0_1 + 1)) - 1)) (s0_0.length : Int))) * 53)))) 64))) a1, (wrap64 (s0_1 + 1))))) else (none)) else (none)) = some (r1, r2) := by first | (rw [hji17] at H; exact H) | (simp only [hji17] at H ⊢; exact H)
        by_cases c18 : 0 ≤ (ji17)
        ·rw [if_pos c18] at H; have c18b0 : decide (0 ≤ (ji17)) = true := decide_eq_true c18; clear c18; by_cases c19 : (ji17) < (s0_0.length : Int)
         ·rw [if_pos c19] at H; have c19b0 : decide ((ji17) < (s0_0.length : Int)) = true := decide_eq_true c19; clear c19; by_cases c20 : a1 = 0
          ·rw [if_pos c20] at H; exact absurd H (by simp)
          ·rw [if_neg c20] at H; have c20b0 : (a1 == 0) = false := beq_eq_false_iff_ne.mpr c20; have c20b1 : (a1 != 0) = true := bne_iff_ne.mpr c20; simp only [Option.some.injEq, Prod.mk.injEq] at H; obtain ⟨rfl, rfl⟩ := H; obtain ⟨ASz21_0, cSz21_0, HGz21, hgz21, HSz21_0⟩ := HI0.out; have hcz21_0 := cellS99_0 HGz21; have hcz21_1 := cellS99_1 HGz21; have hfz21_1 := blk_frozen HGz21 1; clear HGz21 hgz21; have p105 : 0 ≤ ((ji14) : Int) := of_decide_eq_true (by first | (with_reducible assumption) | assumption); have q105 : (ji14) < (s0_0.length : Int) := of_decide_eq_true (by first | (with_reducible assumption) | assumption); obtain ⟨ad105, e105, hx105_0⟩ := Kd.at_int HSz21_0 (ji14) p105 q105; cases e105; replace hx105_0 := pw_cell_below HB.out hx105_0; replace p105 := eq_true p105; replace q105 := eq_true q105; have p106 : 0 ≤ ((ji17) : Int) := of_decide_eq_true (by first | (with_reducible assumption) | assumption); have q106 : (ji17) < (s0_0.length : Int) := of_decide_eq_true (by first | (with_reducible assumption) | assumption); obtain ⟨ad106, e106, hx106_0⟩ := Kd.at_int HSz21_0 (ji17) p106 q106; obtain rfl : ad105 = ad106 := (by injection e106); replace hx106_0 := pw_cell_below HB.out hx106_0; replace p106 := eq_true p106; replace q106 := eq_true q106; go_wp2
           repeat (go_quiet (fail); try go_wp2)
           go_ret
           exact ⟨by first | rfl | (simp [errW_none, errW_some] <;> rfl) | (simp only [← hji14, ← hji17]; first | rfl | (simp [errW_none, errW_some] <;> rfl)) | (simp [*, errW_none, errW_some] <;> rfl), hI_, hB_, hK_⟩
         ·rw [if_neg c19] at H; exact absurd H (by simp)
        ·rw [if_neg c18] at H; exact absurd H (by simp)
       ·rw [if_neg c16] at H; exact absurd H (by simp)
      ·rw [if_neg c15] at H; exact absurd H (by simp)

end Go.Proofs.Ytehkklmacglelaa.PA
namespace Go.Proofs.Ytehkklmacglelaa.PA
open Go.RowKit Go.Proofs.YtehkklmacglelaaW.PrintWords Go.Proofs.YtehkklmacglelaaW.PrintLast Go.Proofs.YtehkklmacglelaaW.PrintMore
attribute [local go_sem] max2_int min2_int max_two min_two max_three min_three max_four min_four   -- for this text's walks alone
set_option linter.unusedVariables false
set_option linter.unusedSimpArgs false

/-! ### spec_l71Pt: function 46 -/
def spec_l71Pt.f (k : Nat) (s0_0 : List Int) (s0_1 : Int) : Option (Int × Int × Int) := (spec_l6Rd_pick.f k s0_0 s0_1 10).bind fun bt108 => ((spec_l6Rd_pick.f k s0_0 bt108.2 10).bind fun bt110 => ((spec_l6Rd_pick.f k s0_0 bt110.2 40).bind fun bt113 => (if bt113.1 = 0 then ((some (([(-1), 10] : List Int) : List Int)).bind fun y115 => ((spec_l6Rd_pick.f k s0_0 bt113.2 2).bind fun bt118 => (if 0 ≤ bt118.1 then (if bt118.1 < (y115.length : Int) then (some (rd y115 bt118.1, bt110.1, bt118.2)) else (none)) else (none)))) else (if bt113.1 = 1 then ((some (([(-1), 10] : List Int) : List Int)).bind fun y121 => ((spec_l6Rd_pick.f k s0_0 bt113.2 2).bind fun bt124 => (if 0 ≤ bt124.1 then (if bt124.1 < (y121.length : Int) then (some (bt108.1, rd y121 bt124.1, bt124.2)) else (none)) else (none)))) else (some (bt108.1, bt110.1, bt113.2))))))
theorem spec_l71Pt.mono : ∀ a0 a1 k, LeO (spec_l71Pt.f k a0 a1) (spec_l71Pt.f (k + 1) a0 a1) := by
 intro a0 a1 k; unfold spec_l71Pt.f; repeat' first
   | (with_reducible exact spec_l6Rd_pick.mono _ _ _ _)
   | (with_reducible exact LeO.refl _)
   | (with_reducible exact LeO.none _)
   | (with_reducible refine LeO.ite ?_ ?_)
   | (with_reducible refine LeO.bind ?_ (fun _ => ?_))
   | exact spec_l6Rd_pick.mono _ _ _ _
   | exact LeO.none _
   | refine LeO.ite ?_ ?_
   | refine LeO.bind ?_ (fun _ => ?_)
set_option maxHeartbeats 8000000 in
set_option maxRecDepth 100000 in
theorem spec_l71Pt.calls (k : Nat) (g : Nat) (s0_0 : List Int) (s0_1 : Int) (r1 : Int) (r2 : Int) (r3 : Int) (w0 w : World) (hI : IsS99 w0 w g s0_0 s0_1) (hB : Below w0.heap.size w0 w) (h : spec_l71Pt.f k s0_0 s0_1 = some (r1, r2, r3)) :
  Calls Try.prog 46 #[.pointer (some ⟨g, 0, none⟩)] w fun e w' => e = .returned (.agg #[.int .i64 r1, .int .i64 r2]) ∧ IsS99 w0 w' g s0_0 r3 ∧ Below w0.heap.size w0 w' ∧ KeepBut w w' g none := by
 have hu25 := Try.underlying25; have HI0 := A_ hI; have HK := A_ (KeepBut.refl w g none); have HL := A_ hB.size; clear hI; have HW0 := A_ hB.size; have HB := A_ hB; clear hB; have H : ((spec_l6Rd_pick.f k s0_0 s0_1 10).bind fun bt108 => ((spec_l6Rd_pick.f k s0_0 bt108.2 10).bind fun bt110 => ((spec_l6Rd_pick.f k s0_0 bt110.2 40).bind fun bt113 => (if bt113.1 = 0 then ((some (([(-1), 10] : List Int) : List Int)).bind fun y115 => ((spec_l6Rd_pick.f k s0_0 bt113.2 2).bind fun bt118 => (if 0 ≤ bt118.1 then (if bt118.1 < (y115.length : Int) then (some (rd y115 bt118.1, bt110.1, bt118.2)) else (none)) else (none)))) else (if bt113.1 = 1 then ((some (([(-1), 10] : List Int) : List Int)).bind fun y121 => ((spec_l6Rd_pick.f k s0_0 bt113.2 2).bind fun bt124 => (if 0 ≤ bt124.1 then (if bt124.1 < (y121.length : Int) then (some (bt108.1, rd y121 bt124.1, bt124.2)) else (none)) else (none)))) else (some (bt108.1, bt110.1, bt113.2))))))) = some (r1, r2, r3) := h; clear h; replace H := Option.bind_eq_some_iff.mp H; obtain ⟨⟨t108, t109⟩, A20, H⟩ := H; (try dsimp only at H); have A2 := A_ A20; clear A20; replace H := Option.bind_eq_some_iff.mp H; obtain ⟨⟨t110, t111⟩, A30, H⟩ := H; (try dsimp only at H); have A3 := A_ A30; clear A30; replace H := Option.bind_eq_some_iff.mp H; obtain ⟨⟨t113, t114⟩, A40, H⟩ := H; (try dsimp only at H); have A4 := A_ A40; clear A40; by_cases c5 : t113 = 0
 ·rw [if_pos c5] at H; have c5b0 : (t113 == 0) = true := beq_iff_eq.mpr c5; have c5b1 : (t113 != 0) = false := bne_eq_false_iff_eq.mpr c5; clear c5; obtain ⟨y115, hy115⟩ : ∃ y_ : List Int, y_ = (([(-1), 10] : List Int)) := ⟨_, rfl⟩; replace H : ((spec_l6Rd_pick.f k s0_0 t114 2).bind fun bt118 => (if 0 ≤ bt118.1 then (if bt118.1 < (y115.length : Int) then (some (rd y115 bt118.1, t110, bt118.2)) else (none)) else (none))) = some (r1, r2, r3) := by first | (rw [hy115]; with_reducible exact H) | (have H2_ := (Option.bind_some _ _).symm.trans H; rw [hy115]; with_reducible exact H2_) | (have H2_ := (Option.bind_some _ _).symm.trans H; with_reducible exact H2_) | with_reducible exact H | (rw [hy115]; exact H) | exact H
  have Ny115 := A_ hy115; clear hy115; replace H := Option.bind_eq_some_iff.mp H; obtain ⟨⟨t118, t119⟩, A60, H⟩ := H; (try dsimp only at H); have A6 := A_ A60; clear A60; by_cases c7 : 0 ≤ t118
  ·rw [if_pos c7] at H; have c7b0 : decide (0 ≤ t118) = true := decide_eq_true c7; clear c7; by_cases c8 : t118 < (y115.length : Int)
   ·rw [if_pos c8] at H; have c8b0 : decide (t118 < (y115.length : Int)) = true := decide_eq_true c8; clear c8; simp only [Option.some.injEq, Prod.mk.injEq] at H; obtain ⟨rfl, rfl, rfl⟩ := H; go_enter Try.func46, Try.ntmps46
    go_wp2_with (first | ((with_reducible refine gate_dst (N := 2) rfl ?_); refine box_event ?hg (N := 2) ?hd (cs := #[.int .i64 0, .int .i64 0]) (t := 25) ?hr ?_; (case hd => rfl); (case hg => rfl); (case hr => first | (go_simp; done) | (go_simp; rfl)); intro gb107 hg w9 hbox hb; have n0_ := A_ (IsS99.below hI_ hb); have n1_ := kb_ g hb; have n2_ := sb_ hb; have n3_ := A_ (hbox); have n4_ := A_ ((by rw [hg]; exact (keep_size (w := w) (g := g) (row := none) hK_) : w.heap.size ≤ gb107)); have n5_ := A_ ((Nat.le_trans HW0.out (by rw [hg]; exact (keep_size (w := w) (g := g) (row := none) hK_) : w.heap.size ≤ gb107) : w0.heap.size ≤ gb107)); have n6_ := A_ ((by rw [hg]; exact Nat.ne_of_lt (IsS99.lt (show IsS99 w0 _ g s0_0 s0_1 from hI_)) : g ≠ gb107)); have n7_ := A_ ((by rw [hg]; exact Nat.ne_of_gt (IsS99.lt (show IsS99 w0 _ g s0_0 s0_1 from hI_)) : gb107 ≠ g)); clear HI0; clear HK; clear HB; have HI0 := n0_; have HK := n1_; have HB := n2_; have BK107 := n3_; have GW107 := n4_; have GE107 := n5_; have NB0_107 := n6_; have NB107_0 := n7_; clear n0_ n1_ n2_ n3_ n4_ n5_ n6_ n7_; clear hb hbox hg) | ((with_reducible refine gate_callee (f := 72) rfl ?_); refine goesL_ (some 5) rfl rfl Try.func72 (by kernel_rfl) rfl #[.pointer (some ⟨g, 0, none⟩), .int .i64 10] rfl ga_ ?_; (with_reducible refine (spec_l6Rd_pick.calls k g s0_0 s0_1 10 t108 t109 w0 _ ?side1 ?side2 A2.out).mono ?_); (case side1 => repeat (first | (with_reducible first | exact HI0.out | apply IsS99.alloc | apply IsS99.drewN | apply IsS99.drew | apply IsS99.set_1 | refine IsS99.far ?_ NB0_107.out _) | exact HI0.out)); (case side2 => exact hB_); rintro e w10 ⟨rfl, hi, hb, hk⟩; refine ⟨_, rfl, ?_⟩; have n0_ := kw_ BK107.out hk NB107_0.out; have n1_ := A_ (KeepBut.trans hK_ hk (.inl rfl)); have n2_ := A_ (hb); have n3_ := A_ (hi); clear BK107 HK HB HI0; revert n0_ n1_ n2_ n3_; intro BK107 HK HB HI0; (try clear hb); (try clear hk); (try clear hi)) | ((with_reducible refine gate_callee (f := 72) rfl ?_); refine goesL_ (some 7) rfl rfl Try.func72 (by kernel_rfl) rfl #[.pointer (some ⟨g, 0, none⟩), .int .i64 10] rfl ga_ ?_; (with_reducible refine (spec_l6Rd_pick.calls k g s0_0 t109 10 t110 t111 w0 _ ?side1 ?side2 A3.out).mono ?_); (case side1 => repeat (first | (with_reducible first | exact HI0.out | apply IsS99.alloc | apply IsS99.drewN | apply IsS99.drew | apply IsS99.set_1 | refine IsS99.far ?_ NB0_107.out _) | exact HI0.out)); (case side2 => exact hB_); rintro e w11 ⟨rfl, hi, hb, hk⟩; refine ⟨_, rfl, ?_⟩; have n0_ := kw_ BK107.out hk NB107_0.out; have n1_ := A_ (KeepBut.trans hK_ hk (.inl rfl)); have n2_ := A_ (hb); have n3_ := A_ (hi); clear BK107 HK HB HI0; revert n0_ n1_ n2_ n3_; intro BK107 HK HB HI0; (try clear hb); (try clear hk); (try clear hi)) | ((with_reducible refine gate_dst (N := 3) rfl ?_); refine box_event ?hg (N := 3) ?hd (cs := #[.int .i64 0, .int .i64 0]) (t := 25) ?hr ?_; (case hd => rfl); (case hg => rfl); (case hr => first | (go_simp; done) | (go_simp; rfl)); intro gb112 hg w12 hbox hb; have n0_ := A_ (IsS99.below hI_ hb); have n1_ := bw_ BK107.out hb; have n2_ := kb_ g hb; have n3_ := sb_ hb; have n4_ := A_ (hbox); have n5_ := A_ ((by rw [hg]; exact (keep_size (w := w) (g := g) (row := none) hK_) : w.heap.size ≤ gb112)); have n6_ := A_ ((Nat.le_trans HW0.out (by rw [hg]; exact (keep_size (w := w) (g := g) (row := none) hK_) : w.heap.size ≤ gb112) : w0.heap.size ≤ gb112)); have n7_ := nl_ BK107.out hg; have n8_ := ng_ BK107.out hg; have n9_ := A_ ((by rw [hg]; exact Nat.ne_of_lt (IsS99.lt (show IsS99 w0 _ g s0_0 t111 from hI_)) : g ≠ gb112)); have n10_ := A_ ((by rw [hg]; exact Nat.ne_of_gt (IsS99.lt (show IsS99 w0 _ g s0_0 t111 from hI_)) : gb112 ≠ g)); clear HI0; clear BK107; clear HK; clear HB; have HI0 := n0_; have BK107 := n1_; have HK := n2_; have HB := n3_; have BK112 := n4_; have GW112 := n5_; have GE112 := n6_; have NB107_112 := n7_; have NB112_107 := n8_; have NB0_112 := n9_; have NB112_0 := n10_; clear n0_ n1_ n2_ n3_ n4_ n5_ n6_ n7_ n8_ n9_ n10_; clear hb hbox hg; have hnb13 := NB112_107.out; have hnc13 := NB107_112.out; have hnb14 := NB112_0.out; have hnc14 := NB0_112.out; obtain ⟨hcz15_0, hcz15_1, hfz15_0, hfz15_1⟩ := by2 BK112.out) | ((with_reducible refine gate_callee (f := 72) rfl ?_); refine goesL_ (some 10) rfl rfl Try.func72 (by kernel_rfl) rfl #[.pointer (some ⟨g, 0, none⟩), .int .i64 40] rfl ga_ ?_; (with_reducible refine (spec_l6Rd_pick.calls k g s0_0 t111 40 t113 t114 w0 _ ?side1 ?side2 A4.out).mono ?_); (case side1 => repeat (first | (with_reducible first | exact HI0.out | apply IsS99.alloc | apply IsS99.drewN | apply IsS99.drew | apply IsS99.set_1 | refine IsS99.far ?_ NB0_107.out _ | refine IsS99.far ?_ NB0_112.out _) | exact HI0.out)); (case side2 => exact hB_); rintro e w16 ⟨rfl, hi, hb, hk⟩; refine ⟨_, rfl, ?_⟩; have n0_ := kw_ BK107.out hk NB107_0.out; have n1_ := A_ (KeepBut.blk hk (g' := gb112) (o := .cells #[.int .i64 t108, .int .i64 t110] 25 (0, 0)) (by (with_reducible repeat (first | refine blk_drewN ?_ _ | refine blk_drew ?_ | refine blk_alloc ?_ _)); refine blk_put (cs := #[.int .i64 t108, .int .i64 0]) ?_ 1 _ rfl; (with_reducible repeat (first | refine blk_drewN ?_ _ | refine blk_drew ?_ | refine blk_alloc ?_ _)); refine blk_put (cs := #[.int .i64 0, .int .i64 0]) ?_ 0 _ rfl; (with_reducible repeat (first | refine blk_drewN ?_ _ | refine blk_drew ?_ | refine blk_alloc ?_ _)); exact BK112.out) NB112_0.out (by simp)); have n2_ := A_ (KeepBut.trans hK_ hk (.inl rfl)); have n3_ := A_ (hb); have n4_ := A_ (hi); clear BK107 BK112 HK HB HI0; revert n0_ n1_ n2_ n3_ n4_; intro BK107 BK112 HK HB HI0; (try clear hb); (try clear hk); (try clear hi)) | ((with_reducible refine gate_dst (N := 13) rfl ?_); refine Kd.R_lit (Kd.int .i64) _ 3 ?hg (N := 13) ?hd (xs := ([(-1), 10] : List Int)) (inner := [.int .i64 (-1), .int .i64 10]) (ok := fun _ => True) (okp := fun _ => True) ?hr ?hp (fun _ hk => hk) trivial (Below.refl _ _) (Nat.le_refl _) (by simp) ?_; (case hd => rfl); (case hg => rfl); (case hr => first | (go_simp; done) | (go_simp; rfl)); (case hp => exact (Reps.one (show Kd.M (Kd.int .i64) _ _ _ (-1) [.int .i64 (-1)] from rfl) (Reps.one (show Kd.M (Kd.int .i64) _ _ _ 10 [.int .i64 10] from rfl) (Reps.none _ _)))); intro v116 w17 ho18 hb hg_ hnew_; clear hg_ hnew_; (first | rw [← Ny115.out] at ho18 | (simp only [Int.reduceToNat] at ho18; rw [← Ny115.out] at ho18)); have n0_ := A_ (Kd.R_lower ho18 (keep_size (w := w) (g := g) (row := none) hK_)); have n1_ := A_ (IsS99.below hI_ hb); have n2_ := bw_ BK107.out hb; have n3_ := bw_ BK112.out hb; have n4_ := kb_ g hb; have n5_ := sb_ hb; clear HI0; clear BK107; clear BK112; clear HK; clear HB; have HO117 := n0_; have HI0 := n1_; have BK107 := n2_; have BK112 := n3_; have HK := n4_; have HB := n5_; clear n0_ n1_ n2_ n3_ n4_ n5_; clear hb ho18) | ((with_reducible refine gate_callee (f := 72) rfl ?_); refine goesL_ (some 15) rfl rfl Try.func72 (by kernel_rfl) rfl #[.pointer (some ⟨g, 0, none⟩), .int .i64 2] rfl ga_ ?_; (with_reducible refine (spec_l6Rd_pick.calls k g s0_0 t114 2 t118 t119 w0 _ ?side1 ?side2 A6.out).mono ?_); (case side1 => repeat (first | (with_reducible first | exact HI0.out | apply IsS99.alloc | apply IsS99.drewN | apply IsS99.drew | apply IsS99.set_1 | refine IsS99.far ?_ NB0_107.out _ | refine IsS99.far ?_ NB0_112.out _) | exact HI0.out)); (case side2 => exact hB_); rintro e w19 ⟨rfl, hi, hb, hk⟩; refine ⟨_, rfl, ?_⟩; have n0_ := kw_ BK107.out hk NB107_0.out; have n1_ := kw_ BK112.out hk NB112_0.out; have n2_ := A_ (Kd.R_mono (Kd.R_keep (IsS99.apart (show IsS99 w0 _ g s0_0 t114 from hI_) (pR_ HO117.out) (by decide)) hk (fun _ h => h.2)) (fun _ h => h.1)); have n3_ := A_ (KeepBut.trans hK_ hk (.inl rfl)); have n4_ := A_ (hb); have n5_ := A_ (hi); clear BK107 BK112 HO117 HK HB HI0; revert n0_ n1_ n2_ n3_ n4_ n5_; intro BK107 BK112 HO117 HK HB HI0; (try clear hb); (try clear hk); (try clear hi); obtain ⟨Ao20, co20, eo20⟩ := Kd.R_slice HO117.out; subst eo20; have p120 : 0 ≤ (t118 : Int) := of_decide_eq_true (by first | (with_reducible assumption) | assumption); have q120 : t118 < (y115.length : Int) := of_decide_eq_true (by first | (with_reducible assumption) | assumption); obtain ⟨ad120, e120, hx120_0⟩ := Kd.at_int (Kd.R_reads' HO117.out).2.2 t118 p120 q120; cases e120; replace p120 := eq_true p120; replace q120 := eq_true q120; obtain ⟨hcz21_0, hcz21_1, hfz21_0, hfz21_1⟩ := by2 BK112.out; have hnb22 := NB107_0.out; have hnc22 := NB0_107.out; obtain ⟨hcz23_0, hcz23_1, hfz23_0, hfz23_1⟩ := by2 BK107.out))
    refine bodyPost_ret (results_cell_row rfl _ _ gb107 25 #[.int .i64 (rd y115 t118), .int .i64 t110] (0, 0) _ rfl (by (with_reducible repeat (first | refine blk_drewN ?_ _ | refine blk_drew ?_ | refine blk_alloc ?_ _)); refine blk_put (cs := #[.int .i64 (rd y115 t118), .int .i64 0]) ?_ 1 _ rfl; (with_reducible repeat (first | refine blk_drewN ?_ _ | refine blk_drew ?_ | refine blk_alloc ?_ _)); refine blk_put (cs := #[.int .i64 0, .int .i64 0]) ?_ 0 _ rfl; (with_reducible repeat (first | refine blk_drewN ?_ _ | refine blk_drew ?_ | refine blk_alloc ?_ _)); refine blk_far ?_ NB107_112.out _; (with_reducible repeat (first | refine blk_drewN ?_ _ | refine blk_drew ?_ | refine blk_alloc ?_ _)); exact BK107.out) Try.underlying25 rfl (by kernel_rfl)) rfl ?_; exact ⟨by first | rfl | (simp [errW_none, errW_some] <;> rfl) | (simp [*, errW_none, errW_some] <;> rfl), hI_, hB_, hK_⟩
   ·rw [if_neg c8] at H; exact absurd H (by simp)
  ·rw [if_neg c7] at H; exact absurd H (by simp)
 ·rw [if_neg c5] at H; have c5b0 : (t113 == 0) = false := beq_eq_false_iff_ne.mpr c5; have c5b1 : (t113 != 0) = true := bne_iff_ne.mpr c5; by_cases c24 : t113 = 1
  ·rw [if_pos c24] at H; have c24b0 : (t113 == 1) = true := beq_iff_eq.mpr c24; have c24b1 : (t113 != 1) = false := bne_eq_false_iff_eq.mpr c24; clear c24; obtain ⟨y121, hy121⟩ : ∃ y_ : List Int, y_ = (([(-1), 10] : List Int)) := ⟨_, rfl⟩; replace H : ((spec_l6Rd_pick.f k s0_0 t114 2).bind fun bt124 => (if 0 ≤ bt124.1 then (if bt124.1 < (y121.length : Int) then (some (t108, rd y121 bt124.1, bt124.2)) else (none)) else (none))) = some (r1, r2, r3) := by first | (rw [hy121]; with_reducible exact H) | (have H2_ := (Option.bind_some _ _).symm.trans H; rw [hy121]; with_reducible exact H2_) | (have H2_ := (Option.bind_some _ _).symm.trans H; with_reducible exact H2_) | with_reducible exact H | (rw [hy121]; exact H) | exact H
   have Ny121 := A_ hy121; clear hy121; replace H := Option.bind_eq_some_iff.mp H; obtain ⟨⟨t124, t125⟩, A250, H⟩ := H; (try dsimp only at H); have A25 := A_ A250; clear A250; by_cases c26 : 0 ≤ t124
   ·rw [if_pos c26] at H; have c26b0 : decide (0 ≤ t124) = true := decide_eq_true c26; clear c26; by_cases c27 : t124 < (y121.length : Int)
    ·rw [if_pos c27] at H; have c27b0 : decide (t124 < (y121.length : Int)) = true := decide_eq_true c27; clear c27; simp only [Option.some.injEq, Prod.mk.injEq] at H; obtain ⟨rfl, rfl, rfl⟩ := H; go_enter Try.func46, Try.ntmps46
     go_wp2_with (first | ((with_reducible refine gate_dst (N := 2) rfl ?_); refine box_event ?hg (N := 2) ?hd (cs := #[.int .i64 0, .int .i64 0]) (t := 25) ?hr ?_; (case hd => rfl); (case hg => rfl); (case hr => first | (go_simp; done) | (go_simp; rfl)); intro gb107 hg w28 hbox hb; have n0_ := A_ (IsS99.below hI_ hb); have n1_ := kb_ g hb; have n2_ := sb_ hb; have n3_ := A_ (hbox); have n4_ := A_ ((by rw [hg]; exact (keep_size (w := w) (g := g) (row := none) hK_) : w.heap.size ≤ gb107)); have n5_ := A_ ((Nat.le_trans HW0.out (by rw [hg]; exact (keep_size (w := w) (g := g) (row := none) hK_) : w.heap.size ≤ gb107) : w0.heap.size ≤ gb107)); have n6_ := A_ ((by rw [hg]; exact Nat.ne_of_lt (IsS99.lt (show IsS99 w0 _ g s0_0 s0_1 from hI_)) : g ≠ gb107)); have n7_ := A_ ((by rw [hg]; exact Nat.ne_of_gt (IsS99.lt (show IsS99 w0 _ g s0_0 s0_1 from hI_)) : gb107 ≠ g)); clear HI0; clear HK; clear HB; have HI0 := n0_; have HK := n1_; have HB := n2_; have BK107 := n3_; have GW107 := n4_; have GE107 := n5_; have NB0_107 := n6_; have NB107_0 := n7_; clear n0_ n1_ n2_ n3_ n4_ n5_ n6_ n7_; clear hb hbox hg) | ((with_reducible refine gate_callee (f := 72) rfl ?_); refine goesL_ (some 5) rfl rfl Try.func72 (by kernel_rfl) rfl #[.pointer (some ⟨g, 0, none⟩), .int .i64 10] rfl ga_ ?_; (with_reducible refine (spec_l6Rd_pick.calls k g s0_0 s0_1 10 t108 t109 w0 _ ?side1 ?side2 A2.out).mono ?_); (case side1 => repeat (first | (with_reducible first | exact HI0.out | apply IsS99.alloc | apply IsS99.drewN | apply IsS99.drew | apply IsS99.set_1 | refine IsS99.far ?_ NB0_107.out _) | exact HI0.out)); (case side2 => exact hB_); rintro e w29 ⟨rfl, hi, hb, hk⟩; refine ⟨_, rfl, ?_⟩; have n0_ := kw_ BK107.out hk NB107_0.out; have n1_ := A_ (KeepBut.trans hK_ hk (.inl rfl)); have n2_ := A_ (hb); have n3_ := A_ (hi); clear BK107 HK HB HI0; revert n0_ n1_ n2_ n3_; intro BK107 HK HB HI0; (try clear hb); (try clear hk); (try clear hi)) | ((with_reducible refine gate_callee (f := 72) rfl ?_); refine goesL_ (some 7) rfl rfl Try.func72 (by kernel_rfl) rfl #[.pointer (some ⟨g, 0, none⟩), .int .i64 10] rfl ga_ ?_; (with_reducible refine (spec_l6Rd_pick.calls k g s0_0 t109 10 t110 t111 w0 _ ?side1 ?side2 A3.out).mono ?_); (case side1 => repeat (first | (with_reducible first | exact HI0.out | apply IsS99.alloc | apply IsS99.drewN | apply IsS99.drew | apply IsS99.set_1 | refine IsS99.far ?_ NB0_107.out _) | exact HI0.out)); (case side2 => exact hB_); rintro e w30 ⟨rfl, hi, hb, hk⟩; refine ⟨_, rfl, ?_⟩; have n0_ := kw_ BK107.out hk NB107_0.out; have n1_ := A_ (KeepBut.trans hK_ hk (.inl rfl)); have n2_ := A_ (hb); have n3_ := A_ (hi); clear BK107 HK HB HI0; revert n0_ n1_ n2_ n3_; intro BK107 HK HB HI0; (try clear hb); (try clear hk); (try clear hi)) | ((with_reducible refine gate_dst (N := 3) rfl ?_); refine box_event ?hg (N := 3) ?hd (cs := #[.int .i64 0, .int .i64 0]) (t := 25) ?hr ?_; (case hd => rfl); (case hg => rfl); (case hr => first | (go_simp; done) | (go_simp; rfl)); intro gb112 hg w31 hbox hb; have n0_ := A_ (IsS99.below hI_ hb); have n1_ := bw_ BK107.out hb; have n2_ := kb_ g hb; have n3_ := sb_ hb; have n4_ := A_ (hbox); have n5_ := A_ ((by rw [hg]; exact (keep_size (w := w) (g := g) (row := none) hK_) : w.heap.size ≤ gb112)); have n6_ := A_ ((Nat.le_trans HW0.out (by rw [hg]; exact (keep_size (w := w) (g := g) (row := none) hK_) : w.heap.size ≤ gb112) : w0.heap.size ≤ gb112)); have n7_ := nl_ BK107.out hg; have n8_ := ng_ BK107.out hg; have n9_ := A_ ((by rw [hg]; exact Nat.ne_of_lt (IsS99.lt (show IsS99 w0 _ g s0_0 t111 from hI_)) : g ≠ gb112)); have n10_ := A_ ((by rw [hg]; exact Nat.ne_of_gt (IsS99.lt (show IsS99 w0 _ g s0_0 t111 from hI_)) : gb112 ≠ g)); clear HI0; clear BK107; clear HK; clear HB; have HI0 := n0_; have BK107 := n1_; have HK := n2_; have HB := n3_; have BK112 := n4_; have GW112 := n5_; have GE112 := n6_; have NB107_112 := n7_; have NB112_107 := n8_; have NB0_112 := n9_; have NB112_0 := n10_; clear n0_ n1_ n2_ n3_ n4_ n5_ n6_ n7_ n8_ n9_ n10_; clear hb hbox hg; have hnb32 := NB112_107.out; have hnc32 := NB107_112.out; have hnb33 := NB112_0.out; have hnc33 := NB0_112.out; obtain ⟨hcz34_0, hcz34_1, hfz34_0, hfz34_1⟩ := by2 BK112.out) | ((with_reducible refine gate_callee (f := 72) rfl ?_); refine goesL_ (some 10) rfl rfl Try.func72 (by kernel_rfl) rfl #[.pointer (some ⟨g, 0, none⟩), .int .i64 40] rfl ga_ ?_; (with_reducible refine (spec_l6Rd_pick.calls k g s0_0 t111 40 t113 t114 w0 _ ?side1 ?side2 A4.out).mono ?_); (case side1 => repeat (first | (with_reducible first | exact HI0.out | apply IsS99.alloc | apply IsS99.drewN | apply IsS99.drew | apply IsS99.set_1 | refine IsS99.far ?_ NB0_107.out _ | refine IsS99.far ?_ NB0_112.out _) | exact HI0.out)); (case side2 => exact hB_); rintro e w35 ⟨rfl, hi, hb, hk⟩; refine ⟨_, rfl, ?_⟩; have n0_ := kw_ BK107.out hk NB107_0.out; have n1_ := A_ (KeepBut.blk hk (g' := gb112) (o := .cells #[.int .i64 t108, .int .i64 t110] 25 (0, 0)) (by (with_reducible repeat (first | refine blk_drewN ?_ _ | refine blk_drew ?_ | refine blk_alloc ?_ _)); refine blk_put (cs := #[.int .i64 t108, .int .i64 0]) ?_ 1 _ rfl; (with_reducible repeat (first | refine blk_drewN ?_ _ | refine blk_drew ?_ | refine blk_alloc ?_ _)); refine blk_put (cs := #[.int .i64 0, .int .i64 0]) ?_ 0 _ rfl; (with_reducible repeat (first | refine blk_drewN ?_ _ | refine blk_drew ?_ | refine blk_alloc ?_ _)); exact BK112.out) NB112_0.out (by simp)); have n2_ := A_ (KeepBut.trans hK_ hk (.inl rfl)); have n3_ := A_ (hb); have n4_ := A_ (hi); clear BK107 BK112 HK HB HI0; revert n0_ n1_ n2_ n3_ n4_; intro BK107 BK112 HK HB HI0; (try clear hb); (try clear hk); (try clear hi)) | ((with_reducible refine gate_dst (N := 21) rfl ?_); refine Kd.R_lit (Kd.int .i64) _ 3 ?hg (N := 21) ?hd (xs := ([(-1), 10] : List Int)) (inner := [.int .i64 (-1), .int .i64 10]) (ok := fun _ => True) (okp := fun _ => True) ?hr ?hp (fun _ hk => hk) trivial (Below.refl _ _) (Nat.le_refl _) (by simp) ?_; (case hd => rfl); (case hg => rfl); (case hr => first | (go_simp; done) | (go_simp; rfl)); (case hp => exact (Reps.one (show Kd.M (Kd.int .i64) _ _ _ (-1) [.int .i64 (-1)] from rfl) (Reps.one (show Kd.M (Kd.int .i64) _ _ _ 10 [.int .i64 10] from rfl) (Reps.none _ _)))); intro v122 w36 ho37 hb hg_ hnew_; clear hg_ hnew_; (first | rw [← Ny121.out] at ho37 | (simp only [Int.reduceToNat] at ho37; rw [← Ny121.out] at ho37)); have n0_ := A_ (Kd.R_lower ho37 (keep_size (w := w) (g := g) (row := none) hK_)); have n1_ := A_ (IsS99.below hI_ hb); have n2_ := bw_ BK107.out hb; have n3_ := bw_ BK112.out hb; have n4_ := kb_ g hb; have n5_ := sb_ hb; clear HI0; clear BK107; clear BK112; clear HK; clear HB; have HO123 := n0_; have HI0 := n1_; have BK107 := n2_; have BK112 := n3_; have HK := n4_; have HB := n5_; clear n0_ n1_ n2_ n3_ n4_ n5_; clear hb ho37) | ((with_reducible refine gate_callee (f := 72) rfl ?_); refine goesL_ (some 23) rfl rfl Try.func72 (by kernel_rfl) rfl #[.pointer (some ⟨g, 0, none⟩), .int .i64 2] rfl ga_ ?_; (with_reducible refine (spec_l6Rd_pick.calls k g s0_0 t114 2 t124 t125 w0 _ ?side1 ?side2 A25.out).mono ?_); (case side1 => repeat (first | (with_reducible first | exact HI0.out | apply IsS99.alloc | apply IsS99.drewN | apply IsS99.drew | apply IsS99.set_1 | refine IsS99.far ?_ NB0_107.out _ | refine IsS99.far ?_ NB0_112.out _) | exact HI0.out)); (case side2 => exact hB_); rintro e w38 ⟨rfl, hi, hb, hk⟩; refine ⟨_, rfl, ?_⟩; have n0_ := kw_ BK107.out hk NB107_0.out; have n1_ := kw_ BK112.out hk NB112_0.out; have n2_ := A_ (Kd.R_mono (Kd.R_keep (IsS99.apart (show IsS99 w0 _ g s0_0 t114 from hI_) (pR_ HO123.out) (by decide)) hk (fun _ h => h.2)) (fun _ h => h.1)); have n3_ := A_ (KeepBut.trans hK_ hk (.inl rfl)); have n4_ := A_ (hb); have n5_ := A_ (hi); clear BK107 BK112 HO123 HK HB HI0; revert n0_ n1_ n2_ n3_ n4_ n5_; intro BK107 BK112 HO123 HK HB HI0; (try clear hb); (try clear hk); (try clear hi); obtain ⟨Ao39, co39, eo39⟩ := Kd.R_slice HO123.out; subst eo39; have p126 : 0 ≤ (t124 : Int) := of_decide_eq_true (by first | (with_reducible assumption) | assumption); have q126 : t124 < (y121.length : Int) := of_decide_eq_true (by first | (with_reducible assumption) | assumption); obtain ⟨ad126, e126, hx126_0⟩ := Kd.at_int (Kd.R_reads' HO123.out).2.2 t124 p126 q126; cases e126; replace p126 := eq_true p126; replace q126 := eq_true q126; obtain ⟨hcz40_0, hcz40_1, hfz40_0, hfz40_1⟩ := by2 BK112.out; have hnb41 := NB107_0.out; have hnc41 := NB0_107.out; obtain ⟨hcz42_0, hcz42_1, hfz42_0, hfz42_1⟩ := by2 BK107.out))
     refine bodyPost_ret (results_cell_row rfl _ _ gb107 25 #[.int .i64 t108, .int .i64 (rd y121 t124)] (0, 0) _ rfl (by (with_reducible repeat (first | refine blk_drewN ?_ _ | refine blk_drew ?_ | refine blk_alloc ?_ _)); refine blk_put (cs := #[.int .i64 t108, .int .i64 0]) ?_ 1 _ rfl; (with_reducible repeat (first | refine blk_drewN ?_ _ | refine blk_drew ?_ | refine blk_alloc ?_ _)); refine blk_put (cs := #[.int .i64 0, .int .i64 0]) ?_ 0 _ rfl; (with_reducible repeat (first | refine blk_drewN ?_ _ | refine blk_drew ?_ | refine blk_alloc ?_ _)); refine blk_far ?_ NB107_112.out _; (with_reducible repeat (first | refine blk_drewN ?_ _ | refine blk_drew ?_ | refine blk_alloc ?_ _)); exact BK107.out) Try.underlying25 rfl (by kernel_rfl)) rfl ?_; exact ⟨by first | rfl | (simp [errW_none, errW_some] <;> rfl) | (simp [*, errW_none, errW_some] <;> rfl), hI_, hB_, hK_⟩
    ·rw [if_neg c27] at H; exact absurd H (by simp)
   ·rw [if_neg c26] at H; exact absurd H (by simp)
  ·rw [if_neg c24] at H; have c24b0 : (t113 == 1) = false := beq_eq_false_iff_ne.mpr c24; have c24b1 : (t113 != 1) = true := bne_iff_ne.mpr c24; simp only [Option.some.injEq, Prod.mk.injEq] at H; obtain ⟨rfl, rfl, rfl⟩ := H; go_enter Try.func46, Try.ntmps46
   go_wp2_with (first | ((with_reducible refine gate_dst (N := 2) rfl ?_); refine box_event ?hg (N := 2) ?hd (cs := #[.int .i64 0, .int .i64 0]) (t := 25) ?hr ?_; (case hd => rfl); (case hg => rfl); (case hr => first | (go_simp; done) | (go_simp; rfl)); intro gb107 hg w43 hbox hb; have n0_ := A_ (IsS99.below hI_ hb); have n1_ := kb_ g hb; have n2_ := sb_ hb; have n3_ := A_ (hbox); have n4_ := A_ ((by rw [hg]; exact (keep_size (w := w) (g := g) (row := none) hK_) : w.heap.size ≤ gb107)); have n5_ := A_ ((Nat.le_trans HW0.out (by rw [hg]; exact (keep_size (w := w) (g := g) (row := none) hK_) : w.heap.size ≤ gb107) : w0.heap.size ≤ gb107)); have n6_ := A_ ((by rw [hg]; exact Nat.ne_of_lt (IsS99.lt (show IsS99 w0 _ g s0_0 s0_1 from hI_)) : g ≠ gb107)); have n7_ := A_ ((by rw [hg]; exact Nat.ne_of_gt (IsS99.lt (show IsS99 w0 _ g s0_0 s0_1 from hI_)) : gb107 ≠ g)); clear HI0; clear HK; clear HB; have HI0 := n0_; have HK := n1_; have HB := n2_; have BK107 := n3_; have GW107 := n4_; have GE107 := n5_; have NB0_107 := n6_; have NB107_0 := n7_; clear n0_ n1_ n2_ n3_ n4_ n5_ n6_ n7_; clear hb hbox hg) | ((with_reducible refine gate_callee (f := 72) rfl ?_); refine goesL_ (some 5) rfl rfl Try.func72 (by kernel_rfl) rfl #[.pointer (some ⟨g, 0, none⟩), .int .i64 10] rfl ga_ ?_; (with_reducible refine (spec_l6Rd_pick.calls k g s0_0 s0_1 10 t108 t109 w0 _ ?side1 ?side2 A2.out).mono ?_); (case side1 => repeat (first | (with_reducible first | exact HI0.out | apply IsS99.alloc | apply IsS99.drewN | apply IsS99.drew | apply IsS99.set_1 | refine IsS99.far ?_ NB0_107.out _) | exact HI0.out)); (case side2 => exact hB_); rintro e w44 ⟨rfl, hi, hb, hk⟩; refine ⟨_, rfl, ?_⟩; have n0_ := kw_ BK107.out hk NB107_0.out; have n1_ := A_ (KeepBut.trans hK_ hk (.inl rfl)); have n2_ := A_ (hb); have n3_ := A_ (hi); clear BK107 HK HB HI0; revert n0_ n1_ n2_ n3_; intro BK107 HK HB HI0; (try clear hb); (try clear hk); (try clear hi)) | ((with_reducible refine gate_callee (f := 72) rfl ?_); refine goesL_ (some 7) rfl rfl Try.func72 (by kernel_rfl) rfl #[.pointer (some ⟨g, 0, none⟩), .int .i64 10] rfl ga_ ?_; (with_reducible refine (spec_l6Rd_pick.calls k g s0_0 t109 10 t110 t111 w0 _ ?side1 ?side2 A3.out).mono ?_); (case side1 => repeat (first | (with_reducible first | exact HI0.out | apply IsS99.alloc | apply IsS99.drewN | apply IsS99.drew | apply IsS99.set_1 | refine IsS99.far ?_ NB0_107.out _) | exact HI0.out)); (case side2 => exact hB_); rintro e w45 ⟨rfl, hi, hb, hk⟩; refine ⟨_, rfl, ?_⟩; have n0_ := kw_ BK107.out hk NB107_0.out; have n1_ := A_ (KeepBut.trans hK_ hk (.inl rfl)); have n2_ := A_ (hb); have n3_ := A_ (hi); clear BK107 HK HB HI0; revert n0_ n1_ n2_ n3_; intro BK107 HK HB HI0; (try clear hb); (try clear hk); (try clear hi)) | ((with_reducible refine gate_dst (N := 3) rfl ?_); refine box_event ?hg (N := 3) ?hd (cs := #[.int .i64 0, .int .i64 0]) (t := 25) ?hr ?_; (case hd => rfl); (case hg => rfl); (case hr => first | (go_simp; done) | (go_simp; rfl)); intro gb112 hg w46 hbox hb; have n0_ := A_ (IsS99.below hI_ hb); have n1_ := bw_ BK107.out hb; have n2_ := kb_ g hb; have n3_ := sb_ hb; have n4_ := A_ (hbox); have n5_ := A_ ((by rw [hg]; exact (keep_size (w := w) (g := g) (row := none) hK_) : w.heap.size ≤ gb112)); have n6_ := A_ ((Nat.le_trans HW0.out (by rw [hg]; exact (keep_size (w := w) (g := g) (row := none) hK_) : w.heap.size ≤ gb112) : w0.heap.size ≤ gb112)); have n7_ := nl_ BK107.out hg; have n8_ := ng_ BK107.out hg; have n9_ := A_ ((by rw [hg]; exact Nat.ne_of_lt (IsS99.lt (show IsS99 w0 _ g s0_0 t111 from hI_)) : g ≠ gb112)); have n10_ := A_ ((by rw [hg]; exact Nat.ne_of_gt (IsS99.lt (show IsS99 w0 _ g s0_0 t111 from hI_)) : gb112 ≠ g)); clear HI0; clear BK107; clear HK; clear HB; have HI0 := n0_; have BK107 := n1_; have HK := n2_; have HB := n3_; have BK112 := n4_; have GW112 := n5_; have GE112 := n6_; have NB107_112 := n7_; have NB112_107 := n8_; have NB0_112 := n9_; have NB112_0 := n10_; clear n0_ n1_ n2_ n3_ n4_ n5_ n6_ n7_ n8_ n9_ n10_; clear hb hbox hg; have hnb47 := NB112_107.out; have hnc47 := NB107_112.out; have hnb48 := NB112_0.out; have hnc48 := NB0_112.out; obtain ⟨hcz49_0, hcz49_1, hfz49_0, hfz49_1⟩ := by2 BK112.out) | ((with_reducible refine gate_callee (f := 72) rfl ?_); refine goesL_ (some 10) rfl rfl Try.func72 (by kernel_rfl) rfl #[.pointer (some ⟨g, 0, none⟩), .int .i64 40] rfl ga_ ?_; (with_reducible refine (spec_l6Rd_pick.calls k g s0_0 t111 40 t113 t114 w0 _ ?side1 ?side2 A4.out).mono ?_); (case side1 => repeat (first | (with_reducible first | exact HI0.out | apply IsS99.alloc | apply IsS99.drewN | apply IsS99.drew | apply IsS99.set_1 | refine IsS99.far ?_ NB0_107.out _ | refine IsS99.far ?_ NB0_112.out _) | exact HI0.out)); (case side2 => exact hB_); rintro e w50 ⟨rfl, hi, hb, hk⟩; refine ⟨_, rfl, ?_⟩; have n0_ := kw_ BK107.out hk NB107_0.out; have n1_ := A_ (KeepBut.blk hk (g' := gb112) (o := .cells #[.int .i64 t108, .int .i64 t110] 25 (0, 0)) (by (with_reducible repeat (first | refine blk_drewN ?_ _ | refine blk_drew ?_ | refine blk_alloc ?_ _)); refine blk_put (cs := #[.int .i64 t108, .int .i64 0]) ?_ 1 _ rfl; (with_reducible repeat (first | refine blk_drewN ?_ _ | refine blk_drew ?_ | refine blk_alloc ?_ _)); refine blk_put (cs := #[.int .i64 0, .int .i64 0]) ?_ 0 _ rfl; (with_reducible repeat (first | refine blk_drewN ?_ _ | refine blk_drew ?_ | refine blk_alloc ?_ _)); exact BK112.out) NB112_0.out (by simp)); have n2_ := A_ (KeepBut.trans hK_ hk (.inl rfl)); have n3_ := A_ (hb); have n4_ := A_ (hi); clear BK107 BK112 HK HB HI0; revert n0_ n1_ n2_ n3_ n4_; intro BK107 BK112 HK HB HI0; (try clear hb); (try clear hk); (try clear hi); obtain ⟨hcz51_0, hcz51_1, hfz51_0, hfz51_1⟩ := by2 BK112.out; have hnb52 := NB107_0.out; have hnc52 := NB0_107.out; obtain ⟨hcz53_0, hcz53_1, hfz53_0, hfz53_1⟩ := by2 BK107.out))
   refine bodyPost_ret (results_cell_row rfl _ _ gb107 25 #[.int .i64 t108, .int .i64 t110] (0, 0) _ rfl (by (with_reducible repeat (first | refine blk_drewN ?_ _ | refine blk_drew ?_ | refine blk_alloc ?_ _)); refine blk_put (cs := #[.int .i64 t108, .int .i64 0]) ?_ 1 _ rfl; (with_reducible repeat (first | refine blk_drewN ?_ _ | refine blk_drew ?_ | refine blk_alloc ?_ _)); refine blk_put (cs := #[.int .i64 0, .int .i64 0]) ?_ 0 _ rfl; (with_reducible repeat (first | refine blk_drewN ?_ _ | refine blk_drew ?_ | refine blk_alloc ?_ _)); exact BK107.out) Try.underlying25 rfl (by kernel_rfl)) rfl ?_; exact ⟨by first | rfl | (simp [errW_none, errW_some] <;> rfl) | (simp [*, errW_none, errW_some] <;> rfl), hI_, hB_, hK_⟩

end Go.Proofs.Ytehkklmacglelaa.PA
namespace Go.Proofs.Ytehkklmacglelaa.PA
open Go.RowKit Go.Proofs.YtehkklmacglelaaW.PrintWords Go.Proofs.YtehkklmacglelaaW.PrintLast Go.Proofs.YtehkklmacglelaaW.PrintMore
attribute [local go_sem] max2_int min2_int max_two min_two max_three min_three max_four min_four   -- for this text's walks alone
set_option linter.unusedVariables false
set_option linter.unusedSimpArgs false

/-! ### spec_l71Box: function 79 -/
def spec_l71Box.f (k : Nat) (s0_0 : List Int) (s0_1 : Int) (a1 : Int) (a2 : Int) (a3 : Int) (a4 : Int) : Option ((List (S25)) × Int) := (some (([(⟨a1, a2⟩ : S25), (⟨wrap64 (a1 + a3), a2⟩ : S25), (⟨wrap64 (a1 + a3), wrap64 (a2 + a4)⟩ : S25), (⟨a1, wrap64 (a2 + a4)⟩ : S25)] : List (S25)) : List (S25))).bind fun y127 => ((spec_l6Rd_pick.f k s0_0 s0_1 7).bind fun bt130 => (if bt130.1 = 0 then (if 3 ≤ (y127.length : Int) then (some ((y127.take (3 : Int).toNat), bt130.2)) else (none)) else (if bt130.1 = 1 then (if a3 > 1 then (if a4 > 1 then (if 0 < (y127.length : Int) then (if 1 < (y127.length : Int) then (if 3 < (y127.length : Int) then (some ((([(⟨(rd_T25 y127 0).f0, (rd_T25 y127 0).f1⟩ : S25), (⟨(rd_T25 y127 1).f0, (rd_T25 y127 1).f1⟩ : S25), (⟨wrap64 (a1 + a3), wrap64 (a2 + (wrap64 (Int.tdiv a4 2)))⟩ : S25), (⟨wrap64 (a1 + (wrap64 (Int.tdiv a3 2))), wrap64 (a2 + (wrap64 (Int.tdiv a4 2)))⟩ : S25), (⟨wrap64 (a1 + (wrap64 (Int.tdiv a3 2))), wrap64 (a2 + a4)⟩ : S25), (⟨(rd_T25 y127 3).f0, (rd_T25 y127 3).f1⟩ : S25)] : List (S25))), bt130.2)) else (none)) else (none)) else (none)) else (some (y127, bt130.2))) else (some (y127, bt130.2))) else (if bt130.1 = 2 then (if a4 > 1 then (if 0 < (y127.length : Int) then (if 1 < (y127.length : Int) then (if 3 < (y127.length : Int) then (some ((([(⟨(rd_T25 y127 0).f0, (rd_T25 y127 0).f1⟩ : S25), (⟨(rd_T25 y127 1).f0, (rd_T25 y127 1).f1⟩ : S25), (⟨wrap64 (a1 + a3), wrap64 (a2 + (wrap64 (Int.tdiv a4 2)))⟩ : S25), (⟨wrap64 (a1 + (wrap64 (Int.tdiv a3 2))), wrap64 (a2 + a4)⟩ : S25), (⟨(rd_T25 y127 3).f0, (rd_T25 y127 3).f1⟩ : S25)] : List (S25))), bt130.2)) else (none)) else (none)) else (none)) else (some (y127, bt130.2))) else (if bt130.1 = 3 then (if 3 < (y127.length : Int) then (if 2 < (y127.length : Int) then (if 1 < (y127.length : Int) then (if 0 < (y127.length : Int) then (some ((([(⟨(rd_T25 y127 3).f0, (rd_T25 y127 3).f1⟩ : S25), (⟨(rd_T25 y127 2).f0, (rd_T25 y127 2).f1⟩ : S25), (⟨(rd_T25 y127 1).f0, (rd_T25 y127 1).f1⟩ : S25), (⟨(rd_T25 y127 0).f0, (rd_T25 y127 0).f1⟩ : S25)] : List (S25))), bt130.2)) else (none)) else (none)) else (none)) else (none)) else (if bt130.1 = 4 then (if a3 > 2 then (if a4 > 2 then (if 0 < (y127.length : Int) then (if 1 < (y127.length : Int) then (if 2 < (y127.length : Int) then (if 3 < (y127.length : Int) then (some ((([(⟨(rd_T25 y127 0).f0, (rd_T25 y127 0).f1⟩ : S25), (⟨wrap64 (a1 + (wrap64 (Int.tdiv a3 2))), wrap64 (a2 + 1)⟩ : S25), (⟨(rd_T25 y127 1).f0, (rd_T25 y127 1).f1⟩ : S25), (⟨(rd_T25 y127 2).f0, (rd_T25 y127 2).f1⟩ : S25), (⟨wrap64 (a1 + (wrap64 (Int.tdiv a3 2))), wrap64 ((wrap64 (a2 + a4)) - 1)⟩ : S25), (⟨(rd_T25 y127 3).f0, (rd_T25 y127 3).f1⟩ : S25)] : List (S25))), bt130.2)) else (none)) else (none)) else (none)) else (none)) else (some (y127, bt130.2))) else (some (y127, bt130.2))) else (some (y127, bt130.2))))))))
theorem spec_l71Box.mono : ∀ a0 a1 a2 a3 a4 a5 k, LeO (spec_l71Box.f k a0 a1 a2 a3 a4 a5) (spec_l71Box.f (k + 1) a0 a1 a2 a3 a4 a5) := by
  intro a0 a1 a2 a3 a4 a5 k
  unfold spec_l71Box.f
  repeat' first
      | (with_reducible exact spec_l6Rd_pick.mono _ _ _ _)
      | (with_reducible exact LeO.refl _)
      | (with_reducible exact LeO.none _)
      | (with_reducible refine LeO.ite ?_ ?_)
      | (with_reducible refine LeO.bind ?_ (fun _ => ?_))
      | exact spec_l6Rd_pick.mono _ _ _ _
      | exact LeO.none _
      | refine LeO.ite ?_ ?_
      | refine LeO.bind ?_ (fun _ => ?_)
def spec_l71Box.row (l : List S25) : List Value := l.flatMap fun p => [.int .i64 p.f0, .int .i64 p.f1]
theorem spec_l71Box.reps (W : World) (b : Nat) (ok : Nat → Prop) : ∀ l : List S25, Reps (k25.M W b ok) k25.sz l (spec_l71Box.row l)
  | [] => Reps.none _ _
  | p :: l => Reps.c2 (show Kd.M k25 _ _ _ p [.int .i64 p.f0, .int .i64 p.f1] from k25_mkM _ _ _ p) (spec_l71Box.reps W b ok l)
theorem spec_l71Box.made {b : Nat} {W : World} {n : Nat} {cells : Array Value} (xs : List S25) (hn : n = xs.length) (hc : cells = (spec_l71Box.row xs).toArray) (hbase : b ≤ W.heap.size) (hm : xs.length ≤ 100) :
    Kd.R k25 25 (W.alloc (.cells cells 25)) b (fun k => b ≤ k) (.slice (some ⟨W.heap.size, 0, none⟩) n n) xs := by
  subst hn hc
  have hrep := spec_l71Box.reps W b (fun k => b ≤ k) xs
  refine ⟨fun k hk => ?_, spec_l71Box.row xs, ?_, ?_⟩
  · have : W.heap.size = k := by simpa [Value.ownBlock] using hk
    subst this; exact hbase
  · have h2 := World.ownsRow_lit (base := b) (e := 25) (size := k25.sz) W (spec_l71Box.row xs).toArray xs.length hbase (by show xs.length ≤ maxLen; unfold maxLen; omega) (by simpa using hrep.1)
    simpa using h2
  · refine hrep.imp_ (fun p c hp => k25.M_mono (fun k hk => ⟨hk.1, fun he => ?_⟩) (Kd.M_below (k25.M_bound hp) (below_alloc (Below.refl _ _) _)))
    have h3 : k = W.heap.size := by simpa [Value.ownBlock] using he
    have := hk.2.2.1
    omega
set_option maxHeartbeats 8000000 in
set_option maxRecDepth 100000 in
theorem spec_l71Box.calls (k : Nat) (g : Nat) (s0_0 : List Int) (s0_1 : Int) (a1 : Int) (a2 : Int) (a3 : Int) (a4 : Int) (r1 : List (S25)) (r2 : Int) (w0 w : World) (hI : IsS99 w0 w g s0_0 s0_1) (hB : Below w0.heap.size w0 w) (h : spec_l71Box.f k s0_0 s0_1 a1 a2 a3 a4 = some (r1, r2)) :
    Calls Try.prog 79 #[.pointer (some ⟨g, 0, none⟩), .int .i64 a1, .int .i64 a2, .int .i64 a3, .int .i64 a4] w fun e w' => ∃ v0_ : Value, e = .returned (v0_) ∧ Kd.R k25 25 w' w.heap.size (fun _ => True) v0_ r1 ∧ IsS99 w0 w' g s0_0 r2 ∧ Below w0.heap.size w0 w' ∧ KeepBut w w' g none := by
  have hu1 := Try.underlying25
  unfold spec_l71Box.f at h
  rw [Option.bind_some] at h
  obtain ⟨⟨t, q⟩, A, H⟩ := Option.bind_eq_some_iff.mp h
  clear h
  have HA := A_ A
  have HH := A_ H
  clear A H
  have hg := IsS99.lt hI
  have HI := A_ hI
  have HB := A_ hB
  have HG := A_ hg
  clear hI hB hg
  go_enter Try.func79, Try.ntmps79
  go_wp2_with (first | (go_at_call 72; (with_reducible refine (spec_l6Rd_pick.calls k g s0_0 s0_1 7 t q w0 _ ?side1 ?side2 HA.out).mono ?_); (case side1 => exact IsS99.alloc HI.out _); (case side2 => exact below_alloc HB.out _); rintro e w1 ⟨rfl, hi, hb, hk⟩; have HI1 := A_ hi; have HB1 := A_ hb; have HK1 := A_ (KeepBut.trans (keep_alloc (KeepBut.refl w g none) _) hk (.inl rfl)); have BL := A_ (KeepBut.blk hk (blk_new w _) (by have := HG.out; omega) (by simp)); have HR := A_ (Kd.R_keep (spec_l71Box.made (b := w.heap.size) (W := w) [⟨a1, a2⟩, ⟨wrap64 (a1 + a3), a2⟩, ⟨wrap64 (a1 + a3), wrap64 (a2 + a4)⟩, ⟨a1, wrap64 (a2 + a4)⟩] rfl rfl (Nat.le_refl _) (by simp)) hk (fun k hk => by have := HG.out; omega)); clear hi hb hk))
  all_goals try
    (have c0 := blk_cell BL.out 0
     have c1 := blk_cell BL.out 1
     have c2 := blk_cell BL.out 2
     have c3 := blk_cell BL.out 3
     have c4 := blk_cell BL.out 4
     have c5 := blk_cell BL.out 5
     have c6 := blk_cell BL.out 6
     have c7 := blk_cell BL.out 7
     replace c0 : w1.cell? ⟨w.heap.size, 0, none⟩ = some (.int .i64 a1) := c0
     replace c1 : w1.cell? ⟨w.heap.size, 1, none⟩ = some (.int .i64 a2) := c1
     replace c2 : w1.cell? ⟨w.heap.size, 2, none⟩ = some (.int .i64 (wrap64 (a1 + a3))) := c2
     replace c3 : w1.cell? ⟨w.heap.size, 3, none⟩ = some (.int .i64 a2) := c3
     replace c4 : w1.cell? ⟨w.heap.size, 4, none⟩ = some (.int .i64 (wrap64 (a1 + a3))) := c4
     replace c5 : w1.cell? ⟨w.heap.size, 5, none⟩ = some (.int .i64 (wrap64 (a2 + a4))) := c5
     replace c6 : w1.cell? ⟨w.heap.size, 6, none⟩ = some (.int .i64 a1) := c6
     replace c7 : w1.cell? ⟨w.heap.size, 7, none⟩ = some (.int .i64 (wrap64 (a2 + a4))) := c7
     go_region_held3 (fun w' => w'.cell? ⟨w.heap.size, 0, none⟩ = some (.int .i64 a1) ∧ w'.cell? ⟨w.heap.size, 1, none⟩ = some (.int .i64 a2) ∧ w'.cell? ⟨w.heap.size, 2, none⟩ = some (.int .i64 (wrap64 (a1 + a3))) ∧ w'.cell? ⟨w.heap.size, 3, none⟩ = some (.int .i64 a2) ∧ w'.cell? ⟨w.heap.size, 4, none⟩ = some (.int .i64 (wrap64 (a1 + a3))) ∧ w'.cell? ⟨w.heap.size, 5, none⟩ = some (.int .i64 (wrap64 (a2 + a4))) ∧ w'.cell? ⟨w.heap.size, 6, none⟩ = some (.int .i64 a1) ∧ w'.cell? ⟨w.heap.size, 7, none⟩ = some (.int .i64 (wrap64 (a2 + a4)))) (first | go_keep) (first | fail)
     go_wp2)
  · rename_i h0
    have H := HH.out
    rw [if_pos (beq_iff_eq.1 h0), if_pos (by simp)] at H
    simp only [Option.some.injEq, Prod.mk.injEq] at H
    obtain ⟨rfl, rfl⟩ := H
    go_ret
    exact ⟨_, rfl, Kd.R_mono (Kd.R_take (m := 3) HR.out (by simp)) (fun _ _ => trivial), HI1.out, HB1.out, HK1.out⟩
  · rename_i h0 h1 c e _
    have H := HH.out
    rw [if_neg (beq_eq_false_iff_ne.1 h0), if_pos (beq_iff_eq.1 h1), if_pos c, if_pos e, if_pos (by simp), if_pos (by simp), if_pos (by simp)] at H
    simp only [Option.some.injEq, Prod.mk.injEq] at H
    obtain ⟨rfl, rfl⟩ := H
    go_ret
    refine ⟨_, rfl, Kd.R_drew (Kd.R_mono (spec_l71Box.made _ ?_ ?_ HK1.out.1 (by simp)) (fun _ _ => trivial)), IsS99.drew (IsS99.alloc HI1.out _), below_drew1 (below_alloc HB1.out _), keep_drew (keep_alloc HK1.out _)⟩
    · rfl
    · (try simp only [i64_w]); rfl
  · rename_i h0 h1 c e
    have H := HH.out
    rw [if_neg (beq_eq_false_iff_ne.1 h0), if_pos (beq_iff_eq.1 h1), if_pos c, if_neg (Int.not_lt.2 e)] at H
    simp only [Option.some.injEq, Prod.mk.injEq] at H
    obtain ⟨rfl, rfl⟩ := H
    go_ret
    exact ⟨_, rfl, Kd.R_mono HR.out (fun _ _ => trivial), HI1.out, HB1.out, HK1.out⟩
  · rename_i h0 h1 c
    have H := HH.out
    rw [if_neg (beq_eq_false_iff_ne.1 h0), if_pos (beq_iff_eq.1 h1), if_neg (Int.not_lt.2 c)] at H
    simp only [Option.some.injEq, Prod.mk.injEq] at H
    obtain ⟨rfl, rfl⟩ := H
    go_ret
    exact ⟨_, rfl, Kd.R_mono HR.out (fun _ _ => trivial), HI1.out, HB1.out, HK1.out⟩
  · rename_i h0 h1 h2 e _
    have H := HH.out
    rw [if_neg (beq_eq_false_iff_ne.1 h0), if_neg (beq_eq_false_iff_ne.1 h1), if_pos (beq_iff_eq.1 h2), if_pos e, if_pos (by simp), if_pos (by simp), if_pos (by simp)] at H
    simp only [Option.some.injEq, Prod.mk.injEq] at H
    obtain ⟨rfl, rfl⟩ := H
    go_ret
    refine ⟨_, rfl, Kd.R_drew (Kd.R_mono (spec_l71Box.made _ ?_ ?_ HK1.out.1 (by simp)) (fun _ _ => trivial)), IsS99.drew (IsS99.alloc HI1.out _), below_drew1 (below_alloc HB1.out _), keep_drew (keep_alloc HK1.out _)⟩
    · rfl
    · (try simp only [i64_w]); rfl
  · rename_i h0 h1 h2 e
    have H := HH.out
    rw [if_neg (beq_eq_false_iff_ne.1 h0), if_neg (beq_eq_false_iff_ne.1 h1), if_pos (beq_iff_eq.1 h2), if_neg (Int.not_lt.2 e)] at H
    simp only [Option.some.injEq, Prod.mk.injEq] at H
    obtain ⟨rfl, rfl⟩ := H
    go_ret
    exact ⟨_, rfl, Kd.R_mono HR.out (fun _ _ => trivial), HI1.out, HB1.out, HK1.out⟩
  · rename_i h0 h1 h2 h3 _
    have H := HH.out
    rw [if_neg (beq_eq_false_iff_ne.1 h0), if_neg (beq_eq_false_iff_ne.1 h1), if_neg (beq_eq_false_iff_ne.1 h2), if_pos (beq_iff_eq.1 h3), if_pos (by simp), if_pos (by simp), if_pos (by simp), if_pos (by simp)] at H
    simp only [Option.some.injEq, Prod.mk.injEq] at H
    obtain ⟨rfl, rfl⟩ := H
    go_ret
    refine ⟨_, rfl, Kd.R_drew (Kd.R_mono (spec_l71Box.made _ ?_ ?_ HK1.out.1 (by simp)) (fun _ _ => trivial)), IsS99.drew (IsS99.alloc HI1.out _), below_drew1 (below_alloc HB1.out _), keep_drew (keep_alloc HK1.out _)⟩
    · rfl
    · (try simp only [i64_w]); rfl
  · rename_i h0 h1 h2 h3 h4 c e _
    have H := HH.out
    rw [if_neg (beq_eq_false_iff_ne.1 h0), if_neg (beq_eq_false_iff_ne.1 h1), if_neg (beq_eq_false_iff_ne.1 h2), if_neg (beq_eq_false_iff_ne.1 h3), if_pos (beq_iff_eq.1 h4), if_pos c, if_pos e, if_pos (by simp), if_pos (by simp), if_pos (by simp), if_pos (by simp)] at H
    simp only [Option.some.injEq, Prod.mk.injEq] at H
    obtain ⟨rfl, rfl⟩ := H
    go_ret
    refine ⟨_, rfl, Kd.R_drew (Kd.R_mono (spec_l71Box.made _ ?_ ?_ HK1.out.1 (by simp)) (fun _ _ => trivial)), IsS99.drew (IsS99.alloc HI1.out _), below_drew1 (below_alloc HB1.out _), keep_drew (keep_alloc HK1.out _)⟩
    · rfl
    · (try simp only [i64_w]); rfl
  · rename_i h0 h1 h2 h3 h4 c e
    have H := HH.out
    rw [if_neg (beq_eq_false_iff_ne.1 h0), if_neg (beq_eq_false_iff_ne.1 h1), if_neg (beq_eq_false_iff_ne.1 h2), if_neg (beq_eq_false_iff_ne.1 h3), if_pos (beq_iff_eq.1 h4), if_pos c, if_neg (Int.not_lt.2 e)] at H
    simp only [Option.some.injEq, Prod.mk.injEq] at H
    obtain ⟨rfl, rfl⟩ := H
    go_ret
    exact ⟨_, rfl, Kd.R_mono HR.out (fun _ _ => trivial), HI1.out, HB1.out, HK1.out⟩
  · rename_i h0 h1 h2 h3 h4 c
    have H := HH.out
    rw [if_neg (beq_eq_false_iff_ne.1 h0), if_neg (beq_eq_false_iff_ne.1 h1), if_neg (beq_eq_false_iff_ne.1 h2), if_neg (beq_eq_false_iff_ne.1 h3), if_pos (beq_iff_eq.1 h4), if_neg (Int.not_lt.2 c)] at H
    simp only [Option.some.injEq, Prod.mk.injEq] at H
    obtain ⟨rfl, rfl⟩ := H
    go_ret
    exact ⟨_, rfl, Kd.R_mono HR.out (fun _ _ => trivial), HI1.out, HB1.out, HK1.out⟩
  · rename_i h0 h1 h2 h3 h4
    have H := HH.out
    rw [if_neg (beq_eq_false_iff_ne.1 h0), if_neg (beq_eq_false_iff_ne.1 h1), if_neg (beq_eq_false_iff_ne.1 h2), if_neg (beq_eq_false_iff_ne.1 h3), if_neg (beq_eq_false_iff_ne.1 h4)] at H
    simp only [Option.some.injEq, Prod.mk.injEq] at H
    obtain ⟨rfl, rfl⟩ := H
    go_ret
    exact ⟨_, rfl, Kd.R_mono HR.out (fun _ _ => trivial), HI1.out, HB1.out, HK1.out⟩

end Go.Proofs.Ytehkklmacglelaa.PA
namespace Go.Proofs.Ytehkklmacglelaa.PA
open Go.RowKit Go.Proofs.YtehkklmacglelaaW.PrintWords Go.Proofs.YtehkklmacglelaaW.PrintLast Go.Proofs.YtehkklmacglelaaW.PrintMore
attribute [local go_sem] max2_int min2_int max_two min_two max_three min_three max_four min_four   -- for this text's walks alone
set_option linter.unusedVariables false
set_option linter.unusedSimpArgs false

/-! ### spec_l71Loop: function 45 -/
def spec_l71Loop.l0 : Nat → List (S25) → Int → List Int → Int → Option ((List (S25)) × Int)
 | 0, _, _, _, _ => none
 | k + 1, x5, x6, x1000, x1001 => if x6 ≥ 0 then (if (x5.length : Int) = 0 then (none) else ((spec_l71Pt.f k x1000 x1001).bind fun bt189 => (if 0 ≤ (Int.tmod x6 (x5.length : Int)) then (if (Int.tmod x6 (x5.length : Int)) < (x5.length : Int) then (spec_l71Loop.l0 k (x5.set ((Int.tmod x6 (x5.length : Int)) : Int).toNat (⟨bt189.1, bt189.2.1⟩ : S25)) (wrap64 (x6 - 1)) x1000 bt189.2.2) else (none)) else (none)))) else (some (x5, x1001))
def spec_l71Loop.f (k : Nat) (s0_0 : List Int) (s0_1 : Int) : Option ((List (S25)) × Int) := (spec_l6Rd_pick.f k s0_0 s0_1 5).bind fun bt161 => ((spec_l6Rd_pick.f k s0_0 bt161.2 5).bind fun bt163 => ((spec_l6Rd_pick.f k s0_0 bt163.2 (wrap64 (9 - bt161.1))).bind fun bt165 => ((spec_l6Rd_pick.f k s0_0 bt165.2 (wrap64 (9 - bt163.1))).bind fun bt167 => ((spec_l71Box.f k s0_0 bt167.2 bt161.1 bt163.1 (wrap64 (1 + bt165.1)) (wrap64 (1 + bt167.1))).bind fun bt169 => ((spec_l6Rd_pick.f k s0_0 bt169.2 12).bind fun bt173 => (if bt173.1 = 0 then ((spec_l71Pt.f k s0_0 bt173.2).bind fun bt175 => (if bt169.1.length < 8796093022208 then (some ((bt169.1 ++ [(⟨bt175.1, bt175.2.1⟩ : S25)]), bt175.2.2)) else (none))) else (if bt173.1 = 1 then ((spec_l6Rd_pick.f k s0_0 bt173.2 (bt169.1.length : Int)).bind fun bt181 => ((spec_l71Pt.f k s0_0 bt181.2).bind fun bt183 => (if 0 ≤ bt181.1 then (if bt181.1 < (bt169.1.length : Int) then (some ((bt169.1.set (bt181.1 : Int).toNat (⟨bt183.1, bt183.2.1⟩ : S25)), bt183.2.2)) else (none)) else (none)))) else (if bt173.1 = 2 then ((spec_l6Rd_pick.f k s0_0 bt173.2 6).bind fun bt187 => (spec_l71Loop.l0 k bt169.1 bt187.1 s0_0 bt187.2)) else (some (bt169.1, bt173.2))))))))))
theorem spec_l71Loop.mono_l : ∀ k, (∀ y0 y1 y2 y3, LeO (spec_l71Loop.l0 k y0 y1 y2 y3) (spec_l71Loop.l0 (k + 1) y0 y1 y2 y3))
 | 0 => fun _ _ _ _ r h => by simp [spec_l71Loop.l0] at h
 | k + 1 => by
  have ih0 := spec_l71Loop.mono_l k
  ·intro y0 y1 y2 y3; unfold spec_l71Loop.l0; repeat' first
   | (with_reducible exact ih0 _ _ _ _)
   | (with_reducible exact spec_l6Rd_pick.mono _ _ _ _)
   | (with_reducible exact spec_l71Box.mono _ _ _ _ _ _ _)
   | (with_reducible exact spec_l71Pt.mono _ _ _)
   | (with_reducible exact LeO.refl _)
   | (with_reducible exact LeO.none _)
   | (with_reducible refine LeO.ite ?_ ?_)
   | (with_reducible refine LeO.bind ?_ (fun _ => ?_))
   | exact ih0 _ _ _ _
   | exact spec_l6Rd_pick.mono _ _ _ _
   | exact spec_l71Box.mono _ _ _ _ _ _ _
   | exact spec_l71Pt.mono _ _ _
   | exact LeO.none _
   | refine LeO.ite ?_ ?_
   | refine LeO.bind ?_ (fun _ => ?_)
theorem spec_l71Loop.mono : ∀ a0 a1 k, LeO (spec_l71Loop.f k a0 a1) (spec_l71Loop.f (k + 1) a0 a1) := by
 intro a0 a1 k; have ih0 := spec_l71Loop.mono_l k; unfold spec_l71Loop.f; repeat' first
   | (with_reducible exact ih0 _ _ _ _)
   | (with_reducible exact spec_l6Rd_pick.mono _ _ _ _)
   | (with_reducible exact spec_l71Box.mono _ _ _ _ _ _ _)
   | (with_reducible exact spec_l71Pt.mono _ _ _)
   | (with_reducible exact LeO.refl _)
   | (with_reducible exact LeO.none _)
   | (with_reducible refine LeO.ite ?_ ?_)
   | (with_reducible refine LeO.bind ?_ (fun _ => ?_))
   | exact ih0 _ _ _ _
   | exact spec_l6Rd_pick.mono _ _ _ _
   | exact spec_l71Box.mono _ _ _ _ _ _ _
   | exact spec_l71Pt.mono _ _ _
   | exact LeO.none _
   | refine LeO.ite ?_ ?_
   | refine LeO.bind ?_ (fun _ => ?_)
def spec_l71Loop.T13 : Bool × List (List Nat × List Nat) := (true, [([], []), ([], []), ([], []), ([2], [2]), ([1, 3], [1, 3]), ([], []), ([5], [5]), ([0, 4, 0, 1, 2, 3, 4, 5, 6], [0, 4]), ([7, 6, 6, 0, 1, 2, 3, 4, 5, 6], [6, 7])])
def spec_l71Loop.B13 : List Nat := [0, 0, 0, 4, 14, 0, 32, 127, 255]
theorem spec_l71Loop.tab13 : rtab .any (opsOf Try.f45 13) = spec_l71Loop.T13 := by kernel_rfl
theorem spec_l71Loop.bits13 : waitsOk spec_l71Loop.T13.2 spec_l71Loop.B13 = true := by kernel_rfl
set_option maxHeartbeats 8000000 in
set_option maxRecDepth 100000 in
theorem spec_l71Loop.calls (k : Nat) (g : Nat) (s0_0 : List Int) (s0_1 : Int) (r1 : List (S25)) (r2 : Int) (w0 w : World) (hI : IsS99 w0 w g s0_0 s0_1) (hB : Below w0.heap.size w0 w) (h : spec_l71Loop.f k s0_0 s0_1 = some (r1, r2)) :
  Calls Try.prog 45 #[.pointer (some ⟨g, 0, none⟩)] w fun e w' => ∃ v0_ : Value, e = .returned (v0_) ∧ Kd.R k25 25 w' w.heap.size (fun _ => True) v0_ r1 ∧ IsS99 w0 w' g s0_0 r2 ∧ Below w0.heap.size w0 w' ∧ KeepBut w w' g none := by
 have hu25 := Try.underlying25; have HI0 := A_ hI; have HK := A_ (KeepBut.refl w g none); have HL := A_ hB.size; clear hI; have HW0 := A_ hB.size; have HB := A_ hB; clear hB; have H : ((spec_l6Rd_pick.f k s0_0 s0_1 5).bind fun bt161 => ((spec_l6Rd_pick.f k s0_0 bt161.2 5).bind fun bt163 => ((spec_l6Rd_pick.f k s0_0 bt163.2 (wrap64 (9 - bt161.1))).bind fun bt165 => ((spec_l6Rd_pick.f k s0_0 bt165.2 (wrap64 (9 - bt163.1))).bind fun bt167 => ((spec_l71Box.f k s0_0 bt167.2 bt161.1 bt163.1 (wrap64 (1 + bt165.1)) (wrap64 (1 + bt167.1))).bind fun bt169 => ((spec_l6Rd_pick.f k s0_0 bt169.2 12).bind fun bt173 => (if bt173.1 = 0 then ((spec_l71Pt.f k s0_0 bt173.2).bind fun bt175 => (if bt169.1.length < 8796093022208 then (some ((bt169.1 ++ [(⟨bt175.1, bt175.2.1⟩ : S25)]), bt175.2.2)) else (none))) else (if bt173.1 = 1 then ((spec_l6Rd_pick.f k s0_0 bt173.2 (bt169.1.length : Int)).bind fun bt181 => ((spec_l71Pt.f k s0_0 bt181.2).bind fun bt183 => (if 0 ≤ bt181.1 then (if bt181.1 < (bt169.1.length : Int) then (some ((bt169.1.set (bt181.1 : Int).toNat (⟨bt183.1, bt183.2.1⟩ : S25)), bt183.2.2)) else (none)) else (none)))) else (if bt173.1 = 2 then ((spec_l6Rd_pick.f k s0_0 bt173.2 6).bind fun bt187 => (spec_l71Loop.l0 k bt169.1 bt187.1 s0_0 bt187.2)) else (some (bt169.1, bt173.2))))))))))) = some (r1, r2) := h; clear h; replace H := Option.bind_eq_some_iff.mp H; obtain ⟨⟨t161, t162⟩, A20, H⟩ := H; (try dsimp only at H); have A2 := A_ A20; clear A20; replace H := Option.bind_eq_some_iff.mp H; obtain ⟨⟨t163, t164⟩, A30, H⟩ := H; (try dsimp only at H); have A3 := A_ A30; clear A30; replace H := Option.bind_eq_some_iff.mp H; obtain ⟨⟨t165, t166⟩, A40, H⟩ := H; (try dsimp only at H); have A4 := A_ A40; clear A40; replace H := Option.bind_eq_some_iff.mp H; obtain ⟨⟨t167, t168⟩, A50, H⟩ := H; (try dsimp only at H); have A5 := A_ A50; clear A50; replace H := Option.bind_eq_some_iff.mp H; obtain ⟨⟨t169, t172⟩, A60, H⟩ := H; (try dsimp only at H); have A6 := A_ A60; clear A60; replace H := Option.bind_eq_some_iff.mp H; obtain ⟨⟨t173, t174⟩, A70, H⟩ := H; (try dsimp only at H); have A7 := A_ A70; clear A70; by_cases c8 : t173 = 0
 ·rw [if_pos c8] at H; have c8b0 : (t173 == 0) = true := beq_iff_eq.mpr c8; have c8b1 : (t173 != 0) = false := bne_eq_false_iff_eq.mpr c8; clear c8; replace H := Option.bind_eq_some_iff.mp H; obtain ⟨⟨t175, t176, t177⟩, A90, H⟩ := H; (try dsimp only at H); have A9 := A_ A90; clear A90; by_cases c10 : t169.length < 8796093022208
  ·rw [if_pos c10] at H; have LMc10 := A_ c10; clear c10; obtain ⟨y178, hy178⟩ : ∃ y_ : List (S25), y_ = (t169 ++ [(⟨t175, t176⟩ : S25)]) := ⟨_, rfl⟩; replace H : (some (y178, t177)) = some (r1, r2) := by first | (rw [hy178]; with_reducible exact H) | (have H2_ := (Option.bind_some _ _).symm.trans H; rw [hy178]; with_reducible exact H2_) | (have H2_ := (Option.bind_some _ _).symm.trans H; with_reducible exact H2_) | with_reducible exact H | (rw [hy178]; exact H) | exact H
   have Ny178 := A_ hy178; clear hy178; simp only [Option.some.injEq, Prod.mk.injEq] at H; obtain ⟨rfl, rfl⟩ := H; go_enter Try.func45, Try.ntmps45
   go_wp2_with (first | ((with_reducible refine gate_callee (f := 72) rfl ?_); refine goesL_ (some 8) rfl rfl Try.func72 (by kernel_rfl) rfl #[.pointer (some ⟨g, 0, none⟩), .int .i64 5] rfl ga_ ?_; (with_reducible refine (spec_l6Rd_pick.calls k g s0_0 s0_1 5 t161 t162 w0 _ ?side1 ?side2 A2.out).mono ?_); (case side1 => repeat (first | (with_reducible first | exact HI0.out | apply IsS99.alloc | apply IsS99.drewN | apply IsS99.drew | apply IsS99.set_1) | exact HI0.out)); (case side2 => exact hB_); rintro e w11 ⟨rfl, hi, hb, hk⟩; refine ⟨_, rfl, ?_⟩; have n0_ := A_ (KeepBut.trans hK_ hk (.inl rfl)); have n1_ := A_ (hb); have n2_ := A_ (hi); clear HK HB HI0; revert n0_ n1_ n2_; intro HK HB HI0; (try clear hb); (try clear hk); (try clear hi)) | ((with_reducible refine gate_callee (f := 72) rfl ?_); refine goesL_ (some 10) rfl rfl Try.func72 (by kernel_rfl) rfl #[.pointer (some ⟨g, 0, none⟩), .int .i64 5] rfl ga_ ?_; (with_reducible refine (spec_l6Rd_pick.calls k g s0_0 t162 5 t163 t164 w0 _ ?side1 ?side2 A3.out).mono ?_); (case side1 => repeat (first | (with_reducible first | exact HI0.out | apply IsS99.alloc | apply IsS99.drewN | apply IsS99.drew | apply IsS99.set_1) | exact HI0.out)); (case side2 => exact hB_); rintro e w12 ⟨rfl, hi, hb, hk⟩; refine ⟨_, rfl, ?_⟩; have n0_ := A_ (KeepBut.trans hK_ hk (.inl rfl)); have n1_ := A_ (hb); have n2_ := A_ (hi); clear HK HB HI0; revert n0_ n1_ n2_; intro HK HB HI0; (try clear hb); (try clear hk); (try clear hi)) | ((with_reducible refine gate_callee (f := 72) rfl ?_); refine goesL_ (some 17) rfl rfl Try.func72 (by kernel_rfl) rfl #[.pointer (some ⟨g, 0, none⟩), .int .i64 (wrap64 (9 - t161))] rfl ga_ ?_; (with_reducible refine (spec_l6Rd_pick.calls k g s0_0 t164 (wrap64 (9 - t161)) t165 t166 w0 _ ?side1 ?side2 A4.out).mono ?_); (case side1 => repeat (first | (with_reducible first | exact HI0.out | apply IsS99.alloc | apply IsS99.drewN | apply IsS99.drew | apply IsS99.set_1) | exact HI0.out)); (case side2 => exact hB_); rintro e w13 ⟨rfl, hi, hb, hk⟩; refine ⟨_, rfl, ?_⟩; have n0_ := A_ (KeepBut.trans hK_ hk (.inl rfl)); have n1_ := A_ (hb); have n2_ := A_ (hi); clear HK HB HI0; revert n0_ n1_ n2_; intro HK HB HI0; (try clear hb); (try clear hk); (try clear hi)) | ((with_reducible refine gate_callee (f := 72) rfl ?_); refine goesL_ (some 22) rfl rfl Try.func72 (by kernel_rfl) rfl #[.pointer (some ⟨g, 0, none⟩), .int .i64 (wrap64 (9 - t163))] rfl ga_ ?_; (with_reducible refine (spec_l6Rd_pick.calls k g s0_0 t166 (wrap64 (9 - t163)) t167 t168 w0 _ ?side1 ?side2 A5.out).mono ?_); (case side1 => repeat (first | (with_reducible first | exact HI0.out | apply IsS99.alloc | apply IsS99.drewN | apply IsS99.drew | apply IsS99.set_1) | exact HI0.out)); (case side2 => exact hB_); rintro e w14 ⟨rfl, hi, hb, hk⟩; refine ⟨_, rfl, ?_⟩; have n0_ := A_ (KeepBut.trans hK_ hk (.inl rfl)); have n1_ := A_ (hb); have n2_ := A_ (hi); clear HK HB HI0; revert n0_ n1_ n2_; intro HK HB HI0; (try clear hb); (try clear hk); (try clear hi)) | ((with_reducible refine gate_callee (f := 79) rfl ?_); refine goesL_ (some 24) rfl rfl Try.func79 (by kernel_rfl) rfl #[.pointer (some ⟨g, 0, none⟩), .int .i64 t161, .int .i64 t163, .int .i64 (wrap64 (1 + t165)), .int .i64 (wrap64 (1 + t167))] rfl ga_ ?_; (with_reducible refine (spec_l71Box.calls k g s0_0 t168 t161 t163 (wrap64 (1 + t165)) (wrap64 (1 + t167)) t169 t172 w0 _ ?side1 ?side2 A6.out).mono ?_); (case side1 => repeat (first | (with_reducible first | exact HI0.out | apply IsS99.alloc | apply IsS99.drewN | apply IsS99.drew | apply IsS99.set_1) | exact HI0.out)); (case side2 => exact hB_); rintro e w15 ⟨v170, rfl, ho0, hi, hb, hk⟩; refine ⟨_, rfl, ?_⟩; have n0_ := A_ (Kd.R_lower ho0 (keep_size (w := w) (g := g) (row := none) hK_)); have n1_ := A_ (KeepBut.trans hK_ hk (.inl rfl)); have n2_ := A_ (hb); have n3_ := A_ (hi); clear HK; clear HB; clear HI0; have HO171 := n0_; have HK := n1_; have HB := n2_; have HI0 := n3_; clear n0_ n1_ n2_ n3_; (try clear hb); (try clear hk); (try clear hi); (try clear ho0)) | ((with_reducible refine gate_callee (f := 72) rfl ?_); refine goesL_ (some 26) rfl rfl Try.func72 (by kernel_rfl) rfl #[.pointer (some ⟨g, 0, none⟩), .int .i64 12] rfl ga_ ?_; (with_reducible refine (spec_l6Rd_pick.calls k g s0_0 t172 12 t173 t174 w0 _ ?side1 ?side2 A7.out).mono ?_); (case side1 => repeat (first | (with_reducible first | exact HI0.out | apply IsS99.alloc | apply IsS99.drewN | apply IsS99.drew | apply IsS99.set_1) | exact HI0.out)); (case side2 => exact hB_); rintro e w16 ⟨rfl, hi, hb, hk⟩; refine ⟨_, rfl, ?_⟩; have n0_ := A_ (Kd.R_mono (Kd.R_keep (IsS99.apart (show IsS99 w0 _ g s0_0 t172 from hI_) (pR_ HO171.out) (by decide)) hk (fun _ h => h.2)) (fun _ h => h.1)); have n1_ := A_ (KeepBut.trans hK_ hk (.inl rfl)); have n2_ := A_ (hb); have n3_ := A_ (hi); clear HO171 HK HB HI0; revert n0_ n1_ n2_ n3_; intro HO171 HK HB HI0; (try clear hb); (try clear hk); (try clear hi)) | ((with_reducible refine gate_callee (f := 46) rfl ?_); refine goesL_ (some 31) rfl rfl Try.func46 (by kernel_rfl) rfl #[.pointer (some ⟨g, 0, none⟩)] rfl ga_ ?_; (with_reducible refine (spec_l71Pt.calls k g s0_0 t174 t175 t176 t177 w0 _ ?side1 ?side2 A9.out).mono ?_); (case side1 => repeat (first | (with_reducible first | exact HI0.out | apply IsS99.alloc | apply IsS99.drewN | apply IsS99.drew | apply IsS99.set_1) | exact HI0.out)); (case side2 => exact hB_); rintro e w17 ⟨rfl, hi, hb, hk⟩; refine ⟨_, rfl, ?_⟩; have n0_ := A_ (Kd.R_mono (Kd.R_keep (IsS99.apart (show IsS99 w0 _ g s0_0 t174 from hI_) (pR_ HO171.out) (by decide)) hk (fun _ h => h.2)) (fun _ h => h.1)); have n1_ := A_ (KeepBut.trans hK_ hk (.inl rfl)); have n2_ := A_ (hb); have n3_ := A_ (hi); clear HO171 HK HB HI0; revert n0_ n1_ n2_ n3_; intro HO171 HK HB HI0; (try clear hb); (try clear hk); (try clear hi)) | ((with_reducible refine gate_builtin (b := .append) (xs := #[.tmp 29, .tmp 32]) rfl ?_); at_builtin; refine Kd.R_append k25 w.heap.size rfl (.tmp 29) (.tmp 32) 23 25 (.agg #[(.int .i64 0), (.int .i64 0)]) 16 rfl Try.underlying23 info25 rfl (by decide) (by omega) v170 t169 (⟨t175, t176⟩ : S25) [.int .i64 t175, .int .i64 t176] (fun _ => True) (fun _ => False) rfl rfl ?aP (fun _ hk => hk.elim) ?aF ?aO (Below.refl _ _) ?aS ?aL ?_; (case aP => exact k25_mkM _ _ _ (⟨t175, t176⟩ : S25)); (case aF => exact (fun _ _ => trivial)); (case aO => exact (pR_ HO171.out)); (case aS => exact (keep_size (w := w) (g := g) (row := none) hK_)); (case aL => have := LMc10.out; omega); intro v179 w18 ho hb hg hat; rw [← Ny178.out] at ho; have n0_ := A_ (IsS99.grown hI_ hg (IsS99.own_ne HI0.out HO171.out (by decide))); have n1_ := A_ (below_weaken hB_ HL.out hb); have n2_ := A_ (KeepBut.trans hK_ (KeepBut.of_grown hg g) (Kd.R_base2 HO171.out)); have n3_ := A_ (ho); clear HI0; clear HB; clear HK; clear HO171; have HI0 := n0_; have HB := n1_; have HK := n2_; have HO180 := n3_; clear n0_ n1_ n2_ n3_; clear ho hb hg hat))
   go_ret
   exact ⟨_, by first | rfl | (simp [errW_none, errW_some] <;> rfl) | (simp [*, errW_none, errW_some] <;> rfl), by (with_reducible repeat (first | apply Kd.R_alloc | apply Kd.R_drewN | apply Kd.R_drew)); exact HO180.out, hI_, hB_, hK_⟩
  ·rw [if_neg c10] at H; exact absurd H (by simp)
 ·rw [if_neg c8] at H; have c8b0 : (t173 == 0) = false := beq_eq_false_iff_ne.mpr c8; have c8b1 : (t173 != 0) = true := bne_iff_ne.mpr c8; by_cases c19 : t173 = 1
  ·rw [if_pos c19] at H; have c19b0 : (t173 == 1) = true := beq_iff_eq.mpr c19; have c19b1 : (t173 != 1) = false := bne_eq_false_iff_eq.mpr c19; clear c19; replace H := Option.bind_eq_some_iff.mp H; obtain ⟨⟨t181, t182⟩, A200, H⟩ := H; (try dsimp only at H); have A20 := A_ A200; clear A200; replace H := Option.bind_eq_some_iff.mp H; obtain ⟨⟨t183, t184, t185⟩, A210, H⟩ := H; (try dsimp only at H); have A21 := A_ A210; clear A210; by_cases c22 : 0 ≤ t181
   ·rw [if_pos c22] at H; have c22b0 : decide (0 ≤ t181) = true := decide_eq_true c22; clear c22; by_cases c23 : t181 < (t169.length : Int)
    ·rw [if_pos c23] at H; have c23b0 : decide (t181 < (t169.length : Int)) = true := decide_eq_true c23; clear c23; obtain ⟨y186, hy186⟩ : ∃ y_ : List (S25), y_ = (t169.set (t181 : Int).toNat (⟨t183, t184⟩ : S25)) := ⟨_, rfl⟩; replace H : (some (y186, t185)) = some (r1, r2) := by first | (rw [hy186]; with_reducible exact H) | (have H2_ := (Option.bind_some _ _).symm.trans H; rw [hy186]; with_reducible exact H2_) | (have H2_ := (Option.bind_some _ _).symm.trans H; with_reducible exact H2_) | with_reducible exact H | (rw [hy186]; exact H) | exact H
     have Ny186 := A_ hy186; clear hy186; simp only [Option.some.injEq, Prod.mk.injEq] at H; obtain ⟨rfl, rfl⟩ := H; go_enter Try.func45, Try.ntmps45
     go_wp2_with (first | ((with_reducible refine gate_callee (f := 72) rfl ?_); refine goesL_ (some 8) rfl rfl Try.func72 (by kernel_rfl) rfl #[.pointer (some ⟨g, 0, none⟩), .int .i64 5] rfl ga_ ?_; (with_reducible refine (spec_l6Rd_pick.calls k g s0_0 s0_1 5 t161 t162 w0 _ ?side1 ?side2 A2.out).mono ?_); (case side1 => repeat (first | (with_reducible first | exact HI0.out | apply IsS99.alloc | apply IsS99.drewN | apply IsS99.drew | apply IsS99.set_1) | exact HI0.out)); (case side2 => exact hB_); rintro e w25 ⟨rfl, hi, hb, hk⟩; refine ⟨_, rfl, ?_⟩; have n0_ := A_ (KeepBut.trans hK_ hk (.inl rfl)); have n1_ := A_ (hb); have n2_ := A_ (hi); clear HK HB HI0; revert n0_ n1_ n2_; intro HK HB HI0; (try clear hb); (try clear hk); (try clear hi)) | ((with_reducible refine gate_callee (f := 72) rfl ?_); refine goesL_ (some 10) rfl rfl Try.func72 (by kernel_rfl) rfl #[.pointer (some ⟨g, 0, none⟩), .int .i64 5] rfl ga_ ?_; (with_reducible refine (spec_l6Rd_pick.calls k g s0_0 t162 5 t163 t164 w0 _ ?side1 ?side2 A3.out).mono ?_); (case side1 => repeat (first | (with_reducible first | exact HI0.out | apply IsS99.alloc | apply IsS99.drewN | apply IsS99.drew | apply IsS99.set_1) | exact HI0.out)); (case side2 => exact hB_); rintro e w26 ⟨rfl, hi, hb, hk⟩; refine ⟨_, rfl, ?_⟩; have n0_ := A_ (KeepBut.trans hK_ hk (.inl rfl)); have n1_ := A_ (hb); have n2_ := A_ (hi); clear HK HB HI0; revert n0_ n1_ n2_; intro HK HB HI0; (try clear hb); (try clear hk); (try clear hi)) | ((with_reducible refine gate_callee (f := 72) rfl ?_); refine goesL_ (some 17) rfl rfl Try.func72 (by kernel_rfl) rfl #[.pointer (some ⟨g, 0, none⟩), .int .i64 (wrap64 (9 - t161))] rfl ga_ ?_; (with_reducible refine (spec_l6Rd_pick.calls k g s0_0 t164 (wrap64 (9 - t161)) t165 t166 w0 _ ?side1 ?side2 A4.out).mono ?_); (case side1 => repeat (first | (with_reducible first | exact HI0.out | apply IsS99.alloc | apply IsS99.drewN | apply IsS99.drew | apply IsS99.set_1) | exact HI0.out)); (case side2 => exact hB_); rintro e w27 ⟨rfl, hi, hb, hk⟩; refine ⟨_, rfl, ?_⟩; have n0_ := A_ (KeepBut.trans hK_ hk (.inl rfl)); have n1_ := A_ (hb); have n2_ := A_ (hi); clear HK HB HI0; revert n0_ n1_ n2_; intro HK HB HI0; (try clear hb); (try clear hk); (try clear hi)) | ((with_reducible refine gate_callee (f := 72) rfl ?_); refine goesL_ (some 22) rfl rfl Try.func72 (by kernel_rfl) rfl #[.pointer (some ⟨g, 0, none⟩), .int .i64 (wrap64 (9 - t163))] rfl ga_ ?_; (with_reducible refine (spec_l6Rd_pick.calls k g s0_0 t166 (wrap64 (9 - t163)) t167 t168 w0 _ ?side1 ?side2 A5.out).mono ?_); (case side1 => repeat (first | (with_reducible first | exact HI0.out | apply IsS99.alloc | apply IsS99.drewN | apply IsS99.drew | apply IsS99.set_1) | exact HI0.out)); (case side2 => exact hB_); rintro e w28 ⟨rfl, hi, hb, hk⟩; refine ⟨_, rfl, ?_⟩; have n0_ := A_ (KeepBut.trans hK_ hk (.inl rfl)); have n1_ := A_ (hb); have n2_ := A_ (hi); clear HK HB HI0; revert n0_ n1_ n2_; intro HK HB HI0; (try clear hb); (try clear hk); (try clear hi)) | ((with_reducible refine gate_callee (f := 79) rfl ?_); refine goesL_ (some 24) rfl rfl Try.func79 (by kernel_rfl) rfl #[.pointer (some ⟨g, 0, none⟩), .int .i64 t161, .int .i64 t163, .int .i64 (wrap64 (1 + t165)), .int .i64 (wrap64 (1 + t167))] rfl ga_ ?_; (with_reducible refine (spec_l71Box.calls k g s0_0 t168 t161 t163 (wrap64 (1 + t165)) (wrap64 (1 + t167)) t169 t172 w0 _ ?side1 ?side2 A6.out).mono ?_); (case side1 => repeat (first | (with_reducible first | exact HI0.out | apply IsS99.alloc | apply IsS99.drewN | apply IsS99.drew | apply IsS99.set_1) | exact HI0.out)); (case side2 => exact hB_); rintro e w29 ⟨v170, rfl, ho0, hi, hb, hk⟩; refine ⟨_, rfl, ?_⟩; have n0_ := A_ (Kd.R_lower ho0 (keep_size (w := w) (g := g) (row := none) hK_)); have n1_ := A_ (KeepBut.trans hK_ hk (.inl rfl)); have n2_ := A_ (hb); have n3_ := A_ (hi); clear HK; clear HB; clear HI0; have HO171 := n0_; have HK := n1_; have HB := n2_; have HI0 := n3_; clear n0_ n1_ n2_ n3_; (try clear hb); (try clear hk); (try clear hi); (try clear ho0)) | ((with_reducible refine gate_callee (f := 72) rfl ?_); refine goesL_ (some 26) rfl rfl Try.func72 (by kernel_rfl) rfl #[.pointer (some ⟨g, 0, none⟩), .int .i64 12] rfl ga_ ?_; (with_reducible refine (spec_l6Rd_pick.calls k g s0_0 t172 12 t173 t174 w0 _ ?side1 ?side2 A7.out).mono ?_); (case side1 => repeat (first | (with_reducible first | exact HI0.out | apply IsS99.alloc | apply IsS99.drewN | apply IsS99.drew | apply IsS99.set_1) | exact HI0.out)); (case side2 => exact hB_); rintro e w30 ⟨rfl, hi, hb, hk⟩; refine ⟨_, rfl, ?_⟩; have n0_ := A_ (Kd.R_mono (Kd.R_keep (IsS99.apart (show IsS99 w0 _ g s0_0 t172 from hI_) (pR_ HO171.out) (by decide)) hk (fun _ h => h.2)) (fun _ h => h.1)); have n1_ := A_ (KeepBut.trans hK_ hk (.inl rfl)); have n2_ := A_ (hb); have n3_ := A_ (hi); clear HO171 HK HB HI0; revert n0_ n1_ n2_ n3_; intro HO171 HK HB HI0; (try clear hb); (try clear hk); (try clear hi); obtain ⟨Ao31, co31, eo31⟩ := Kd.R_slice HO171.out; subst eo31) | ((with_reducible refine gate_callee (f := 72) rfl ?_); refine goesL_ (some 40) rfl rfl Try.func72 (by kernel_rfl) rfl #[.pointer (some ⟨g, 0, none⟩), .int .i64 (t169.length : Int)] rfl ga_ ?_; (with_reducible refine (spec_l6Rd_pick.calls k g s0_0 t174 (t169.length : Int) t181 t182 w0 _ ?side1 ?side2 A20.out).mono ?_); (case side1 => repeat (first | (with_reducible first | exact HI0.out | apply IsS99.alloc | apply IsS99.drewN | apply IsS99.drew | apply IsS99.set_1) | exact HI0.out)); (case side2 => exact hB_); rintro e w32 ⟨rfl, hi, hb, hk⟩; refine ⟨_, rfl, ?_⟩; have n0_ := A_ (Kd.R_mono (Kd.R_keep (IsS99.apart (show IsS99 w0 _ g s0_0 t174 from hI_) (pR_ HO171.out) (by decide)) hk (fun _ h => h.2)) (fun _ h => h.1)); have n1_ := A_ (KeepBut.trans hK_ hk (.inl rfl)); have n2_ := A_ (hb); have n3_ := A_ (hi); clear HO171 HK HB HI0; revert n0_ n1_ n2_ n3_; intro HO171 HK HB HI0; (try clear hb); (try clear hk); (try clear hi)) | ((with_reducible refine gate_callee (f := 46) rfl ?_); refine goesL_ (some 42) rfl rfl Try.func46 (by kernel_rfl) rfl #[.pointer (some ⟨g, 0, none⟩)] rfl ga_ ?_; (with_reducible refine (spec_l71Pt.calls k g s0_0 t182 t183 t184 t185 w0 _ ?side1 ?side2 A21.out).mono ?_); (case side1 => repeat (first | (with_reducible first | exact HI0.out | apply IsS99.alloc | apply IsS99.drewN | apply IsS99.drew | apply IsS99.set_1) | exact HI0.out)); (case side2 => exact hB_); rintro e w33 ⟨rfl, hi, hb, hk⟩; refine ⟨_, rfl, ?_⟩; have n0_ := A_ (Kd.R_mono (Kd.R_keep (IsS99.apart (show IsS99 w0 _ g s0_0 t182 from hI_) (pR_ HO171.out) (by decide)) hk (fun _ h => h.2)) (fun _ h => h.1)); have n1_ := A_ (KeepBut.trans hK_ hk (.inl rfl)); have n2_ := A_ (hb); have n3_ := A_ (hi); clear HO171 HK HB HI0; revert n0_ n1_ n2_ n3_; intro HO171 HK HB HI0; (try clear hb); (try clear hk); (try clear hi); have p24 : 0 ≤ (t181 : Int) := of_decide_eq_true (by first | (with_reducible assumption) | assumption); have q24 : (t181 : Int) < ((t169.length : Int) : Int) := of_decide_eq_true (by first | (with_reducible assumption) | assumption); obtain ⟨go24, co24, eo24, gb24, gl24, cl24, HG24⟩ := Kd.R_form HO171.out (by omega); (first | cases eo24 | (injection eo24 with ea_ en_ ec_; (first | subst ea_ | (injection ea_ with ea_; subst ea_)); subst ec_; clear en_)); have GB24 := A_ gb24; have GG24 := A_ HG24; clear gb24 gl24 HG24; obtain ⟨ce24, hcl24, hM24, hcc24, hfr24⟩ := Kd.R_elem HO171.out z25 (t181 : Int) p24 q24; obtain rfl := k25_openM hM24; have hx24_0 : w33.cell? ⟨go24, (t181 : Int).toNat * 2, none⟩ = some (.int .i64 ((rd_T25 t169 t181).f0)) := hcc24 0 _ rfl; have hx24_1 : w33.cell? ⟨go24, (t181 : Int).toNat * 2 + 1, none⟩ = some (.int .i64 ((rd_T25 t169 t181).f1)) := hcc24 1 _ rfl; have hf24_0 : w33.frozen? ⟨go24, (t181 : Int).toNat * 2, none⟩ = false := hfr24 0; have hf24_1 : w33.frozen? ⟨go24, (t181 : Int).toNat * 2 + 1, none⟩ = false := hfr24 1; clear hcl24 hcc24 hfr24 hM24; replace p24 := eq_true p24; replace q24 := eq_true q24; have HX34 := A_ (show Kd.R k25 25 w33 w.heap.size (fun _ => True) (.slice (some ⟨go24, 0, none⟩) t169.length co31) t169 from (pR_ HO171.out)); obtain ⟨ce34, hcl34, hM34, hcc34, hfr34⟩ := Kd.R_elem HX34.out z25 (t181 : Int) (of_decide_eq_true (by first | (with_reducible assumption) | assumption)) (by have h_ : (t181 : Int) < ((t169.length : Int) : Int) := of_decide_eq_true (by first | (with_reducible assumption) | assumption); first | exact h_ | (have e_ := (Kd.R_reads' HO171.out).1; omega) | simpa using h_); obtain rfl := k25_openM hM34; have HP34 := Kd.R_seg HX34.out (t181 : Int) (of_decide_eq_true (by first | (with_reducible assumption) | assumption)) (by have h_ : (t181 : Int) < ((t169.length : Int) : Int) := of_decide_eq_true (by first | (with_reducible assumption) | assumption); first | exact h_ | (have e_ := (Kd.R_reads' HO171.out).1; omega) | simpa using h_) (seg := [.int .i64 t183, .int .i64 t184]) (j := 0) hcl34 hcc34 (show 2 ≤ 2 from by decide) (x' := (⟨t183, t184⟩ : S25)) (k25_mkM _ _ _ (⟨t183, t184⟩ : S25) ) (fun _ hk => hk); have hx34_0 := hcc34 0 _ rfl; (try simp only [show (k25).sz = 2 from rfl, Nat.mul_one, Nat.add_zero] at hx34_0); have hf34_0 := hfr34 0; (try simp only [show (k25).sz = 2 from rfl, Nat.mul_one, Nat.add_zero] at hf34_0); have hx34_1 := hcc34 1 _ rfl; (try simp only [show (k25).sz = 2 from rfl, Nat.mul_one, Nat.add_zero] at hx34_1); have hf34_1 := hfr34 1; (try simp only [show (k25).sz = 2 from rfl, Nat.mul_one, Nat.add_zero] at hf34_1); clear hcl34 hcc34 hfr34 hM34) | ((with_reducible refine gate_store (t := 25) (p := 43) rfl ?_); refine store_event (t := 25) (p := 43) (v := ?vo_w35) (w1 := ((w33.setCell ⟨go24, (t181 : Int).toNat * 2, none⟩ (.int .i64 t183)).setCell ⟨go24, (t181 : Int).toNat * 2 + 1, none⟩ (.int .i64 t184))) ?hg ?ho ?hn ?hr ?_; (case ho => rfl); (case hg => rfl); (case hn => rfl); (case hr => first | (go_simp; done) | (go_simp; rfl)); intro w35 hw; have hg : w33.grownBy w35 (some go24) := (by rw [hw]; exact HP34.2); have hp_ : Kd.R k25 25 w35 w.heap.size (fun _ => True) (.slice (some ⟨go24, 0, none⟩) t169.length co31) y186 := (by rw [hw, Ny186.out]; exact HP34.1); clear HP34; have n0_ := A_ (IsS99.grown hI_ hg (IsS99.own_ne HI0.out HO171.out (by decide))); have n1_ := A_ (hp_); have n2_ := A_ ((by rw [hw]; exact below_set (below_set (HB.out) (Nat.le_trans HL.out GB24.out)) (Nat.le_trans HL.out GB24.out) : Below w0.heap.size w0 w35)); have n3_ := A_ (KeepBut.trans hK_ (KeepBut.of_grown hg g) (Kd.R_base2 HO171.out)); clear HI0 HO171 HB HK; revert n0_ n1_ n2_ n3_; intro HI0 HO171 HB HK; clear hg hw hp_))
     go_ret
     exact ⟨_, by first | rfl | (simp [errW_none, errW_some] <;> rfl) | (simp [*, errW_none, errW_some] <;> rfl), by (with_reducible repeat (first | apply Kd.R_alloc | apply Kd.R_drewN | apply Kd.R_drew)); exact HO171.out, hI_, hB_, hK_⟩
    ·rw [if_neg c23] at H; exact absurd H (by simp)
   ·rw [if_neg c22] at H; exact absurd H (by simp)
  ·rw [if_neg c19] at H; have c19b0 : (t173 == 1) = false := beq_eq_false_iff_ne.mpr c19; have c19b1 : (t173 != 1) = true := bne_iff_ne.mpr c19; by_cases c36 : t173 = 2
   ·rw [if_pos c36] at H; have c36b0 : (t173 == 2) = true := beq_iff_eq.mpr c36; have c36b1 : (t173 != 2) = false := bne_eq_false_iff_eq.mpr c36; clear c36; replace H := Option.bind_eq_some_iff.mp H; obtain ⟨⟨t187, t188⟩, A370, H⟩ := H; (try dsimp only at H); have A37 := A_ A370; clear A370; have H' := A_ H; clear H; go_enter Try.func45, Try.ntmps45
    go_wp2_with (first | ((with_reducible refine gate_callee (f := 72) rfl ?_); refine goesL_ (some 8) rfl rfl Try.func72 (by kernel_rfl) rfl #[.pointer (some ⟨g, 0, none⟩), .int .i64 5] rfl ga_ ?_; (with_reducible refine (spec_l6Rd_pick.calls k g s0_0 s0_1 5 t161 t162 w0 _ ?side1 ?side2 A2.out).mono ?_); (case side1 => repeat (first | (with_reducible first | exact HI0.out | apply IsS99.alloc | apply IsS99.drewN | apply IsS99.drew | apply IsS99.set_1) | exact HI0.out)); (case side2 => exact hB_); rintro e w38 ⟨rfl, hi, hb, hk⟩; refine ⟨_, rfl, ?_⟩; have n0_ := A_ (KeepBut.trans hK_ hk (.inl rfl)); have n1_ := A_ (hb); have n2_ := A_ (hi); clear HK HB HI0; revert n0_ n1_ n2_; intro HK HB HI0; (try clear hb); (try clear hk); (try clear hi)) | ((with_reducible refine gate_callee (f := 72) rfl ?_); refine goesL_ (some 10) rfl rfl Try.func72 (by kernel_rfl) rfl #[.pointer (some ⟨g, 0, none⟩), .int .i64 5] rfl ga_ ?_; (with_reducible refine (spec_l6Rd_pick.calls k g s0_0 t162 5 t163 t164 w0 _ ?side1 ?side2 A3.out).mono ?_); (case side1 => repeat (first | (with_reducible first | exact HI0.out | apply IsS99.alloc | apply IsS99.drewN | apply IsS99.drew | apply IsS99.set_1) | exact HI0.out)); (case side2 => exact hB_); rintro e w39 ⟨rfl, hi, hb, hk⟩; refine ⟨_, rfl, ?_⟩; have n0_ := A_ (KeepBut.trans hK_ hk (.inl rfl)); have n1_ := A_ (hb); have n2_ := A_ (hi); clear HK HB HI0; revert n0_ n1_ n2_; intro HK HB HI0; (try clear hb); (try clear hk); (try clear hi)) | ((with_reducible refine gate_callee (f := 72) rfl ?_); refine goesL_ (some 17) rfl rfl Try.func72 (by kernel_rfl) rfl #[.pointer (some ⟨g, 0, none⟩), .int .i64 (wrap64 (9 - t161))] rfl ga_ ?_; (with_reducible refine (spec_l6Rd_pick.calls k g s0_0 t164 (wrap64 (9 - t161)) t165 t166 w0 _ ?side1 ?side2 A4.out).mono ?_); (case side1 => repeat (first | (with_reducible first | exact HI0.out | apply IsS99.alloc | apply IsS99.drewN | apply IsS99.drew | apply IsS99.set_1) | exact HI0.out)); (case side2 => exact hB_); rintro e w40 ⟨rfl, hi, hb, hk⟩; refine ⟨_, rfl, ?_⟩; have n0_ := A_ (KeepBut.trans hK_ hk (.inl rfl)); have n1_ := A_ (hb); have n2_ := A_ (hi); clear HK HB HI0; revert n0_ n1_ n2_; intro HK HB HI0; (try clear hb); (try clear hk); (try clear hi)) | ((with_reducible refine gate_callee (f := 72) rfl ?_); refine goesL_ (some 22) rfl rfl Try.func72 (by kernel_rfl) rfl #[.pointer (some ⟨g, 0, none⟩), .int .i64 (wrap64 (9 - t163))] rfl ga_ ?_; (with_reducible refine (spec_l6Rd_pick.calls k g s0_0 t166 (wrap64 (9 - t163)) t167 t168 w0 _ ?side1 ?side2 A5.out).mono ?_); (case side1 => repeat (first | (with_reducible first | exact HI0.out | apply IsS99.alloc | apply IsS99.drewN | apply IsS99.drew | apply IsS99.set_1) | exact HI0.out)); (case side2 => exact hB_); rintro e w41 ⟨rfl, hi, hb, hk⟩; refine ⟨_, rfl, ?_⟩; have n0_ := A_ (KeepBut.trans hK_ hk (.inl rfl)); have n1_ := A_ (hb); have n2_ := A_ (hi); clear HK HB HI0; revert n0_ n1_ n2_; intro HK HB HI0; (try clear hb); (try clear hk); (try clear hi)) | ((with_reducible refine gate_callee (f := 79) rfl ?_); refine goesL_ (some 24) rfl rfl Try.func79 (by kernel_rfl) rfl #[.pointer (some ⟨g, 0, none⟩), .int .i64 t161, .int .i64 t163, .int .i64 (wrap64 (1 + t165)), .int .i64 (wrap64 (1 + t167))] rfl ga_ ?_; (with_reducible refine (spec_l71Box.calls k g s0_0 t168 t161 t163 (wrap64 (1 + t165)) (wrap64 (1 + t167)) t169 t172 w0 _ ?side1 ?side2 A6.out).mono ?_); (case side1 => repeat (first | (with_reducible first | exact HI0.out | apply IsS99.alloc | apply IsS99.drewN | apply IsS99.drew | apply IsS99.set_1) | exact HI0.out)); (case side2 => exact hB_); rintro e w42 ⟨v170, rfl, ho0, hi, hb, hk⟩; refine ⟨_, rfl, ?_⟩; have n0_ := A_ (Kd.R_lower ho0 (keep_size (w := w) (g := g) (row := none) hK_)); have n1_ := A_ (KeepBut.trans hK_ hk (.inl rfl)); have n2_ := A_ (hb); have n3_ := A_ (hi); clear HK; clear HB; clear HI0; have HO171 := n0_; have HK := n1_; have HB := n2_; have HI0 := n3_; clear n0_ n1_ n2_ n3_; (try clear hb); (try clear hk); (try clear hi); (try clear ho0)) | ((with_reducible refine gate_callee (f := 72) rfl ?_); refine goesL_ (some 26) rfl rfl Try.func72 (by kernel_rfl) rfl #[.pointer (some ⟨g, 0, none⟩), .int .i64 12] rfl ga_ ?_; (with_reducible refine (spec_l6Rd_pick.calls k g s0_0 t172 12 t173 t174 w0 _ ?side1 ?side2 A7.out).mono ?_); (case side1 => repeat (first | (with_reducible first | exact HI0.out | apply IsS99.alloc | apply IsS99.drewN | apply IsS99.drew | apply IsS99.set_1) | exact HI0.out)); (case side2 => exact hB_); rintro e w43 ⟨rfl, hi, hb, hk⟩; refine ⟨_, rfl, ?_⟩; have n0_ := A_ (Kd.R_mono (Kd.R_keep (IsS99.apart (show IsS99 w0 _ g s0_0 t172 from hI_) (pR_ HO171.out) (by decide)) hk (fun _ h => h.2)) (fun _ h => h.1)); have n1_ := A_ (KeepBut.trans hK_ hk (.inl rfl)); have n2_ := A_ (hb); have n3_ := A_ (hi); clear HO171 HK HB HI0; revert n0_ n1_ n2_ n3_; intro HO171 HK HB HI0; (try clear hb); (try clear hk); (try clear hi)) | ((with_reducible refine gate_callee (f := 72) rfl ?_); refine goesL_ (some 47) rfl rfl Try.func72 (by kernel_rfl) rfl #[.pointer (some ⟨g, 0, none⟩), .int .i64 6] rfl ga_ ?_; (with_reducible refine (spec_l6Rd_pick.calls k g s0_0 t174 6 t187 t188 w0 _ ?side1 ?side2 A37.out).mono ?_); (case side1 => repeat (first | (with_reducible first | exact HI0.out | apply IsS99.alloc | apply IsS99.drewN | apply IsS99.drew | apply IsS99.set_1) | exact HI0.out)); (case side2 => exact hB_); rintro e w44 ⟨rfl, hi, hb, hk⟩; refine ⟨_, rfl, ?_⟩; have n0_ := A_ (Kd.R_mono (Kd.R_keep (IsS99.apart (show IsS99 w0 _ g s0_0 t174 from hI_) (pR_ HO171.out) (by decide)) hk (fun _ h => h.2)) (fun _ h => h.1)); have n1_ := A_ (KeepBut.trans hK_ hk (.inl rfl)); have n2_ := A_ (hb); have n3_ := A_ (hi); clear HO171 HK HB HI0; revert n0_ n1_ n2_ n3_; intro HO171 HK HB HI0; (try clear hb); (try clear hk); (try clear hi)))
    go_loopg [6] k (fun kq v6 w' => ∃ (x5_1 : List (S25)) (x6_1 : Int) (x1001_1 : Int), v6 = .int .i64 x6_1 ∧ Aside0 (spec_l71Loop.l0 kq x5_1 x6_1 s0_0 x1001_1 = some (r1, r2)) ∧ Aside0 (kq ≤ k) ∧ Aside0 (Kd.R k25 25 w' w.heap.size (fun _ => True) v170 x5_1) ∧ Aside0 (IsS99 w0 w' g s0_0 x1001_1) ∧ Aside0 (KeepBut w w' g none) ∧ Aside0 (Below w0.heap.size w0 w'))
    case atStart => exact ⟨(t169), (t187), (t188), (by first | rfl | (simp; done) | (simp [*]; done)), H', ⟨Nat.le_refl _⟩, ⟨by (with_reducible repeat (first | apply Kd.R_alloc | apply Kd.R_drewN | apply Kd.R_drew)); exact HO171.out⟩, ⟨hI_⟩, ⟨hK_⟩, ⟨hB_⟩⟩
    case round =>
     clear H'; try clear c1
     try clear c2
     try clear p2
     try clear q2
     try clear hx2
     try clear hf2
     try clear c3
     try clear hx3
     try clear hf3
     try clear c4
     try clear p6
     try clear c7
     try clear c8
     try clear c8b0
     try clear c8b1
     try clear c10
     try clear c19
     try clear c19b0
     try clear c19b1
     try clear c22
     try clear c22b0
     try clear c23
     try clear c23b0
     try clear c24
     try clear p24
     try clear q24
     try clear hx24
     try clear hf24
     try clear c34
     try clear hx34
     try clear hf34
     try clear c36
     try clear c36b0
     try clear c36b1
     try clear hx24_0
     try clear hx24_1
     try clear hx34_0
     try clear hx34_1
     try clear p24
     try clear q24
     obtain ⟨x5_1, x6_1, x1001_1, rfl, HA, HK1, HO_5, HI0, HK, HB⟩ := hrel; cases gk with
     | zero => exact absurd HA.out (by simp [spec_l71Loop.l0])
     | succ k1 =>
      have H := HA.out; clear HA; simp only [spec_l71Loop.l0] at H; by_cases c45 : x6_1 ≥ 0
      ·rw [if_pos c45] at H; have c45b0 : decide (0 ≤ x6_1) = true := decide_eq_true c45; clear c45; by_cases c46 : (x5_1.length : Int) = 0
       ·rw [if_pos c46] at H; exact absurd H (by simp)
       ·rw [if_neg c46] at H; have c46b0 : ((x5_1.length : Int) == 0) = false := beq_eq_false_iff_ne.mpr c46; have c46b1 : ((x5_1.length : Int) != 0) = true := bne_iff_ne.mpr c46; have c46b2 : ¬ (x5_1 = []) := fun h_ => c46 (by rw [h_]; rfl)
        replace H := Option.bind_eq_some_iff.mp H; obtain ⟨⟨t189, t190, t191⟩, A470, H⟩ := H; (try dsimp only at H); have A47 := A_ A470; clear A470; obtain ⟨ji48, hji48⟩ : ∃ j_ : Int, (Int.tmod x6_1 (x5_1.length : Int)) = j_ := ⟨_, rfl⟩; replace H : (if 0 ≤ (ji48) then (if (ji48) < (x5_1.length : Int) then (spec_l71Loop.l0 k1 (x5_1.set ((ji48) : Int).toNat (⟨t189, t190⟩ : S25)) (wrap64 (x6_1 - 1)) s0_0 t191) else (none)) else (none)) = some (r1, r2) := by first | (rw [hji48] at H; exact H) | (simp only [hji48] at H ⊢; exact H)
        (try rw [hji48] at A47); by_cases c49 : 0 ≤ (ji48)
        ·rw [if_pos c49] at H; have c49b0 : decide (0 ≤ (ji48)) = true := decide_eq_true c49; clear c49; by_cases c50 : (ji48) < (x5_1.length : Int)
         ·rw [if_pos c50] at H; have c50b0 : decide ((ji48) < (x5_1.length : Int)) = true := decide_eq_true c50; clear c50; obtain ⟨y192, hy192⟩ : ∃ y_ : List (S25), y_ = (x5_1.set ((ji48) : Int).toNat (⟨t189, t190⟩ : S25)) := ⟨_, rfl⟩; replace H : (spec_l71Loop.l0 k1 y192 (wrap64 (x6_1 - 1)) s0_0 t191) = some (r1, r2) := by first | (rw [hy192]; with_reducible exact H) | (have H2_ := (Option.bind_some _ _).symm.trans H; rw [hy192]; with_reducible exact H2_) | (have H2_ := (Option.bind_some _ _).symm.trans H; with_reducible exact H2_) | with_reducible exact H | (rw [hy192]; exact H) | exact H
          have Ny192 := A_ hy192; clear hy192; have H' := A_ H; clear H; try go_wp2
          have n0_ := A_ (Kd.R_drew HO_5.out); have n1_ := A_ (IsS99.drew HI0.out); have n2_ := A_ (keep_drew HK.out); have n3_ := A_ (below_drew1 HB.out); clear HO_5 HI0 HK HB; revert n0_ n1_ n2_ n3_; intro HO_5 HI0 HK HB; obtain ⟨Ao53, co53, eo53⟩ := Kd.R_slice HO_5.out; (first | subst eo53 | (injection eo53 with f1_ f2_ f3_; have f4_ := f1_.symm; have f5_ := f3_.symm; clear f1_ f2_ f3_; subst f4_; subst f5_)); refine start_ (n := 9) (S := fun w' => True) (ds := [8]) #[false, false, false, false, false, false, false, false, false] (by kernel_rfl) rfl rfl trivial (fun hHeld => ?_); refine with_tabW spec_l71Loop.tab13 spec_l71Loop.bits13 (fun HT_ HW_ => ?_)
          generalize wr.drew = w52 at HO_5 HI0 HK HB hHeld ⊢
          refine pu_ HT_.out 0 52 {} ?_; refine pu_ HT_.out 1 53 {} ?_; refine pu_ HT_.out 2 54 {} ?_; refine pu_ HT_.out 3 55 {} ?_; refine pu_ HT_.out 4 56 {} ?_; refine pu_ HT_.out 5 57 {} ?_
          refine one_ (i := 6) (N := some 58) #[true, true, true, true, true, true, true, false, false] rfl rfl (one_of HT_.out (by kernel_rfl)) (by decide) (fun K hK => ?_); refine goes_ Try.func46 (by kernel_rfl) rfl #[.pointer (some ⟨g, 0, none⟩)] (by rfl) rfl rfl ga_ ?_; with_reducible refine (spec_l71Pt.calls k1 g s0_0 x1001_1 t189 t190 t191 w0 _ ?side1 ?side2 A47.out).mono ?_
          (case side1 => repeat (first | (with_reducible first | exact HI0.out | apply IsS99.alloc | apply IsS99.drewN | apply IsS99.drew | apply IsS99.set_1) | exact HI0.out))
          (case side2 => exact hB_)
          rintro e w54 ⟨rfl, hi, hb, hk⟩; refine ⟨_, rfl, ?_⟩; have n0_ := A_ (Kd.R_mono (Kd.R_keep (IsS99.apart (show IsS99 w0 _ g s0_0 x1001_1 from hI_) (pR_ HO_5.out) (by decide)) hk (fun _ h => h.2)) (fun _ h => h.1)); have n1_ := A_ (KeepBut.trans hK_ hk (.inl rfl)); have n2_ := A_ (hb); have n3_ := A_ (hi); clear HO_5 HK HB HI0; revert n0_ n1_ n2_ n3_; intro HO_5 HK HB HI0; (try clear hb); (try clear hk); (try clear hi); have p51 : 0 ≤ ((ji48) : Int) := of_decide_eq_true (by first | (with_reducible assumption) | assumption); have q51 : ((ji48) : Int) < ((x5_1.length : Int) : Int) := of_decide_eq_true (by first | (with_reducible assumption) | assumption); obtain ⟨go51, co51, eo51, gb51, gl51, cl51, HG51⟩ := Kd.R_form HO_5.out (by omega); (first | cases eo51 | (injection eo51 with ea_ en_ ec_; (first | subst ea_ | (injection ea_ with ea_; subst ea_)); subst ec_; clear en_)); have GB51 := A_ gb51; have GG51 := A_ HG51; clear gb51 gl51 HG51; obtain ⟨ce51, hcl51, hM51, hcc51, hfr51⟩ := Kd.R_elem HO_5.out z25 ((ji48) : Int) p51 q51; obtain rfl := k25_openM hM51; have hx51_0 : World.cell? _ ⟨go51, ((ji48) : Int).toNat * 2, none⟩ = some (.int .i64 ((rd_T25 x5_1 (ji48)).f0)) := hcc51 0 _ rfl; have hx51_1 : World.cell? _ ⟨go51, ((ji48) : Int).toNat * 2 + 1, none⟩ = some (.int .i64 ((rd_T25 x5_1 (ji48)).f1)) := hcc51 1 _ rfl; have hf51_0 : World.frozen? _ ⟨go51, ((ji48) : Int).toNat * 2, none⟩ = false := hfr51 0; have hf51_1 : World.frozen? _ ⟨go51, ((ji48) : Int).toNat * 2 + 1, none⟩ = false := hfr51 1; clear hcl51 hcc51 hfr51 hM51; replace p51 := eq_true p51; replace q51 := eq_true q51; have HN0_go51 := A_ (show g ≠ go51 from by have h_ := IsS99.own_ne HI0.out HO_5.out (by decide); intro e_; exact h_ (by rw [e_]; rfl)); obtain ⟨ce55, hcl55, hM55, hcc55, hfr55⟩ := Kd.R_elem HO_5.out z25 ((ji48) : Int) (of_decide_eq_true (by first | (with_reducible assumption) | assumption)) (by have h_ : ((ji48) : Int) < ((x5_1.length : Int) : Int) := of_decide_eq_true (by first | (with_reducible assumption) | assumption); first | exact h_ | (have e_ := (Kd.R_reads' HO_5.out).1; omega) | simpa using h_); obtain rfl := k25_openM hM55; have HP55 := (Kd.R_seg HO_5.out ((ji48) : Int) (of_decide_eq_true (by first | (with_reducible assumption) | assumption)) (by have h_ : ((ji48) : Int) < ((x5_1.length : Int) : Int) := of_decide_eq_true (by first | (with_reducible assumption) | assumption); first | exact h_ | (have e_ := (Kd.R_reads' HO_5.out).1; omega) | simpa using h_) (seg := [.int .i64 t189, .int .i64 t190]) (j := 0) hcl55 hcc55 (show 2 ≤ 2 from by decide) (x' := (⟨t189, t190⟩ : S25)) (k25_mkM _ _ _ (⟨t189, t190⟩ : S25) ) (fun _ hk => hk)).1; rw [← Ny192.out] at HP55; have HQ55 := A_ HP55; clear hcl55 hcc55 hfr55 hM55 HP55; refine hK.out _ _ trivial (fun hHeld => ?_); clear hK K; refine norm_ (a' := ?_) ?_ ?_; rotate_left; ·show Act.put _ (some 58) _ = _; simp only [Act.put, Geo.sa_, Geo.sb_, Geo.sc_, i64_w, i32_w]; rfl
          refine pu_ HT_.out 7 59 {} ?_
          refine last_ (i := 8) (N := none) #[true, true, true, true, true, true, true, true, true] rfl rfl (one_of HT_.out (by kernel_rfl)) (by decide) (fun K hK => ?_); refine skip_ (w1 := ?_) (by rfl) rfl ?_ ?_; rotate_left; ·go_simp; rfl
          refine hK.out _ _ ?_; clear hK K; refine done_ (done_of HT_.out (by kernel_rfl)) ?_; try go_wp2
          go_roundg k1
          case measure => have := HK1.out; omega
          case rel => exact ⟨(y192), (wrap64 (x6_1 - 1)), (t191), (by first | rfl | (simp; done) | (simp [*]; done)), H', ⟨by have := HK1.out; omega⟩, ⟨by (with_reducible repeat (first | apply Kd.R_alloc | apply Kd.R_drewN | apply Kd.R_drew)); exact HQ55.out⟩, ⟨by repeat (first | (with_reducible first | exact HI0.out | apply IsS99.alloc | apply IsS99.drewN | apply IsS99.drew | apply IsS99.set_1 | refine IsS99.far ?_ HN0_go51.out _ | refine IsS99.far ?_ HN0_go51.out _) | exact HI0.out)⟩, ⟨by repeat (first | (with_reducible first | exact HK.out | apply KeepBut.set_ | apply keep_drewN | apply keep_drew | apply keep_alloc | refine keep_far ?_ GB51.out _ | refine keep_far ?_ GB51.out _) | exact HK.out)⟩, ⟨by repeat (first | (with_reducible first | exact HB.out | apply below_alloc | apply pw_below_drewN | apply below_drew1 | refine below_set ?_ (Nat.le_trans HL.out GB51.out) | refine below_set ?_ (Nat.le_trans HL.out GB51.out) | refine below_set ?_ (IsS99.ge HI0.out)) | exact HB.out)⟩⟩
         ·rw [if_neg c50] at H; exact absurd H (by simp)
        ·rw [if_neg c49] at H; exact absurd H (by simp)
      ·rw [if_neg c45] at H; have c45b0 : decide (0 ≤ x6_1) = false := decide_eq_false c45; clear c45; simp only [Option.some.injEq, Prod.mk.injEq] at H; obtain ⟨rfl, rfl⟩ := H; go_wp2
       go_ret
       exact ⟨_, by first | rfl | (simp [errW_none, errW_some] <;> rfl) | (simp [*, errW_none, errW_some] <;> rfl), by (with_reducible repeat (first | apply Kd.R_alloc | apply Kd.R_drewN | apply Kd.R_drew)); exact HO_5.out, hI_, hB_, hK_⟩
   ·rw [if_neg c36] at H; have c36b0 : (t173 == 2) = false := beq_eq_false_iff_ne.mpr c36; have c36b1 : (t173 != 2) = true := bne_iff_ne.mpr c36; simp only [Option.some.injEq, Prod.mk.injEq] at H; obtain ⟨rfl, rfl⟩ := H; go_enter Try.func45, Try.ntmps45
    go_wp2_with (first | ((with_reducible refine gate_callee (f := 72) rfl ?_); refine goesL_ (some 8) rfl rfl Try.func72 (by kernel_rfl) rfl #[.pointer (some ⟨g, 0, none⟩), .int .i64 5] rfl ga_ ?_; (with_reducible refine (spec_l6Rd_pick.calls k g s0_0 s0_1 5 t161 t162 w0 _ ?side1 ?side2 A2.out).mono ?_); (case side1 => repeat (first | (with_reducible first | exact HI0.out | apply IsS99.alloc | apply IsS99.drewN | apply IsS99.drew | apply IsS99.set_1) | exact HI0.out)); (case side2 => exact hB_); rintro e w56 ⟨rfl, hi, hb, hk⟩; refine ⟨_, rfl, ?_⟩; have n0_ := A_ (KeepBut.trans hK_ hk (.inl rfl)); have n1_ := A_ (hb); have n2_ := A_ (hi); clear HK HB HI0; revert n0_ n1_ n2_; intro HK HB HI0; (try clear hb); (try clear hk); (try clear hi)) | ((with_reducible refine gate_callee (f := 72) rfl ?_); refine goesL_ (some 10) rfl rfl Try.func72 (by kernel_rfl) rfl #[.pointer (some ⟨g, 0, none⟩), .int .i64 5] rfl ga_ ?_; (with_reducible refine (spec_l6Rd_pick.calls k g s0_0 t162 5 t163 t164 w0 _ ?side1 ?side2 A3.out).mono ?_); (case side1 => repeat (first | (with_reducible first | exact HI0.out | apply IsS99.alloc | apply IsS99.drewN | apply IsS99.drew | apply IsS99.set_1) | exact HI0.out)); (case side2 => exact hB_); rintro e w57 ⟨rfl, hi, hb, hk⟩; refine ⟨_, rfl, ?_⟩; have n0_ := A_ (KeepBut.trans hK_ hk (.inl rfl)); have n1_ := A_ (hb); have n2_ := A_ (hi); clear HK HB HI0; revert n0_ n1_ n2_; intro HK HB HI0; (try clear hb); (try clear hk); (try clear hi)) | ((with_reducible refine gate_callee (f := 72) rfl ?_); refine goesL_ (some 17) rfl rfl Try.func72 (by kernel_rfl) rfl #[.pointer (some ⟨g, 0, none⟩), .int .i64 (wrap64 (9 - t161))] rfl ga_ ?_; (with_reducible refine (spec_l6Rd_pick.calls k g s0_0 t164 (wrap64 (9 - t161)) t165 t166 w0 _ ?side1 ?side2 A4.out).mono ?_); (case side1 => repeat (first | (with_reducible first | exact HI0.out | apply IsS99.alloc | apply IsS99.drewN | apply IsS99.drew | apply IsS99.set_1) | exact HI0.out)); (case side2 => exact hB_); rintro e w58 ⟨rfl, hi, hb, hk⟩; refine ⟨_, rfl, ?_⟩; have n0_ := A_ (KeepBut.trans hK_ hk (.inl rfl)); have n1_ := A_ (hb); have n2_ := A_ (hi); clear HK HB HI0; revert n0_ n1_ n2_; intro HK HB HI0; (try clear hb); (try clear hk); (try clear hi)) | ((with_reducible refine gate_callee (f := 72) rfl ?_); refine goesL_ (some 22) rfl rfl Try.func72 (by kernel_rfl) rfl #[.pointer (some ⟨g, 0, none⟩), .int .i64 (wrap64 (9 - t163))] rfl ga_ ?_; (with_reducible refine (spec_l6Rd_pick.calls k g s0_0 t166 (wrap64 (9 - t163)) t167 t168 w0 _ ?side1 ?side2 A5.out).mono ?_); (case side1 => repeat (first | (with_reducible first | exact HI0.out | apply IsS99.alloc | apply IsS99.drewN | apply IsS99.drew | apply IsS99.set_1) | exact HI0.out)); (case side2 => exact hB_); rintro e w59 ⟨rfl, hi, hb, hk⟩; refine ⟨_, rfl, ?_⟩; have n0_ := A_ (KeepBut.trans hK_ hk (.inl rfl)); have n1_ := A_ (hb); have n2_ := A_ (hi); clear HK HB HI0; revert n0_ n1_ n2_; intro HK HB HI0; (try clear hb); (try clear hk); (try clear hi)) | ((with_reducible refine gate_callee (f := 79) rfl ?_); refine goesL_ (some 24) rfl rfl Try.func79 (by kernel_rfl) rfl #[.pointer (some ⟨g, 0, none⟩), .int .i64 t161, .int .i64 t163, .int .i64 (wrap64 (1 + t165)), .int .i64 (wrap64 (1 + t167))] rfl ga_ ?_; (with_reducible refine (spec_l71Box.calls k g s0_0 t168 t161 t163 (wrap64 (1 + t165)) (wrap64 (1 + t167)) t169 t172 w0 _ ?side1 ?side2 A6.out).mono ?_); (case side1 => repeat (first | (with_reducible first | exact HI0.out | apply IsS99.alloc | apply IsS99.drewN | apply IsS99.drew | apply IsS99.set_1) | exact HI0.out)); (case side2 => exact hB_); rintro e w60 ⟨v170, rfl, ho0, hi, hb, hk⟩; refine ⟨_, rfl, ?_⟩; have n0_ := A_ (Kd.R_lower ho0 (keep_size (w := w) (g := g) (row := none) hK_)); have n1_ := A_ (KeepBut.trans hK_ hk (.inl rfl)); have n2_ := A_ (hb); have n3_ := A_ (hi); clear HK; clear HB; clear HI0; have HO171 := n0_; have HK := n1_; have HB := n2_; have HI0 := n3_; clear n0_ n1_ n2_ n3_; (try clear hb); (try clear hk); (try clear hi); (try clear ho0)) | ((with_reducible refine gate_callee (f := 72) rfl ?_); refine goesL_ (some 26) rfl rfl Try.func72 (by kernel_rfl) rfl #[.pointer (some ⟨g, 0, none⟩), .int .i64 12] rfl ga_ ?_; (with_reducible refine (spec_l6Rd_pick.calls k g s0_0 t172 12 t173 t174 w0 _ ?side1 ?side2 A7.out).mono ?_); (case side1 => repeat (first | (with_reducible first | exact HI0.out | apply IsS99.alloc | apply IsS99.drewN | apply IsS99.drew | apply IsS99.set_1) | exact HI0.out)); (case side2 => exact hB_); rintro e w61 ⟨rfl, hi, hb, hk⟩; refine ⟨_, rfl, ?_⟩; have n0_ := A_ (Kd.R_mono (Kd.R_keep (IsS99.apart (show IsS99 w0 _ g s0_0 t172 from hI_) (pR_ HO171.out) (by decide)) hk (fun _ h => h.2)) (fun _ h => h.1)); have n1_ := A_ (KeepBut.trans hK_ hk (.inl rfl)); have n2_ := A_ (hb); have n3_ := A_ (hi); clear HO171 HK HB HI0; revert n0_ n1_ n2_ n3_; intro HO171 HK HB HI0; (try clear hb); (try clear hk); (try clear hi)))
    go_ret
    exact ⟨_, by first | rfl | (simp [errW_none, errW_some] <;> rfl) | (simp [*, errW_none, errW_some] <;> rfl), by (with_reducible repeat (first | apply Kd.R_alloc | apply Kd.R_drewN | apply Kd.R_drew)); exact HO171.out, hI_, hB_, hK_⟩

end Go.Proofs.Ytehkklmacglelaa.PA
