/- What the row of FnPlateHoles rests on, part 2: words, plain facts, functions and their contracts. No condition. -/
import Derived.Test.YtehkklmacglelaaMFnPlateHolesb
import Derived.Test.YtehkklmacglelaaMFnPlateHolesa
import Derived.Tactics
import Derived.KernelRfl
import Derived.Test.YtehkklmacglelaaProg
import Derived.Below
import Derived.Deep.Draws
import Derived.Deep.AppendLies
import Derived.Maps.AppendAt
import Derived.OwnWalk
import Derived.Laws.BytesArg
import Derived.Laws.MakeOwn
import Derived.Laws.OwnMore
import Derived.Deep.OwnRows
import Derived.Lib.ConvBytes
import Derived.Laws.Slices
import Derived.WalkKit
import Derived.RowKit3
import Derived.Deep.LoopGhost
import Derived.Deep.QuietTactic
import Derived.BigQuiet
import Derived.WideLaws
import Derived.Deep.DeepCutAuto
import Derived.Deep.CutBlock
import Derived.Deep.RegionHeld3
import Derived.Laws.Rows
import Derived.Lib.AppendStr
import Derived.ArgAppend
import Derived.Laws.IdiomCopy
import Derived.OrdersHeld
import Derived.Laws.BitsLemmas
import Derived.RowKit
import Derived.Laws.EntriesVeiled
import Derived.RangeFuncNested
import Derived.RangeFuncBound
import Derived.RangeFuncCalls
import Derived.RangeFuncLeaves
import Derived.LaidEqlPtr
import Derived.Shelf.Abstract
import Derived.Shelf.RegionOpen
import Derived.OwnWalkIn
import Derived.TacticsInMore
import Derived.LoopNIn
import Derived.LoopIn
namespace Go.Proofs.Ytehkklmacglelaa.PA
open Go.RowKit Go.Proofs.YtehkklmacglelaaW.PrintWords Go.Proofs.YtehkklmacglelaaW.PrintLast Go.Proofs.YtehkklmacglelaaW.PrintMore
structure Pu (P : Program) (md : Region.Mode) (ops : Array Oper) (Q : Exit → Act → World → Prop) (T : Bool × List (List Nat × List Nat)) (i : Nat) (oi : Oper) (N : Option Tmp) (v : Value) (l l' : Array Bool) (a a' : Act) : Prop where
  hi : ops[i]? = some oi := by exact rfl
  hN : oi.dst = N := by exact rfl
  hl : l.setIfInBounds i true = l' := by simp only [Geo.sa_, Geo.sb_, Geo.sc_]; rfl
  hc : anyT T l.toList l'.toList i = true := by kernel_rfl
  hQ : ∀ c a w, Q (.panic c) (a.put oi.dst v) w → Q (.panic c) a w := by exact fun _ _ _ h => h
  hw : Region.wanted oi (yielded ops a.tmps) = true := by kernel_rfl
  hy : ∀ w', (execOp a.eval oi).run P w' = .ok (.value v) w' := by intro w'; go_simp; with_reducible rfl
  ha : a.put N v = a' := by simp only [Act.put, Geo.sa_, Geo.sb_, Geo.sc_, i64_w, i32_w]; rfl
structure Pv (md : Region.Mode) (ops : Array Oper) (Q : Exit → Act → World → Prop) (T : Bool × List (List Nat × List Nat)) (i : Nat) (oi : Oper) (N : Option Tmp) (l l' : Array Bool) (a a' : Act) : Prop where
  hi : ops[i]? = some oi := by exact rfl
  hN : oi.dst = N := by exact rfl
  hl : l.setIfInBounds i true = l' := by simp only [Geo.sa_, Geo.sb_, Geo.sc_]; rfl
  hc : anyT T l.toList l'.toList i = true := by kernel_rfl
  hQ : ∀ c a w, Q (.panic c) (a.put oi.dst undef) w → Q (.panic c) a w := by exact fun _ _ _ h => h
  hw : Region.wanted oi (yielded ops a.tmps) = false := by kernel_rfl
  ha : a.put N undef = a' := by simp only [Act.put, Geo.sa_, Geo.sb_, Geo.sc_, i64_w, i32_w]; rfl
structure Tk (P : Program) (md : Region.Mode) (ops : Array Oper) (Q : Exit → Act → World → Prop) (S : World → Prop) (ds : List Nat) (T : Bool × List (List Nat × List Nat)) (B : List Nat) (i : Nat) (oi : Oper) (N : Option Tmp) (v : Value) (l l' : Array Bool) (a a' : Act) : Prop where
  hi : ops[i]? = some oi := by exact rfl
  hN : oi.dst = N := by exact rfl
  hl : l.setIfInBounds i true = l' := by simp only [Geo.sa_, Geo.sb_, Geo.sc_]; rfl
  hc : takeW T B ds l.toList l'.toList i = true := by kernel_rfl
  hQ : ∀ c a w, Q (.panic c) (a.put oi.dst v) w → Q (.panic c) a w := by exact fun _ _ _ h => h
  hw : Region.wanted oi (yielded ops a.tmps) = true := by kernel_rfl
  hy : ∀ w', S w' → (execOp a.eval oi).run P w' = .ok (.value v) w' := by intro w' hS_; go_simp; with_reducible rfl
  ha : a.put N v = a' := by simp only [Act.put, Geo.sa_, Geo.sb_, Geo.sc_, i64_w, i32_w]; rfl
section
variable {P : Program} {ops : Array Oper} {Q : Exit → Act → World → Prop} {md : Region.Mode} {S : World → Prop} {ds : List Nat} {T : Bool × List (List Nat × List Nat)} {oi : Oper} {v : Value} {fuel : Nat} {l l' : Array Bool} {a a' : Act} {w : World}
theorem pu_ (hT : rtab md ops = T) (i n : Nat) (s : Pu P md ops Q T i oi (some n) v l l' a a') (h : wpAnyLast P md ops Q S ds fuel l' a' w) : wpAnyLast P md ops Q S ds (fuel + 1) l a w :=
  pure_ _ s.hi s.hN (any_of hT s.hc) s.hQ (Or.inl ⟨s.hw, s.hy⟩) s.ha h
theorem pv_ (hT : rtab md ops = T) (i n : Nat) (s : Pv md ops Q T i oi (some n) l l' a a') (h : wpAnyLast P md ops Q S ds fuel l' a' w) : wpAnyLast P md ops Q S ds (fuel + 1) l a w :=
  pure_ _ s.hi s.hN (any_of hT s.hc) s.hQ (Or.inr ⟨s.hw, rfl⟩) s.ha h
theorem tk_ {B : List Nat} (hT : rtab md ops = T) (hB : waitsOk T.2 B = true) (i n : Nat) (hS : S w) (s : Tk P md ops Q S ds T B i oi (some n) v l l' a a') (h : wpAnyLast P md ops Q S ds fuel l' a' w) : wpAnyLast P md ops Q S ds (fuel + 1) l a w :=
  take_ _ s.hi s.hN (take_ofW hT hB s.hc) s.hQ (Or.inl ⟨s.hw, s.hy⟩) hS s.ha h
end
/-! The printed texts' proofs that come back again and again, each in one word: what such a word proves, it proves by the same steps that the text says at length. -/
theorem A_ {p : Prop} (h : p) : Aside0 p := ⟨h⟩
theorem hb0_ {w W W' : World} (_ : Below w.heap.size w W) (m : Below w.heap.size w W') : Below w.heap.size w W' := m
theorem hk0_ {w W W' : World} {g : Nat} {row : Option Nat} (_ : KeepBut w W g row) (m : KeepBut w W' g row) : KeepBut w W' g row := m
theorem hB_ {p : Prop} (m : p := by refine hb0_ HB.out ?_; repeat (first | (with_reducible first | exact HB.out | apply below_alloc | apply pw_below_drewN | apply below_drew1 | refine below_set ?_ (Aside0.out (by assumption)) | refine below_set ?_ (IsS99.ge (Aside0.out (by assumption)))) | exact HB.out)) : p := m
theorem hK_ {p : Prop} (m : p := by refine hk0_ HK.out ?_; repeat (first | (with_reducible first | exact HK.out | apply KeepBut.set_ | apply keep_drewN | apply keep_drew | apply keep_alloc | refine keep_far ?_ (Aside0.out (by assumption)) _) | exact HK.out)) : p := m
theorem hI_ {p : Prop} (m : p := by repeat (first | (with_reducible first | exact Aside0.out (by assumption) | apply IsS99.alloc | apply IsS99.drewN | apply IsS99.drew | apply IsS99.set_1 | refine IsS99.far ?_ (Aside0.out (by assumption)) _) | exact Aside0.out (by assumption))) : p := m
theorem pb_ {p : Prop} (m : p := by (with_reducible repeat (first | refine blk_drewN ?_ _ | refine blk_drew ?_ | refine blk_alloc ?_ _ | refine blk_far ?_ (Aside0.out (by assumption)) _)); exact Aside0.out (by assumption)) : p := m
theorem ga_ {p : Prop} (m : p := by (try simp only [List.map_toArray, List.map_cons, List.map_nil]); first | done | rfl | (simp only [List.length_drop, List.length_take]; rfl)) : p := m
section
variable {W W' w w1 : World} {g g2 : Nat} {o : Obj}
theorem bw_ (_h : w.heap[g]? = some o) (hb : Below W.heap.size W w1) (m : W.heap[g]? = some o := by exact pb_) : Aside0 (w1.heap[g]? = some o) := ⟨blk_below m hb⟩
theorem kw_ (_h : w.heap[g]? = some o) (hk : KeepBut W w1 g2 none) (hn : g ≠ g2) (m : W.heap[g]? = some o := by exact pb_) : Aside0 (w1.heap[g]? = some o) := ⟨KeepBut.blk hk m hn (by simp)⟩
theorem nl_ (_h : w.heap[g]? = some o) (hg : g2 = W.heap.size) (m : W.heap[g]? = some o := by exact pb_) : Aside0 (g ≠ g2) := ⟨by rw [hg]; exact Nat.ne_of_lt (blk_lt m)⟩
theorem ng_ (_h : w.heap[g]? = some o) (hg : g2 = W.heap.size) (m : W.heap[g]? = some o := by exact pb_) : Aside0 (g2 ≠ g) := ⟨by rw [hg]; exact Nat.ne_of_gt (blk_lt m)⟩
theorem kb_ (g : Nat) (hb : Below W.heap.size W w1) (m : KeepBut w W g none := by exact hK_) : Aside0 (KeepBut w w1 g none) := ⟨KeepBut.trans m (KeepBut.of_below hb g none) (.inl rfl)⟩
theorem sb_ (hb : Below W.heap.size W w1) (m : Below w.heap.size w W := by exact hB_) : Aside0 (Below w.heap.size w w1) := ⟨below_step m hb⟩
theorem lB_ (hg : g = W.heap.size) (m : Below w.heap.size w W := by exact hB_) : Aside0 (w.heap.size ≤ g) := ⟨by rw [hg]; exact below_size m⟩
variable {α : Type} {d : Kd α} {e base n : Nat} {ok : Nat → Prop} {v : Value} {xs : List α} {A : Option Addr}
theorem up_ {p : Prop} (m : p := by repeat (first | (with_reducible first | exact Below.refl _ _ | apply below_alloc | apply pw_below_drewN | apply below_drew1) | exact Below.refl _ _)) : p := m
theorem pR_ (h : d.R e w base ok v xs) (m : Below w.heap.size w w1 := by exact up_) : d.R e w1 base ok v xs := Kd.R_below h m
theorem pN_ (h : d.N e w base ok v xs) (m : Below w.heap.size w w1 := by exact up_) : d.N e w1 base ok v xs := Kd.N_below h m
theorem pC_ (h : d.C w A n xs) (m : Below w.heap.size w w1 := by exact up_) : d.C w1 A n xs := Kd.C_below h m
end
section
variable {w : World} {g t : Nat} {a b c d e f : Value}
theorem by2 (h : w.heap[g]? = some (.cells #[a, b] t (0, 0))) : w.cell? ⟨g, 0, none⟩ = some a ∧ w.cell? ⟨g, 1, none⟩ = some b ∧ w.frozen? ⟨g, 0, none⟩ = false ∧ w.frozen? ⟨g, 1, none⟩ = false := ⟨(blk_cell h 0).trans rfl, (blk_cell h 1).trans rfl, blk_frozen h 0, blk_frozen h 1⟩
theorem by4 (h : w.heap[g]? = some (.cells #[a, b, c, d] t (0, 0))) : w.cell? ⟨g, 0, none⟩ = some a ∧ w.cell? ⟨g, 1, none⟩ = some b ∧ w.cell? ⟨g, 2, none⟩ = some c ∧ w.cell? ⟨g, 3, none⟩ = some d ∧ w.frozen? ⟨g, 0, none⟩ = false ∧ w.frozen? ⟨g, 1, none⟩ = false ∧ w.frozen? ⟨g, 2, none⟩ = false ∧ w.frozen? ⟨g, 3, none⟩ = false := ⟨(blk_cell h 0).trans rfl, (blk_cell h 1).trans rfl, (blk_cell h 2).trans rfl, (blk_cell h 3).trans rfl, blk_frozen h 0, blk_frozen h 1, blk_frozen h 2, blk_frozen h 3⟩
end
end Go.Proofs.Ytehkklmacglelaa.PA
namespace Go.Proofs.Ytehkklmacglelaa.PA
open Go.RowKit Go.Proofs.YtehkklmacglelaaW.PrintWords Go.Proofs.YtehkklmacglelaaW.PrintLast Go.Proofs.YtehkklmacglelaaW.PrintMore
attribute [local go_sem] max2_int min2_int max_two min_two max_three min_three max_four min_four   -- for this text's walks alone
set_option linter.unusedVariables false
set_option linter.unusedSimpArgs false



def errW : Option Int → Value
 | none => .nilIface
 | some c => .iface 0 (.int .i64 c)
theorem errW_none : errW none = .nilIface := rfl
theorem errW_some (c : Int) : errW (some c) = .iface 0 (.int .i64 c) := rfl

theorem info3 : (Try.prog.info? 3).map (fun i => (i.zero, i.size, i.bytes)) = some (some (.int .i64 0), 1, 8) := by kernel_rfl
theorem info5 : (Try.prog.info? 5).map (fun i => (i.zero, i.size, i.bytes)) = some (some (.int .u8 0), 1, 1) := by kernel_rfl
theorem info23 : (Try.prog.info? 23).map (fun i => (i.zero, i.size, i.bytes)) = some (some (.slice none 0 0), 1, 24) := by kernel_rfl
theorem info25 : (Try.prog.info? 25).map (fun i => (i.zero, i.size, i.bytes)) = some (some (.agg #[(.int .i64 0), (.int .i64 0)]), 2, 16) := by kernel_rfl
theorem info35 : (Try.prog.info? 35).map (fun i => (i.zero, i.size, i.bytes)) = some (some (.agg #[(.int .i64 0), (.int .i64 0), (.int .i64 0), (.int .i64 0)]), 4, 32) := by kernel_rfl
-- the values' own types
/-! #### struct type 25 -/
structure S25 where
 f0 : Int
 f1 : Int
def z25 : S25 := ⟨(0 : Int), (0 : Int)⟩
def k25 : Kd S25 := Kd.iso (Kd.pair (Kd.int .i64) (Kd.int .i64)) (fun x : S25 => (x.f0, x.f1))
theorem k25_open {w : World} {x : S25} {cs : List Value} (h : k25.K w x cs) : cs = [.int .i64 x.f0, .int .i64 x.f1] := by
 obtain ⟨_, _, rfl, rfl, rfl⟩ := h; exact rfl
theorem k25_openM {w : World} {base : Nat} {ok : Nat → Prop} {x : S25} {cs : List Value} (h : k25.M w base ok x cs) : cs = [.int .i64 x.f0, .int .i64 x.f1] := by
 obtain ⟨_, _, rfl, rfl, rfl⟩ := h; exact rfl
theorem k25_mk (w : World) (x : S25)  : k25.K w x [.int .i64 x.f0, .int .i64 x.f1] := ⟨[.int .i64 x.f0], [.int .i64 x.f1], rfl, rfl, rfl⟩
theorem k25_mkM (w : World) (base : Nat) (ok : Nat → Prop) (x : S25)  : k25.M w base ok x [.int .i64 x.f0, .int .i64 x.f1] := ⟨[.int .i64 x.f0], [.int .i64 x.f1], rfl, rfl, rfl⟩
theorem k25_mkF (W : World) (ok : Nat → Prop) (x : S25) : Kd.FK k25 W ok x [.int .i64 x.f0, .int .i64 x.f1] := fun W2 _ => k25_mk W2 x
def rd_T25 (xs : List S25) (i : Int) : S25 := xs.getD i.toNat z25
theorem at_T25 {w : World} {A : Option Addr} {n : Nat} {xs : List S25} (h : Kd.C k25 w A n xs) (i : Int) (h0 : 0 ≤ i) (h1 : i < n) : ∃ ad , A = some ad ∧ w.cell? (ad.add (i.toNat * 2)) = some (.int .i64 (rd_T25 xs i).f0) ∧ w.cell? ⟨(ad.add (i.toNat * 2)).block, (ad.add (i.toNat * 2)).off + 1, none⟩ = some (.int .i64 (rd_T25 xs i).f1) := by
 obtain ⟨ad, c, e, _, hK, hc0⟩ := Kd.C_get h z25 i h0 h1; have hc : ∀ j u, c[j]? = some u → w.cell? (ad.add (i.toNat * 2 + j)) = some u := hc0; obtain rfl := k25_open hK; exact ⟨ad, e, hc 0 _ rfl, by rw [← add_field _ _ 1 (by omega)]; exact hc 1 _ rfl⟩

/-! #### struct type 35 -/
structure S35 where
 f0 : S25
 f1 : S25
def z35 : S35 := ⟨z25, z25⟩
def k35 : Kd S35 := Kd.iso (Kd.pair k25 k25) (fun x : S35 => (x.f0, x.f1))
theorem k35_open {w : World} {x : S35} {cs : List Value} (h : k35.K w x cs) : cs = [.int .i64 x.f0.f0, .int .i64 x.f0.f1, .int .i64 x.f1.f0, .int .i64 x.f1.f1] := by
 obtain ⟨_, _, rfl, s0, s2⟩ := h; obtain rfl := k25_open s0; obtain rfl := k25_open s2; exact rfl
theorem k35_openM {w : World} {base : Nat} {ok : Nat → Prop} {x : S35} {cs : List Value} (h : k35.M w base ok x cs) : cs = [.int .i64 x.f0.f0, .int .i64 x.f0.f1, .int .i64 x.f1.f0, .int .i64 x.f1.f1] := by
 obtain ⟨_, _, rfl, s0, s2⟩ := h; obtain rfl := k25_openM s0; obtain rfl := k25_openM s2; exact rfl
theorem k35_mk (w : World) (x : S35)  : k35.K w x [.int .i64 x.f0.f0, .int .i64 x.f0.f1, .int .i64 x.f1.f0, .int .i64 x.f1.f1] := ⟨[.int .i64 x.f0.f0, .int .i64 x.f0.f1], [.int .i64 x.f1.f0, .int .i64 x.f1.f1], rfl, (k25_mk w x.f0 ), (k25_mk w x.f1 )⟩
theorem k35_mkM (w : World) (base : Nat) (ok : Nat → Prop) (x : S35)  : k35.M w base ok x [.int .i64 x.f0.f0, .int .i64 x.f0.f1, .int .i64 x.f1.f0, .int .i64 x.f1.f1] := ⟨[.int .i64 x.f0.f0, .int .i64 x.f0.f1], [.int .i64 x.f1.f0, .int .i64 x.f1.f1], rfl, (k25_mkM w base ok x.f0 ), (k25_mkM w base ok x.f1 )⟩
theorem k35_mkF (W : World) (ok : Nat → Prop) (x : S35) : Kd.FK k35 W ok x [.int .i64 x.f0.f0, .int .i64 x.f0.f1, .int .i64 x.f1.f0, .int .i64 x.f1.f1] := fun W2 _ => k35_mk W2 x
def rd_T35 (xs : List S35) (i : Int) : S35 := xs.getD i.toNat z35
theorem at_T35 {w : World} {A : Option Addr} {n : Nat} {xs : List S35} (h : Kd.C k35 w A n xs) (i : Int) (h0 : 0 ≤ i) (h1 : i < n) : ∃ ad , A = some ad ∧ w.cell? (ad.add (i.toNat * 4)) = some (.int .i64 (rd_T35 xs i).f0.f0) ∧ w.cell? ⟨(ad.add (i.toNat * 4)).block, (ad.add (i.toNat * 4)).off + 1, none⟩ = some (.int .i64 (rd_T35 xs i).f0.f1) ∧ w.cell? ⟨(ad.add (i.toNat * 4)).block, (ad.add (i.toNat * 4)).off + 2, none⟩ = some (.int .i64 (rd_T35 xs i).f1.f0) ∧ w.cell? ⟨(ad.add (i.toNat * 4)).block, (ad.add (i.toNat * 4)).off + 3, none⟩ = some (.int .i64 (rd_T35 xs i).f1.f1) := by
 obtain ⟨ad, c, e, _, hK, hc0⟩ := Kd.C_get h z35 i h0 h1; have hc : ∀ j u, c[j]? = some u → w.cell? (ad.add (i.toNat * 4 + j)) = some u := hc0; obtain rfl := k35_open hK; exact ⟨ad, e, hc 0 _ rfl, by rw [← add_field _ _ 1 (by omega)]; exact hc 1 _ rfl, by rw [← add_field _ _ 2 (by omega)]; exact hc 2 _ rfl, by rw [← add_field _ _ 3 (by omega)]; exact hc 3 _ rfl⟩

def rd_L4 (xs : List (List S25)) (i : Int) : (List S25) := xs.getD i.toNat ([] : List S25)
theorem at_L4 {w : World} {A : Option Addr} {n : Nat} {xs : List (List S25)} (h : Kd.C (Kd.slice 25 k25) w A n xs) (i : Int) (h0 : 0 ≤ i) (h1 : i < n) : ∃ ad A0 c0, A = some ad ∧ w.cell? (ad.add i.toNat) = some (.slice A0 (rd_L4 xs i).length c0) ∧ (rd_L4 xs i).length ≤ c0 ∧ k25.C w A0 (rd_L4 xs i).length (rd_L4 xs i) := by
 obtain ⟨ad, c, e, _, hK, hc0⟩ := Kd.C_get h ([] : List S25) i h0 h1; have hc : ∀ j u, c[j]? = some u → w.cell? (ad.add (i.toNat * 1 + j)) = some u := hc0; obtain ⟨A0, c0, rfl, l0, g0⟩ := hK; exact ⟨ad, A0, c0, e, by have hq := hc 0 _ rfl; rwa [Nat.mul_one, Nat.add_zero] at hq, l0, g0⟩

def rd_L6 (xs : List (List S35)) (i : Int) : (List S35) := xs.getD i.toNat ([] : List S35)
theorem at_L6 {w : World} {A : Option Addr} {n : Nat} {xs : List (List S35)} (h : Kd.C (Kd.slice 35 k35) w A n xs) (i : Int) (h0 : 0 ≤ i) (h1 : i < n) : ∃ ad A0 c0, A = some ad ∧ w.cell? (ad.add i.toNat) = some (.slice A0 (rd_L6 xs i).length c0) ∧ (rd_L6 xs i).length ≤ c0 ∧ k35.C w A0 (rd_L6 xs i).length (rd_L6 xs i) := by
 obtain ⟨ad, c, e, _, hK, hc0⟩ := Kd.C_get h ([] : List S35) i h0 h1; have hc : ∀ j u, c[j]? = some u → w.cell? (ad.add (i.toNat * 1 + j)) = some u := hc0; obtain ⟨A0, c0, rfl, l0, g0⟩ := hK; exact ⟨ad, A0, c0, e, by have hq := hc 0 _ rfl; rwa [Nat.mul_one, Nat.add_zero] at hq, l0, g0⟩

/-! #### struct type 57 -/
structure S57 where
 f0 : Int
 f1 : Int
def z57 : S57 := ⟨(0 : Int), (0 : Int)⟩
def k57 : Kd S57 := Kd.iso (Kd.pair (Kd.int .i64) (Kd.int .i64)) (fun x : S57 => (x.f0, x.f1))
theorem k57_open {w : World} {x : S57} {cs : List Value} (h : k57.K w x cs) : cs = [.int .i64 x.f0, .int .i64 x.f1] := by
 obtain ⟨_, _, rfl, rfl, rfl⟩ := h; exact rfl
theorem k57_openM {w : World} {base : Nat} {ok : Nat → Prop} {x : S57} {cs : List Value} (h : k57.M w base ok x cs) : cs = [.int .i64 x.f0, .int .i64 x.f1] := by
 obtain ⟨_, _, rfl, rfl, rfl⟩ := h; exact rfl
theorem k57_mk (w : World) (x : S57)  : k57.K w x [.int .i64 x.f0, .int .i64 x.f1] := ⟨[.int .i64 x.f0], [.int .i64 x.f1], rfl, rfl, rfl⟩
theorem k57_mkM (w : World) (base : Nat) (ok : Nat → Prop) (x : S57)  : k57.M w base ok x [.int .i64 x.f0, .int .i64 x.f1] := ⟨[.int .i64 x.f0], [.int .i64 x.f1], rfl, rfl, rfl⟩
theorem k57_mkF (W : World) (ok : Nat → Prop) (x : S57) : Kd.FK k57 W ok x [.int .i64 x.f0, .int .i64 x.f1] := fun W2 _ => k57_mk W2 x
def rd_T57 (xs : List S57) (i : Int) : S57 := xs.getD i.toNat z57
theorem at_T57 {w : World} {A : Option Addr} {n : Nat} {xs : List S57} (h : Kd.C k57 w A n xs) (i : Int) (h0 : 0 ≤ i) (h1 : i < n) : ∃ ad , A = some ad ∧ w.cell? (ad.add (i.toNat * 2)) = some (.int .i64 (rd_T57 xs i).f0) ∧ w.cell? ⟨(ad.add (i.toNat * 2)).block, (ad.add (i.toNat * 2)).off + 1, none⟩ = some (.int .i64 (rd_T57 xs i).f1) := by
 obtain ⟨ad, c, e, _, hK, hc0⟩ := Kd.C_get h z57 i h0 h1; have hc : ∀ j u, c[j]? = some u → w.cell? (ad.add (i.toNat * 2 + j)) = some u := hc0; obtain rfl := k57_open hK; exact ⟨ad, e, hc 0 _ rfl, by rw [← add_field _ _ 1 (by omega)]; exact hc 1 _ rfl⟩

def rd_L8 (xs : List (List S57)) (i : Int) : (List S57) := xs.getD i.toNat ([] : List S57)
theorem at_L8 {w : World} {A : Option Addr} {n : Nat} {xs : List (List S57)} (h : Kd.C (Kd.slice 57 k57) w A n xs) (i : Int) (h0 : 0 ≤ i) (h1 : i < n) : ∃ ad A0 c0, A = some ad ∧ w.cell? (ad.add i.toNat) = some (.slice A0 (rd_L8 xs i).length c0) ∧ (rd_L8 xs i).length ≤ c0 ∧ k57.C w A0 (rd_L8 xs i).length (rd_L8 xs i) := by
 obtain ⟨ad, c, e, _, hK, hc0⟩ := Kd.C_get h ([] : List S57) i h0 h1; have hc : ∀ j u, c[j]? = some u → w.cell? (ad.add (i.toNat * 1 + j)) = some u := hc0; obtain ⟨A0, c0, rfl, l0, g0⟩ := hK; exact ⟨ad, A0, c0, e, by have hq := hc 0 _ rfl; rwa [Nat.mul_one, Nat.add_zero] at hq, l0, g0⟩

def rd_L9 (xs : List (List (List S25))) (i : Int) : (List (List S25)) := xs.getD i.toNat ([] : List (List S25))
theorem at_L9 {w : World} {A : Option Addr} {n : Nat} {xs : List (List (List S25))} (h : Kd.C (Kd.slice 23 (Kd.slice 25 k25)) w A n xs) (i : Int) (h0 : 0 ≤ i) (h1 : i < n) : ∃ ad A0 c0, A = some ad ∧ w.cell? (ad.add i.toNat) = some (.slice A0 (rd_L9 xs i).length c0) ∧ (rd_L9 xs i).length ≤ c0 ∧ (Kd.slice 25 k25).C w A0 (rd_L9 xs i).length (rd_L9 xs i) := by
 obtain ⟨ad, c, e, _, hK, hc0⟩ := Kd.C_get h ([] : List (List S25)) i h0 h1; have hc : ∀ j u, c[j]? = some u → w.cell? (ad.add (i.toNat * 1 + j)) = some u := hc0; obtain ⟨A0, c0, rfl, l0, g0⟩ := hK; exact ⟨ad, A0, c0, e, by have hq := hc 0 _ rfl; rwa [Nat.mul_one, Nat.add_zero] at hq, l0, g0⟩

/-! #### struct type 50 -/
structure S50 where
 f0 : (List S25)
 f1 : (List (List S25))
def z50 : S50 := ⟨([] : List S25), ([] : List (List S25))⟩
def k50 : Kd S50 := Kd.iso (Kd.pair (Kd.slice 25 k25) (Kd.slice 23 (Kd.slice 25 k25))) (fun x : S50 => (x.f0, x.f1))
theorem k50_open {w : World} {x : S50} {cs : List Value} (h : k50.K w x cs) : ∃ A0 c0 A1 c1, cs = [.slice A0 x.f0.length c0, .slice A1 x.f1.length c1] ∧ x.f0.length ≤ c0 ∧ k25.C w A0 x.f0.length x.f0 ∧ x.f1.length ≤ c1 ∧ (Kd.slice 25 k25).C w A1 x.f1.length x.f1 := by
 obtain ⟨_, _, rfl, ⟨A0, c0, rfl, l0, g0⟩, ⟨A1, c1, rfl, l1, g1⟩⟩ := h; exact ⟨A0, c0, A1, c1, rfl, l0, g0, l1, g1⟩
theorem k50_openM {w : World} {base : Nat} {ok : Nat → Prop} {x : S50} {cs : List Value} (h : k50.M w base ok x cs) : ∃ v0 v1, cs = [v0, v1] ∧ k25.R 25 w base ok v0 x.f0 ∧ (Kd.slice 25 k25).R 23 w base ok v1 x.f1 := by
 obtain ⟨_, _, rfl, ⟨v0, rfl, g0⟩, ⟨v1, rfl, g1⟩⟩ := h; exact ⟨v0, v1, rfl, g0, g1⟩
theorem k50_mk (w : World) (x : S50) {A0 : Option Addr} {c0 : Nat} (l0 : x.f0.length ≤ c0) (g0 : k25.C w A0 x.f0.length x.f0) {A1 : Option Addr} {c1 : Nat} (l1 : x.f1.length ≤ c1) (g1 : (Kd.slice 25 k25).C w A1 x.f1.length x.f1) : k50.K w x [.slice A0 x.f0.length c0, .slice A1 x.f1.length c1] := ⟨[.slice A0 x.f0.length c0], [.slice A1 x.f1.length c1], rfl, ⟨A0, c0, rfl, l0, g0⟩, ⟨A1, c1, rfl, l1, g1⟩⟩
theorem k50_mkM (w : World) (base : Nat) (ok : Nat → Prop) (x : S50) {v0 : Value} (g0 : k25.R 25 w base ok v0 x.f0) {v1 : Value} (g1 : (Kd.slice 25 k25).R 23 w base ok v1 x.f1) : k50.M w base ok x [v0, v1] := ⟨[v0], [v1], rfl, ⟨v0, rfl, g0⟩, ⟨v1, rfl, g1⟩⟩
theorem k50_openF {W : World} {ok : Nat → Prop} {x : S50} {cs : List Value} (h : Kd.FK k50 W ok x cs) : ∃ A0 c0 A1 c1, cs = [.slice A0 x.f0.length c0, .slice A1 x.f1.length c1] ∧ x.f0.length ≤ c0 ∧ Kd.F k25 W ok A0 x.f0.length x.f0 ∧ x.f1.length ≤ c1 ∧ Kd.F (Kd.slice 25 k25) W ok A1 x.f1.length x.f1 := by
 obtain ⟨A0, c0, A1, c1, rfl, l0, _, l1, _⟩ := k50_open (Kd.FK_now h); exact ⟨A0, c0, A1, c1, rfl, l0, (fun W' hW => by obtain ⟨A0_, c0_, A1_, c1_, he, l0_, g0_, l1_, g1_⟩ := k50_open (h W' hW); injection (Option.some.inj (show some (Value.slice A0 x.f0.length c0) = some (Value.slice A0_ x.f0.length c0_) from congrArg (fun l => l[0]?) he)) with ha_ _ _; rw [ha_]; exact g0_), l1, (fun W' hW => by obtain ⟨A0_, c0_, A1_, c1_, he, l0_, g0_, l1_, g1_⟩ := k50_open (h W' hW); injection (Option.some.inj (show some (Value.slice A1 x.f1.length c1) = some (Value.slice A1_ x.f1.length c1_) from congrArg (fun l => l[1]?) he)) with ha_ _ _; rw [ha_]; exact g1_)⟩
theorem k50_mkF (W : World) (ok : Nat → Prop) (x : S50) {A0 : Option Addr} {c0 : Nat} (l0 : x.f0.length ≤ c0) (g0 : Kd.F k25 W ok A0 x.f0.length x.f0) {A1 : Option Addr} {c1 : Nat} (l1 : x.f1.length ≤ c1) (g1 : Kd.F (Kd.slice 25 k25) W ok A1 x.f1.length x.f1) : Kd.FK k50 W ok x [.slice A0 x.f0.length c0, .slice A1 x.f1.length c1] := fun W2 hW => k50_mk W2 x l0 (g0 W2 hW) l1 (g1 W2 hW)
def rd_T50 (xs : List S50) (i : Int) : S50 := xs.getD i.toNat z50
theorem at_T50 {w : World} {A : Option Addr} {n : Nat} {xs : List S50} (h : Kd.C k50 w A n xs) (i : Int) (h0 : 0 ≤ i) (h1 : i < n) : ∃ ad A0 c0 A1 c1, A = some ad ∧ w.cell? (ad.add (i.toNat * 2)) = some (.slice A0 (rd_T50 xs i).f0.length c0) ∧ w.cell? ⟨(ad.add (i.toNat * 2)).block, (ad.add (i.toNat * 2)).off + 1, none⟩ = some (.slice A1 (rd_T50 xs i).f1.length c1) ∧ (rd_T50 xs i).f0.length ≤ c0 ∧ k25.C w A0 (rd_T50 xs i).f0.length (rd_T50 xs i).f0 ∧ (rd_T50 xs i).f1.length ≤ c1 ∧ (Kd.slice 25 k25).C w A1 (rd_T50 xs i).f1.length (rd_T50 xs i).f1 := by
 obtain ⟨ad, c, e, _, hK, hc0⟩ := Kd.C_get h z50 i h0 h1; have hc : ∀ j u, c[j]? = some u → w.cell? (ad.add (i.toNat * 2 + j)) = some u := hc0; obtain ⟨A0, c0, A1, c1, rfl, l0, g0, l1, g1⟩ := k50_open hK; exact ⟨ad, A0, c0, A1, c1, e, hc 0 _ rfl, by rw [← add_field _ _ 1 (by omega)]; exact hc 1 _ rfl, l0, g0, l1, g1⟩

end Go.Proofs.Ytehkklmacglelaa.PA
namespace Go.Proofs.Ytehkklmacglelaa.PA
open Go.RowKit Go.Proofs.YtehkklmacglelaaW.PrintWords Go.Proofs.YtehkklmacglelaaW.PrintLast Go.Proofs.YtehkklmacglelaaW.PrintMore
attribute [local go_sem] max2_int min2_int max_two min_two max_three min_three max_four min_four   -- for this text's walks alone
set_option linter.unusedVariables false
set_option linter.unusedSimpArgs false

/-! ### impl_PtOk: function 48 -/
def impl_PtOk.f (a0_0 : Int) (a0_1 : Int) : Option (Bool) := if a0_0 ≥ 0 then (if a0_0 ≤ 9 then (if a0_1 ≥ 0 then (some (decide (a0_1 ≤ 9))) else (some false)) else (some false)) else (some false)
set_option maxHeartbeats 8000000 in
set_option maxRecDepth 100000 in
theorem impl_PtOk.calls (a0_0 : Int) (a0_1 : Int) (r : Bool) (w : World) (h : impl_PtOk.f a0_0 a0_1 = some r) :
  Calls Try.prog 48 #[.agg #[.int .i64 a0_0, .int .i64 a0_1]] w fun e w' => e = .returned (.bool r) ∧ Below w.heap.size w w' := by
 have hu25 := Try.underlying25; have HB := A_ (Below.refl w.heap.size w); have H : (if a0_0 ≥ 0 then (if a0_0 ≤ 9 then (if a0_1 ≥ 0 then (some (decide (a0_1 ≤ 9))) else (some false)) else (some false)) else (some false)) = some r := h; clear h; by_cases c2 : a0_0 ≥ 0
 ·rw [if_pos c2] at H; have c2b0 : decide (0 ≤ a0_0) = true := decide_eq_true c2; clear c2; by_cases c3 : a0_0 ≤ 9
  ·rw [if_pos c3] at H; have c3b0 : decide (a0_0 ≤ 9) = true := decide_eq_true c3; clear c3; by_cases c4 : a0_1 ≥ 0
   ·rw [if_pos c4] at H; have c4b0 : decide (0 ≤ a0_1) = true := decide_eq_true c4; clear c4; obtain rfl := Option.some.inj H; go_enter Try.func48, Try.ntmps48
    go_wp2_with (first | ((with_reducible refine gate_dst (N := 1) rfl ?_); refine box_event ?hg (N := 1) ?hd (cs := #[.int .i64 a0_0, .int .i64 a0_1]) (t := 25) ?hr ?_; (case hd => rfl); (case hg => rfl); (case hr => first | (go_simp; done) | (go_simp; rfl)); intro gb204 hg w5 hbox hb; have n0_ := sb_ hb; have n1_ := A_ (hbox); have n2_ := lB_ hg; have n3_ := lB_ hg; clear HB; have HB := n0_; have BK204 := n1_; have GW204 := n2_; have GE204 := n3_; clear n0_ n1_ n2_ n3_; clear hb hbox hg; obtain ⟨hcz6_0, hcz6_1, hfz6_0, hfz6_1⟩ := by2 BK204.out))
    go_ret
    exact ⟨by first | rfl | (simp [errW_none, errW_some] <;> rfl) | (simp [*, errW_none, errW_some] <;> rfl), hB_⟩
   ·rw [if_neg c4] at H; have c4b0 : decide (0 ≤ a0_1) = false := decide_eq_false c4; clear c4; obtain rfl := Option.some.inj H; go_enter Try.func48, Try.ntmps48
    go_wp2_with (first | ((with_reducible refine gate_dst (N := 1) rfl ?_); refine box_event ?hg (N := 1) ?hd (cs := #[.int .i64 a0_0, .int .i64 a0_1]) (t := 25) ?hr ?_; (case hd => rfl); (case hg => rfl); (case hr => first | (go_simp; done) | (go_simp; rfl)); intro gb204 hg w7 hbox hb; have n0_ := sb_ hb; have n1_ := A_ (hbox); have n2_ := lB_ hg; have n3_ := lB_ hg; clear HB; have HB := n0_; have BK204 := n1_; have GW204 := n2_; have GE204 := n3_; clear n0_ n1_ n2_ n3_; clear hb hbox hg; obtain ⟨hcz8_0, hcz8_1, hfz8_0, hfz8_1⟩ := by2 BK204.out))
    go_ret
    exact ⟨by first | rfl | (simp [errW_none, errW_some] <;> rfl) | (simp [*, errW_none, errW_some] <;> rfl), hB_⟩
  ·rw [if_neg c3] at H; have c3b0 : decide (a0_0 ≤ 9) = false := decide_eq_false c3; clear c3; obtain rfl := Option.some.inj H; go_enter Try.func48, Try.ntmps48
   go_wp2_with (first | ((with_reducible refine gate_dst (N := 1) rfl ?_); refine box_event ?hg (N := 1) ?hd (cs := #[.int .i64 a0_0, .int .i64 a0_1]) (t := 25) ?hr ?_; (case hd => rfl); (case hg => rfl); (case hr => first | (go_simp; done) | (go_simp; rfl)); intro gb204 hg w9 hbox hb; have n0_ := sb_ hb; have n1_ := A_ (hbox); have n2_ := lB_ hg; have n3_ := lB_ hg; clear HB; have HB := n0_; have BK204 := n1_; have GW204 := n2_; have GE204 := n3_; clear n0_ n1_ n2_ n3_; clear hb hbox hg; obtain ⟨hcz10_0, hcz10_1, hfz10_0, hfz10_1⟩ := by2 BK204.out))
   go_ret
   exact ⟨by first | rfl | (simp [errW_none, errW_some] <;> rfl) | (simp [*, errW_none, errW_some] <;> rfl), hB_⟩
 ·rw [if_neg c2] at H; have c2b0 : decide (0 ≤ a0_0) = false := decide_eq_false c2; clear c2; obtain rfl := Option.some.inj H; go_enter Try.func48, Try.ntmps48
  go_wp2_with (first | ((with_reducible refine gate_dst (N := 1) rfl ?_); refine box_event ?hg (N := 1) ?hd (cs := #[.int .i64 a0_0, .int .i64 a0_1]) (t := 25) ?hr ?_; (case hd => rfl); (case hg => rfl); (case hr => first | (go_simp; done) | (go_simp; rfl)); intro gb204 hg w11 hbox hb; have n0_ := sb_ hb; have n1_ := A_ (hbox); have n2_ := lB_ hg; have n3_ := lB_ hg; clear HB; have HB := n0_; have BK204 := n1_; have GW204 := n2_; have GE204 := n3_; clear n0_ n1_ n2_ n3_; clear hb hbox hg; obtain ⟨hcz12_0, hcz12_1, hfz12_0, hfz12_1⟩ := by2 BK204.out))
  go_ret
  exact ⟨by first | rfl | (simp [errW_none, errW_some] <;> rfl) | (simp [*, errW_none, errW_some] <;> rfl), hB_⟩

end Go.Proofs.Ytehkklmacglelaa.PA
namespace Go.Proofs.Ytehkklmacglelaa.PA
open Go.RowKit Go.Proofs.YtehkklmacglelaaW.PrintWords Go.Proofs.YtehkklmacglelaaW.PrintLast Go.Proofs.YtehkklmacglelaaW.PrintMore
attribute [local go_sem] max2_int min2_int max_two min_two max_three min_three max_four min_four   -- for this text's walks alone
set_option linter.unusedVariables false
set_option linter.unusedSimpArgs false

theorem eqA25 (d : Nat) (w : World) (x0 y0 : Int) (x1 y1 : Int) :
  (Op.equalIn (d + 2) 25 (.agg #[.int .i64 x0, .int .i64 x1]) (.agg #[.int .i64 y0, .int .i64 y1])).run Try.prog w = .ok (x0 == y0 && (x1 == y1)) w := by
 refine eqA_of Try.underlying25 (by kernel_rfl) ?_; refine eqf_cons (by rfl) (by go_simp; rfl) (by go_simp; rfl) (by go_simp) ?_; exact eqf_last (by rfl) (by go_simp; rfl) (by go_simp; rfl) (by go_simp)
end Go.Proofs.Ytehkklmacglelaa.PA
namespace Go.Proofs.Ytehkklmacglelaa.PA
open Go.RowKit Go.Proofs.YtehkklmacglelaaW.PrintWords Go.Proofs.YtehkklmacglelaaW.PrintLast Go.Proofs.YtehkklmacglelaaW.PrintMore
attribute [local go_sem] max2_int min2_int max_two min_two max_three min_three max_four min_four   -- for this text's walks alone
set_option linter.unusedVariables false
set_option linter.unusedSimpArgs false

attribute [local go_sem high] eqA25
/-! ### impl_SegOk: function 57 -/
def impl_SegOk.f (a0_0 : Int) (a0_1 : Int) (a0_2 : Int) (a0_3 : Int) : Option (Bool) := (impl_PtOk.f a0_0 a0_1).bind fun t206 => (if t206 = true then ((impl_PtOk.f a0_2 a0_3).bind fun t207 => (if t207 = true then (some (!(a0_0 == a0_2) || (!(a0_1 == a0_3)))) else (some false))) else (some false))
set_option maxHeartbeats 8000000 in
set_option maxRecDepth 100000 in
theorem impl_SegOk.calls (a0_0 : Int) (a0_1 : Int) (a0_2 : Int) (a0_3 : Int) (r : Bool) (w : World) (h : impl_SegOk.f a0_0 a0_1 a0_2 a0_3 = some r) :
  Calls Try.prog 57 #[.agg #[.int .i64 a0_0, .int .i64 a0_1, .int .i64 a0_2, .int .i64 a0_3]] w fun e w' => e = .returned (.bool r) ∧ Below w.heap.size w w' := by
 have hu35 := Try.underlying35; have hu25 := Try.underlying25; have HB := A_ (Below.refl w.heap.size w); have H : ((impl_PtOk.f a0_0 a0_1).bind fun t206 => (if t206 = true then ((impl_PtOk.f a0_2 a0_3).bind fun t207 => (if t207 = true then (some (!(a0_0 == a0_2) || (!(a0_1 == a0_3)))) else (some false))) else (some false))) = some r := h; clear h; replace H := Option.bind_eq_some_iff.mp H; obtain ⟨t206, A20, H⟩ := H; (try dsimp only at H); have A2 := A_ A20; clear A20; by_cases c3 : t206 = true
 ·subst c3; have H1 : ((impl_PtOk.f a0_2 a0_3).bind fun t207 => (if t207 = true then (some (!(a0_0 == a0_2) || (!(a0_1 == a0_3)))) else (some false))) = some r := by rw [if_pos rfl] at H; exact H
  clear H; have H := H1; clear H1; replace H := Option.bind_eq_some_iff.mp H; obtain ⟨t207, A40, H⟩ := H; (try dsimp only at H); have A4 := A_ A40; clear A40; by_cases c5 : t207 = true
  ·subst c5; have H1 : (some (!(a0_0 == a0_2) || (!(a0_1 == a0_3)))) = some r := by rw [if_pos rfl] at H; exact H
   clear H; have H := H1; clear H1; obtain rfl := Option.some.inj H; go_enter Try.func57, Try.ntmps57
   go_wp2_with (first | ((with_reducible refine gate_dst (N := 1) rfl ?_); refine box_event ?hg (N := 1) ?hd (cs := #[.int .i64 a0_0, .int .i64 a0_1, .int .i64 a0_2, .int .i64 a0_3]) (t := 35) ?hr ?_; (case hd => rfl); (case hg => rfl); (case hr => first | (go_simp; done) | (go_simp; rfl)); intro gb205 hg w6 hbox hb; have n0_ := sb_ hb; have n1_ := A_ (hbox); have n2_ := lB_ hg; have n3_ := lB_ hg; clear HB; have HB := n0_; have BK205 := n1_; have GW205 := n2_; have GE205 := n3_; clear n0_ n1_ n2_ n3_; clear hb hbox hg; obtain ⟨hcz7_0, hcz7_1, hcz7_2, hcz7_3, hfz7_0, hfz7_1, hfz7_2, hfz7_3⟩ := by4 BK205.out) | ((with_reducible refine gate_callee (f := 48) rfl ?_); refine goesL_ (some 5) rfl rfl Try.func48 (by kernel_rfl) rfl #[.agg #[.int .i64 a0_0, .int .i64 a0_1]] rfl ga_ ?_; (with_reducible refine (impl_PtOk.calls a0_0 a0_1 true _ A2.out).mono ?_); rintro e w8 ⟨rfl, hb⟩; refine ⟨_, rfl, ?_⟩; have n0_ := bw_ BK205.out hb; have n1_ := sb_ hb; clear BK205 HB; revert n0_ n1_; intro BK205 HB; (try clear hb); obtain ⟨hcz9_0, hcz9_1, hcz9_2, hcz9_3, hfz9_0, hfz9_1, hfz9_2, hfz9_3⟩ := by4 BK205.out) | (go_at_call 48; (with_reducible refine (impl_PtOk.calls a0_2 a0_3 true _ A4.out).mono ?_); rintro e w10 ⟨rfl, hb⟩; have n0_ := bw_ BK205.out hb; have n1_ := sb_ hb; clear BK205 HB; revert n0_ n1_; intro BK205 HB; (try clear hb); obtain ⟨hcz11_0, hcz11_1, hcz11_2, hcz11_3, hfz11_0, hfz11_1, hfz11_2, hfz11_3⟩ := by4 BK205.out))
   go_ret
   exact ⟨by first | rfl | (simp [errW_none, errW_some] <;> rfl) | (simp [*, errW_none, errW_some] <;> rfl), hB_⟩
  ·replace c5 := Bool.eq_false_iff.mpr c5; subst c5; have H1 : (some false) = some r := by rw [if_neg (show ¬ (false = true) by decide)] at H; exact H
   clear H; have H := H1; clear H1; obtain rfl := Option.some.inj H; go_enter Try.func57, Try.ntmps57
   go_wp2_with (first | ((with_reducible refine gate_dst (N := 1) rfl ?_); refine box_event ?hg (N := 1) ?hd (cs := #[.int .i64 a0_0, .int .i64 a0_1, .int .i64 a0_2, .int .i64 a0_3]) (t := 35) ?hr ?_; (case hd => rfl); (case hg => rfl); (case hr => first | (go_simp; done) | (go_simp; rfl)); intro gb205 hg w12 hbox hb; have n0_ := sb_ hb; have n1_ := A_ (hbox); have n2_ := lB_ hg; have n3_ := lB_ hg; clear HB; have HB := n0_; have BK205 := n1_; have GW205 := n2_; have GE205 := n3_; clear n0_ n1_ n2_ n3_; clear hb hbox hg; obtain ⟨hcz13_0, hcz13_1, hcz13_2, hcz13_3, hfz13_0, hfz13_1, hfz13_2, hfz13_3⟩ := by4 BK205.out) | ((with_reducible refine gate_callee (f := 48) rfl ?_); refine goesL_ (some 5) rfl rfl Try.func48 (by kernel_rfl) rfl #[.agg #[.int .i64 a0_0, .int .i64 a0_1]] rfl ga_ ?_; (with_reducible refine (impl_PtOk.calls a0_0 a0_1 true _ A2.out).mono ?_); rintro e w14 ⟨rfl, hb⟩; refine ⟨_, rfl, ?_⟩; have n0_ := bw_ BK205.out hb; have n1_ := sb_ hb; clear BK205 HB; revert n0_ n1_; intro BK205 HB; (try clear hb); obtain ⟨hcz15_0, hcz15_1, hcz15_2, hcz15_3, hfz15_0, hfz15_1, hfz15_2, hfz15_3⟩ := by4 BK205.out) | (go_at_call 48; (with_reducible refine (impl_PtOk.calls a0_2 a0_3 false _ A4.out).mono ?_); rintro e w16 ⟨rfl, hb⟩; have n0_ := bw_ BK205.out hb; have n1_ := sb_ hb; clear BK205 HB; revert n0_ n1_; intro BK205 HB; (try clear hb); (try clear hi)))
   go_ret
   exact ⟨by first | rfl | (simp [errW_none, errW_some] <;> rfl) | (simp [*, errW_none, errW_some] <;> rfl), hB_⟩
 ·replace c3 := Bool.eq_false_iff.mpr c3; subst c3; have H1 : (some false) = some r := by rw [if_neg (show ¬ (false = true) by decide)] at H; exact H
  clear H; have H := H1; clear H1; obtain rfl := Option.some.inj H; go_enter Try.func57, Try.ntmps57
  go_wp2_with (first | ((with_reducible refine gate_dst (N := 1) rfl ?_); refine box_event ?hg (N := 1) ?hd (cs := #[.int .i64 a0_0, .int .i64 a0_1, .int .i64 a0_2, .int .i64 a0_3]) (t := 35) ?hr ?_; (case hd => rfl); (case hg => rfl); (case hr => first | (go_simp; done) | (go_simp; rfl)); intro gb205 hg w17 hbox hb; have n0_ := sb_ hb; have n1_ := A_ (hbox); have n2_ := lB_ hg; have n3_ := lB_ hg; clear HB; have HB := n0_; have BK205 := n1_; have GW205 := n2_; have GE205 := n3_; clear n0_ n1_ n2_ n3_; clear hb hbox hg; obtain ⟨hcz18_0, hcz18_1, hcz18_2, hcz18_3, hfz18_0, hfz18_1, hfz18_2, hfz18_3⟩ := by4 BK205.out) | ((with_reducible refine gate_callee (f := 48) rfl ?_); refine goesL_ (some 5) rfl rfl Try.func48 (by kernel_rfl) rfl #[.agg #[.int .i64 a0_0, .int .i64 a0_1]] rfl ga_ ?_; (with_reducible refine (impl_PtOk.calls a0_0 a0_1 false _ A2.out).mono ?_); rintro e w19 ⟨rfl, hb⟩; refine ⟨_, rfl, ?_⟩; have n0_ := bw_ BK205.out hb; have n1_ := sb_ hb; clear BK205 HB; revert n0_ n1_; intro BK205 HB; (try clear hb); (try clear hi)))
  go_ret
  exact ⟨by first | rfl | (simp [errW_none, errW_some] <;> rfl) | (simp [*, errW_none, errW_some] <;> rfl), hB_⟩

end Go.Proofs.Ytehkklmacglelaa.PA
namespace Go.Proofs.Ytehkklmacglelaa.PA
open Go.RowKit Go.Proofs.YtehkklmacglelaaW.PrintWords Go.Proofs.YtehkklmacglelaaW.PrintLast Go.Proofs.YtehkklmacglelaaW.PrintMore
attribute [local go_sem] max2_int min2_int max_two min_two max_three min_three max_four min_four   -- for this text's walks alone
set_option linter.unusedVariables false
set_option linter.unusedSimpArgs false

/-! ### impl_cross: function 59 -/
def impl_cross.f (a0_0 : Int) (a0_1 : Int) (a1_0 : Int) (a1_1 : Int) (a2_0 : Int) (a2_1 : Int) : Option (Int) := some (wrap64 ((wrap64 ((wrap64 (a1_0 - a0_0)) * (wrap64 (a2_1 - a0_1)))) - (wrap64 ((wrap64 (a1_1 - a0_1)) * (wrap64 (a2_0 - a0_0))))))
set_option maxHeartbeats 8000000 in
set_option maxRecDepth 100000 in
theorem impl_cross.calls (a0_0 : Int) (a0_1 : Int) (a1_0 : Int) (a1_1 : Int) (a2_0 : Int) (a2_1 : Int) (r : Int) (w : World) (h : impl_cross.f a0_0 a0_1 a1_0 a1_1 a2_0 a2_1 = some r) :
  Calls Try.prog 59 #[.agg #[.int .i64 a0_0, .int .i64 a0_1], .agg #[.int .i64 a1_0, .int .i64 a1_1], .agg #[.int .i64 a2_0, .int .i64 a2_1]] w fun e w' => e = .returned (.int .i64 r) ∧ Below w.heap.size w w' := by
 have hu25 := Try.underlying25; have HB := A_ (Below.refl w.heap.size w); have H : (some (wrap64 ((wrap64 ((wrap64 (a1_0 - a0_0)) * (wrap64 (a2_1 - a0_1)))) - (wrap64 ((wrap64 (a1_1 - a0_1)) * (wrap64 (a2_0 - a0_0))))))) = some r := h; clear h; obtain rfl := Option.some.inj H; go_enter Try.func59, Try.ntmps59
 go_wp2_with (first | ((with_reducible refine gate_dst (N := 3) rfl ?_); refine box_event ?hg (N := 3) ?hd (cs := #[.int .i64 a0_0, .int .i64 a0_1]) (t := 25) ?hr ?_; (case hd => rfl); (case hg => rfl); (case hr => first | (go_simp; done) | (go_simp; rfl)); intro gb208 hg w4 hbox hb; have n0_ := sb_ hb; have n1_ := A_ (hbox); have n2_ := lB_ hg; have n3_ := lB_ hg; clear HB; have HB := n0_; have BK208 := n1_; have GW208 := n2_; have GE208 := n3_; clear n0_ n1_ n2_ n3_; clear hb hbox hg) | ((with_reducible refine gate_dst (N := 4) rfl ?_); refine box_event ?hg (N := 4) ?hd (cs := #[.int .i64 a1_0, .int .i64 a1_1]) (t := 25) ?hr ?_; (case hd => rfl); (case hg => rfl); (case hr => first | (go_simp; done) | (go_simp; rfl)); intro gb209 hg w5 hbox hb; have n0_ := bw_ BK208.out hb; have n1_ := sb_ hb; have n2_ := A_ (hbox); have n3_ := lB_ hg; have n4_ := lB_ hg; have n5_ := nl_ BK208.out hg; have n6_ := ng_ BK208.out hg; clear BK208; clear HB; have BK208 := n0_; have HB := n1_; have BK209 := n2_; have GW209 := n3_; have GE209 := n4_; have NB208_209 := n5_; have NB209_208 := n6_; clear n0_ n1_ n2_ n3_ n4_ n5_ n6_; clear hb hbox hg) | ((with_reducible refine gate_dst (N := 5) rfl ?_); refine box_event ?hg (N := 5) ?hd (cs := #[.int .i64 a2_0, .int .i64 a2_1]) (t := 25) ?hr ?_; (case hd => rfl); (case hg => rfl); (case hr => first | (go_simp; done) | (go_simp; rfl)); intro gb210 hg w6 hbox hb; have n0_ := bw_ BK208.out hb; have n1_ := bw_ BK209.out hb; have n2_ := sb_ hb; have n3_ := A_ (hbox); have n4_ := lB_ hg; have n5_ := lB_ hg; have n6_ := nl_ BK208.out hg; have n7_ := ng_ BK208.out hg; have n8_ := nl_ BK209.out hg; have n9_ := ng_ BK209.out hg; clear BK208; clear BK209; clear HB; have BK208 := n0_; have BK209 := n1_; have HB := n2_; have BK210 := n3_; have GW210 := n4_; have GE210 := n5_; have NB208_210 := n6_; have NB210_208 := n7_; have NB209_210 := n8_; have NB210_209 := n9_; clear n0_ n1_ n2_ n3_ n4_ n5_ n6_ n7_ n8_ n9_; clear hb hbox hg; have hnb7 := NB209_208.out; have hnc7 := NB208_209.out; have hnb8 := NB209_210.out; have hnc8 := NB210_209.out; obtain ⟨hcz9_0, hcz9_1, hfz9_0, hfz9_1⟩ := by2 BK209.out; have hnb10 := NB208_210.out; have hnc10 := NB210_208.out; obtain ⟨hcz11_0, hcz11_1, hfz11_0, hfz11_1⟩ := by2 BK208.out; obtain ⟨hcz12_0, hcz12_1, hfz12_0, hfz12_1⟩ := by2 BK210.out))
 go_ret
 exact ⟨by first | rfl | (simp [errW_none, errW_some] <;> rfl) | (simp [*, errW_none, errW_some] <;> rfl), hB_⟩

end Go.Proofs.Ytehkklmacglelaa.PA
namespace Go.Proofs.Ytehkklmacglelaa.PA
open Go.RowKit Go.Proofs.YtehkklmacglelaaW.PrintWords Go.Proofs.YtehkklmacglelaaW.PrintLast Go.Proofs.YtehkklmacglelaaW.PrintMore
attribute [local go_sem] max2_int min2_int max_two min_two max_three min_three max_four min_four   -- for this text's walks alone
set_option linter.unusedVariables false
set_option linter.unusedSimpArgs false

/-! ### impl_along: function 60 -/
def impl_along.f (a0_0 : Int) (a0_1 : Int) (a1_0 : Int) (a1_1 : Int) (a2_0 : Int) (a2_1 : Int) : Option (Int) := some (wrap64 ((wrap64 ((wrap64 (a1_0 - a0_0)) * (wrap64 (a2_0 - a0_0)))) + (wrap64 ((wrap64 (a1_1 - a0_1)) * (wrap64 (a2_1 - a0_1))))))
set_option maxHeartbeats 8000000 in
set_option maxRecDepth 100000 in
theorem impl_along.calls (a0_0 : Int) (a0_1 : Int) (a1_0 : Int) (a1_1 : Int) (a2_0 : Int) (a2_1 : Int) (r : Int) (w : World) (h : impl_along.f a0_0 a0_1 a1_0 a1_1 a2_0 a2_1 = some r) :
  Calls Try.prog 60 #[.agg #[.int .i64 a0_0, .int .i64 a0_1], .agg #[.int .i64 a1_0, .int .i64 a1_1], .agg #[.int .i64 a2_0, .int .i64 a2_1]] w fun e w' => e = .returned (.int .i64 r) ∧ Below w.heap.size w w' := by
 have hu25 := Try.underlying25; have HB := A_ (Below.refl w.heap.size w); have H : (some (wrap64 ((wrap64 ((wrap64 (a1_0 - a0_0)) * (wrap64 (a2_0 - a0_0)))) + (wrap64 ((wrap64 (a1_1 - a0_1)) * (wrap64 (a2_1 - a0_1))))))) = some r := h; clear h; obtain rfl := Option.some.inj H; go_enter Try.func60, Try.ntmps60
 go_wp2_with (first | ((with_reducible refine gate_dst (N := 3) rfl ?_); refine box_event ?hg (N := 3) ?hd (cs := #[.int .i64 a0_0, .int .i64 a0_1]) (t := 25) ?hr ?_; (case hd => rfl); (case hg => rfl); (case hr => first | (go_simp; done) | (go_simp; rfl)); intro gb211 hg w4 hbox hb; have n0_ := sb_ hb; have n1_ := A_ (hbox); have n2_ := lB_ hg; have n3_ := lB_ hg; clear HB; have HB := n0_; have BK211 := n1_; have GW211 := n2_; have GE211 := n3_; clear n0_ n1_ n2_ n3_; clear hb hbox hg) | ((with_reducible refine gate_dst (N := 4) rfl ?_); refine box_event ?hg (N := 4) ?hd (cs := #[.int .i64 a1_0, .int .i64 a1_1]) (t := 25) ?hr ?_; (case hd => rfl); (case hg => rfl); (case hr => first | (go_simp; done) | (go_simp; rfl)); intro gb212 hg w5 hbox hb; have n0_ := bw_ BK211.out hb; have n1_ := sb_ hb; have n2_ := A_ (hbox); have n3_ := lB_ hg; have n4_ := lB_ hg; have n5_ := nl_ BK211.out hg; have n6_ := ng_ BK211.out hg; clear BK211; clear HB; have BK211 := n0_; have HB := n1_; have BK212 := n2_; have GW212 := n3_; have GE212 := n4_; have NB211_212 := n5_; have NB212_211 := n6_; clear n0_ n1_ n2_ n3_ n4_ n5_ n6_; clear hb hbox hg) | ((with_reducible refine gate_dst (N := 5) rfl ?_); refine box_event ?hg (N := 5) ?hd (cs := #[.int .i64 a2_0, .int .i64 a2_1]) (t := 25) ?hr ?_; (case hd => rfl); (case hg => rfl); (case hr => first | (go_simp; done) | (go_simp; rfl)); intro gb213 hg w6 hbox hb; have n0_ := bw_ BK211.out hb; have n1_ := bw_ BK212.out hb; have n2_ := sb_ hb; have n3_ := A_ (hbox); have n4_ := lB_ hg; have n5_ := lB_ hg; have n6_ := nl_ BK211.out hg; have n7_ := ng_ BK211.out hg; have n8_ := nl_ BK212.out hg; have n9_ := ng_ BK212.out hg; clear BK211; clear BK212; clear HB; have BK211 := n0_; have BK212 := n1_; have HB := n2_; have BK213 := n3_; have GW213 := n4_; have GE213 := n5_; have NB211_213 := n6_; have NB213_211 := n7_; have NB212_213 := n8_; have NB213_212 := n9_; clear n0_ n1_ n2_ n3_ n4_ n5_ n6_ n7_ n8_ n9_; clear hb hbox hg; have hnb7 := NB212_211.out; have hnc7 := NB211_212.out; have hnb8 := NB212_213.out; have hnc8 := NB213_212.out; obtain ⟨hcz9_0, hcz9_1, hfz9_0, hfz9_1⟩ := by2 BK212.out; have hnb10 := NB211_213.out; have hnc10 := NB213_211.out; obtain ⟨hcz11_0, hcz11_1, hfz11_0, hfz11_1⟩ := by2 BK211.out; obtain ⟨hcz12_0, hcz12_1, hfz12_0, hfz12_1⟩ := by2 BK213.out))
 go_ret
 exact ⟨by first | rfl | (simp [errW_none, errW_some] <;> rfl) | (simp [*, errW_none, errW_some] <;> rfl), hB_⟩

end Go.Proofs.Ytehkklmacglelaa.PA
namespace Go.Proofs.Ytehkklmacglelaa.PA
open Go.RowKit Go.Proofs.YtehkklmacglelaaW.PrintWords Go.Proofs.YtehkklmacglelaaW.PrintLast Go.Proofs.YtehkklmacglelaaW.PrintMore
attribute [local go_sem] max2_int min2_int max_two min_two max_three min_three max_four min_four   -- for this text's walks alone
set_option linter.unusedVariables false
set_option linter.unusedSimpArgs false

/-! ### impl_between: function 61 -/
def impl_between.f (a0_0 : Int) (a0_1 : Int) (a1_0 : Int) (a1_1 : Int) : Option (Int) := (impl_along.f a0_0 a0_1 a1_0 a1_1 a1_0 a1_1).bind fun t216 => (some t216)
set_option maxHeartbeats 8000000 in
set_option maxRecDepth 100000 in
theorem impl_between.calls (a0_0 : Int) (a0_1 : Int) (a1_0 : Int) (a1_1 : Int) (r : Int) (w : World) (h : impl_between.f a0_0 a0_1 a1_0 a1_1 = some r) :
  Calls Try.prog 61 #[.agg #[.int .i64 a0_0, .int .i64 a0_1], .agg #[.int .i64 a1_0, .int .i64 a1_1]] w fun e w' => e = .returned (.int .i64 r) ∧ Below w.heap.size w w' := by
 have hu25 := Try.underlying25; have HB := A_ (Below.refl w.heap.size w); have H : ((impl_along.f a0_0 a0_1 a1_0 a1_1 a1_0 a1_1).bind fun t216 => (some t216)) = some r := h; clear h; replace H := Option.bind_eq_some_iff.mp H; obtain ⟨t216, A30, H⟩ := H; (try dsimp only at H); have A3 := A_ A30; clear A30; obtain rfl := Option.some.inj H; go_enter Try.func61, Try.ntmps61
 go_wp2_with (first | ((with_reducible refine gate_dst (N := 2) rfl ?_); refine box_event ?hg (N := 2) ?hd (cs := #[.int .i64 a0_0, .int .i64 a0_1]) (t := 25) ?hr ?_; (case hd => rfl); (case hg => rfl); (case hr => first | (go_simp; done) | (go_simp; rfl)); intro gb214 hg w4 hbox hb; have n0_ := sb_ hb; have n1_ := A_ (hbox); have n2_ := lB_ hg; have n3_ := lB_ hg; clear HB; have HB := n0_; have BK214 := n1_; have GW214 := n2_; have GE214 := n3_; clear n0_ n1_ n2_ n3_; clear hb hbox hg) | ((with_reducible refine gate_dst (N := 3) rfl ?_); refine box_event ?hg (N := 3) ?hd (cs := #[.int .i64 a1_0, .int .i64 a1_1]) (t := 25) ?hr ?_; (case hd => rfl); (case hg => rfl); (case hr => first | (go_simp; done) | (go_simp; rfl)); intro gb215 hg w5 hbox hb; have n0_ := bw_ BK214.out hb; have n1_ := sb_ hb; have n2_ := A_ (hbox); have n3_ := lB_ hg; have n4_ := lB_ hg; have n5_ := nl_ BK214.out hg; have n6_ := ng_ BK214.out hg; clear BK214; clear HB; have BK214 := n0_; have HB := n1_; have BK215 := n2_; have GW215 := n3_; have GE215 := n4_; have NB214_215 := n5_; have NB215_214 := n6_; clear n0_ n1_ n2_ n3_ n4_ n5_ n6_; clear hb hbox hg; have hnb6 := NB214_215.out; have hnc6 := NB215_214.out; obtain ⟨hcz7_0, hcz7_1, hfz7_0, hfz7_1⟩ := by2 BK214.out; obtain ⟨hcz8_0, hcz8_1, hfz8_0, hfz8_1⟩ := by2 BK215.out) | ((with_reducible refine gate_callee (f := 60) rfl ?_); refine goesL_ (some 8) rfl rfl Try.func60 (by kernel_rfl) rfl #[.agg #[.int .i64 a0_0, .int .i64 a0_1], .agg #[.int .i64 a1_0, .int .i64 a1_1], .agg #[.int .i64 a1_0, .int .i64 a1_1]] rfl ga_ ?_; (with_reducible refine (impl_along.calls a0_0 a0_1 a1_0 a1_1 a1_0 a1_1 t216 _ A3.out).mono ?_); rintro e w9 ⟨rfl, hb⟩; refine ⟨_, rfl, ?_⟩; have n0_ := bw_ BK214.out hb; have n1_ := bw_ BK215.out hb; have n2_ := sb_ hb; clear BK214 BK215 HB; revert n0_ n1_ n2_; intro BK214 BK215 HB; (try clear hb); (try clear hi)))
 go_ret
 exact ⟨by first | rfl | (simp [errW_none, errW_some] <;> rfl) | (simp [*, errW_none, errW_some] <;> rfl), hB_⟩

/-! ### spec_l6In: function 51 -/
def spec_l6In.f (a0 : Int) (a1 : Int) (a2 : Int) : Option (Bool) := if a0 ≥ a1 then (some (decide (a0 ≤ a2))) else (some false)
set_option maxHeartbeats 8000000 in
set_option maxRecDepth 100000 in
theorem spec_l6In.calls (a0 : Int) (a1 : Int) (a2 : Int) (r : Bool) (w : World) (h : spec_l6In.f a0 a1 a2 = some r) :
  Calls Try.prog 51 #[.int .i64 a0, .int .i64 a1, .int .i64 a2] w fun e w' => e = .returned (.bool r) ∧ Drawn0 w w' := by
 have H : (if a0 ≥ a1 then (some (decide (a0 ≤ a2))) else (some false)) = some r := h; clear h; by_cases c4 : a0 ≥ a1
 ·rw [if_pos c4] at H; have c4b0 : decide (a1 ≤ a0) = true := decide_eq_true c4; clear c4; obtain rfl := Option.some.inj H; go_enter Try.func51, Try.ntmps51
  go_wp2
  go_ret
  exact ⟨by first | rfl | (simp; done) | (simp [*]; done), by repeat (first | exact Drawn0.refl _ | apply Drawn0.step)⟩
 ·rw [if_neg c4] at H; have c4b0 : decide (a1 ≤ a0) = false := decide_eq_false c4; clear c4; obtain rfl := Option.some.inj H; go_enter Try.func51, Try.ntmps51
  go_wp2
  go_ret
  exact ⟨by first | rfl | (simp; done) | (simp [*]; done), by repeat (first | exact Drawn0.refl _ | apply Drawn0.step)⟩

/-! ### spec_PtOk: function 17 -/
def spec_PtOk.f (a0_0 : Int) (a0_1 : Int) : Option (Bool) := (spec_l6In.f a0_0 0 9).bind fun t260 => (if t260 = true then ((spec_l6In.f a0_1 0 9).bind fun t261 => (some t261)) else (some false))
set_option maxHeartbeats 8000000 in
set_option maxRecDepth 100000 in
theorem spec_PtOk.calls (a0_0 : Int) (a0_1 : Int) (r : Bool) (w : World) (h : spec_PtOk.f a0_0 a0_1 = some r) :
  Calls Try.prog 17 #[.agg #[.int .i64 a0_0, .int .i64 a0_1]] w fun e w' => e = .returned (.bool r) ∧ Below w.heap.size w w' := by
 have hu25 := Try.underlying25; have HB := A_ (Below.refl w.heap.size w); have H : ((spec_l6In.f a0_0 0 9).bind fun t260 => (if t260 = true then ((spec_l6In.f a0_1 0 9).bind fun t261 => (some t261)) else (some false))) = some r := h; clear h; replace H := Option.bind_eq_some_iff.mp H; obtain ⟨t260, A20, H⟩ := H; (try dsimp only at H); have A2 := A_ A20; clear A20; by_cases c3 : t260 = true
 ·subst c3; have H1 : ((spec_l6In.f a0_1 0 9).bind fun t261 => (some t261)) = some r := by rw [if_pos rfl] at H; exact H
  clear H; have H := H1; clear H1; replace H := Option.bind_eq_some_iff.mp H; obtain ⟨t261, A40, H⟩ := H; (try dsimp only at H); have A4 := A_ A40; clear A40; obtain rfl := Option.some.inj H; go_enter Try.func17, Try.ntmps17
  go_wp2_with (first | ((with_reducible refine gate_dst (N := 1) rfl ?_); refine box_event ?hg (N := 1) ?hd (cs := #[.int .i64 a0_0, .int .i64 a0_1]) (t := 25) ?hr ?_; (case hd => rfl); (case hg => rfl); (case hr => first | (go_simp; done) | (go_simp; rfl)); intro gb259 hg w5 hbox hb; have n0_ := sb_ hb; have n1_ := A_ (hbox); have n2_ := lB_ hg; have n3_ := lB_ hg; clear HB; have HB := n0_; have BK259 := n1_; have GW259 := n2_; have GE259 := n3_; clear n0_ n1_ n2_ n3_; clear hb hbox hg; obtain ⟨hcz6_0, hcz6_1, hfz6_0, hfz6_1⟩ := by2 BK259.out) | ((with_reducible refine gate_callee (f := 51) rfl ?_); refine goesL_ (some 5) rfl rfl Try.func51 (by kernel_rfl) rfl #[.int .i64 a0_0, .int .i64 0, .int .i64 9] rfl ga_ ?_; (with_reducible refine (spec_l6In.calls a0_0 0 9 true _ A2.out).mono ?_); rintro e w' ⟨rfl, ⟨nd, rfl⟩⟩; refine ⟨_, rfl, ?_⟩) | (go_at_call 51; (with_reducible refine (spec_l6In.calls a0_1 0 9 t261 _ A4.out).mono ?_); rintro e w' ⟨rfl, ⟨nd, rfl⟩⟩))
  go_ret
  exact ⟨by first | rfl | (simp [errW_none, errW_some] <;> rfl) | (simp [*, errW_none, errW_some] <;> rfl), hB_⟩
 ·replace c3 := Bool.eq_false_iff.mpr c3; subst c3; have H1 : (some false) = some r := by rw [if_neg (show ¬ (false = true) by decide)] at H; exact H
  clear H; have H := H1; clear H1; obtain rfl := Option.some.inj H; go_enter Try.func17, Try.ntmps17
  go_wp2_with (first | ((with_reducible refine gate_dst (N := 1) rfl ?_); refine box_event ?hg (N := 1) ?hd (cs := #[.int .i64 a0_0, .int .i64 a0_1]) (t := 25) ?hr ?_; (case hd => rfl); (case hg => rfl); (case hr => first | (go_simp; done) | (go_simp; rfl)); intro gb259 hg w7 hbox hb; have n0_ := sb_ hb; have n1_ := A_ (hbox); have n2_ := lB_ hg; have n3_ := lB_ hg; clear HB; have HB := n0_; have BK259 := n1_; have GW259 := n2_; have GE259 := n3_; clear n0_ n1_ n2_ n3_; clear hb hbox hg; obtain ⟨hcz8_0, hcz8_1, hfz8_0, hfz8_1⟩ := by2 BK259.out) | ((with_reducible refine gate_callee (f := 51) rfl ?_); refine goesL_ (some 5) rfl rfl Try.func51 (by kernel_rfl) rfl #[.int .i64 a0_0, .int .i64 0, .int .i64 9] rfl ga_ ?_; (with_reducible refine (spec_l6In.calls a0_0 0 9 false _ A2.out).mono ?_); rintro e w' ⟨rfl, ⟨nd, rfl⟩⟩; refine ⟨_, rfl, ?_⟩))
  go_ret
  exact ⟨by first | rfl | (simp [errW_none, errW_some] <;> rfl) | (simp [*, errW_none, errW_some] <;> rfl), hB_⟩

end Go.Proofs.Ytehkklmacglelaa.PA
namespace Go.Proofs.Ytehkklmacglelaa.PA
open Go.RowKit Go.Proofs.YtehkklmacglelaaW.PrintWords Go.Proofs.YtehkklmacglelaaW.PrintLast Go.Proofs.YtehkklmacglelaaW.PrintMore
attribute [local go_sem] max2_int min2_int max_two min_two max_three min_three max_four min_four   -- for this text's walks alone
set_option linter.unusedVariables false
set_option linter.unusedSimpArgs false

/-! ### impl_SegHas: function 20 -/
def impl_SegHas.j0 : Nat → Bool → Int → Int → Int → Int → Int → Int → Option (Bool)
 | 0, _, _, _, _, _, _, _ => none
 | k + 1, x22, x218000, x218001, x218002, x218003, x219000, x219001 => if x22 = true then (some false) else ((impl_along.f x218000 x218001 x218002 x218003 x219000 x219001).bind fun t222 => (if t222 ≥ 0 then ((impl_between.f x218000 x218001 x218002 x218003).bind fun t223 => (some (decide (t222 ≤ t223)))) else (some false)))
def impl_SegHas.f (k : Nat) (a0_0 : Int) (a0_1 : Int) (a0_2 : Int) (a0_3 : Int) (a1_0 : Int) (a1_1 : Int) : Option (Bool) := (impl_SegOk.f a0_0 a0_1 a0_2 a0_3).bind fun t219 => (if t219 = true then ((impl_PtOk.f a1_0 a1_1).bind fun t220 => (if t220 = true then ((impl_cross.f a0_0 a0_1 a0_2 a0_3 a1_0 a1_1).bind fun t221 => (impl_SegHas.j0 k (t221 != 0) a0_0 a0_1 a0_2 a0_3 a1_0 a1_1)) else (impl_SegHas.j0 k true a0_0 a0_1 a0_2 a0_3 a1_0 a1_1))) else (impl_SegHas.j0 k true a0_0 a0_1 a0_2 a0_3 a1_0 a1_1))
theorem impl_SegHas.mono_l : ∀ k, (∀ y0 y1 y2 y3 y4 y5 y6, LeO (impl_SegHas.j0 k y0 y1 y2 y3 y4 y5 y6) (impl_SegHas.j0 (k + 1) y0 y1 y2 y3 y4 y5 y6))
 | 0 => fun _ _ _ _ _ _ _ r h => by simp [impl_SegHas.j0] at h
 | k + 1 => by
  have ih0 := impl_SegHas.mono_l k
  ·intro y0 y1 y2 y3 y4 y5 y6; unfold impl_SegHas.j0; repeat' first
   | (with_reducible exact ih0 _ _ _ _ _ _ _)
   | (with_reducible exact LeO.refl _)
   | (with_reducible exact LeO.none _)
   | (with_reducible refine LeO.ite ?_ ?_)
   | (with_reducible refine LeO.bind ?_ (fun _ => ?_))
   | exact ih0 _ _ _ _ _ _ _
   | exact LeO.none _
   | refine LeO.ite ?_ ?_
   | refine LeO.bind ?_ (fun _ => ?_)
theorem impl_SegHas.mono : ∀ a0 a1 a2 a3 a4 a5 k, LeO (impl_SegHas.f k a0 a1 a2 a3 a4 a5) (impl_SegHas.f (k + 1) a0 a1 a2 a3 a4 a5) := by
 intro a0 a1 a2 a3 a4 a5 k; have ih0 := impl_SegHas.mono_l k; unfold impl_SegHas.f; repeat' first
   | (with_reducible exact ih0 _ _ _ _ _ _ _)
   | (with_reducible exact LeO.refl _)
   | (with_reducible exact LeO.none _)
   | (with_reducible refine LeO.ite ?_ ?_)
   | (with_reducible refine LeO.bind ?_ (fun _ => ?_))
   | exact ih0 _ _ _ _ _ _ _
   | exact LeO.none _
   | refine LeO.ite ?_ ?_
   | refine LeO.bind ?_ (fun _ => ?_)
set_option maxHeartbeats 8000000 in
set_option maxRecDepth 100000 in
theorem impl_SegHas.calls (k : Nat) (a0_0 : Int) (a0_1 : Int) (a0_2 : Int) (a0_3 : Int) (a1_0 : Int) (a1_1 : Int) (r : Bool) (w : World) (h : impl_SegHas.f k a0_0 a0_1 a0_2 a0_3 a1_0 a1_1 = some r) :
  Calls Try.prog 20 #[.agg #[.int .i64 a0_0, .int .i64 a0_1, .int .i64 a0_2, .int .i64 a0_3], .agg #[.int .i64 a1_0, .int .i64 a1_1]] w fun e w' => e = .returned (.bool r) ∧ Below w.heap.size w w' := by
 have hu35 := Try.underlying35; have hu25 := Try.underlying25; have HB := A_ (Below.refl w.heap.size w); have H : ((impl_SegOk.f a0_0 a0_1 a0_2 a0_3).bind fun t219 => (if t219 = true then ((impl_PtOk.f a1_0 a1_1).bind fun t220 => (if t220 = true then ((impl_cross.f a0_0 a0_1 a0_2 a0_3 a1_0 a1_1).bind fun t221 => (impl_SegHas.j0 k (t221 != 0) a0_0 a0_1 a0_2 a0_3 a1_0 a1_1)) else (impl_SegHas.j0 k true a0_0 a0_1 a0_2 a0_3 a1_0 a1_1))) else (impl_SegHas.j0 k true a0_0 a0_1 a0_2 a0_3 a1_0 a1_1))) = some r := h; clear h; have HC3 := A_ H; clear H; go_enter Try.func20, Try.ntmps20
 go_upto_region 1 with (first | ((with_reducible refine gate_dst (N := 2) rfl ?_); refine box_event ?hg (N := 2) ?hd (cs := #[.int .i64 a0_0, .int .i64 a0_1, .int .i64 a0_2, .int .i64 a0_3]) (t := 35) ?hr ?_; (case hd => rfl); (case hg => rfl); (case hr => first | (go_simp; done) | (go_simp; rfl)); intro gb217 hg w4 hbox hb; have n0_ := sb_ hb; have n1_ := A_ (hbox); have n2_ := lB_ hg; have n3_ := lB_ hg; clear HB; have HB := n0_; have BK217 := n1_; have GW217 := n2_; have GE217 := n3_; clear n0_ n1_ n2_ n3_; clear hb hbox hg) | ((with_reducible refine gate_dst (N := 3) rfl ?_); refine box_event ?hg (N := 3) ?hd (cs := #[.int .i64 a1_0, .int .i64 a1_1]) (t := 25) ?hr ?_; (case hd => rfl); (case hg => rfl); (case hr => first | (go_simp; done) | (go_simp; rfl)); intro gb218 hg w5 hbox hb; have n0_ := bw_ BK217.out hb; have n1_ := sb_ hb; have n2_ := A_ (hbox); have n3_ := lB_ hg; have n4_ := lB_ hg; have n5_ := nl_ BK217.out hg; have n6_ := ng_ BK217.out hg; clear BK217; clear HB; have BK217 := n0_; have HB := n1_; have BK218 := n2_; have GW218 := n3_; have GE218 := n4_; have NB217_218 := n5_; have NB218_217 := n6_; clear n0_ n1_ n2_ n3_ n4_ n5_ n6_; clear hb hbox hg))
 (try simp only [Act.put, Geo.sa_, Geo.sb_, Geo.sc_]); go_cut [22] (fun v22 wc => ∃ (kq : Nat) (x22_2 : Bool), v22 = .bool x22_2 ∧ Aside0 (impl_SegHas.j0 kq x22_2 a0_0 a0_1 a0_2 a0_3 a1_0 a1_1 = some r) ∧ Aside0 (kq ≤ k) ∧ Aside0 (wc.heap[gb217]? = some (.cells #[.int .i64 a0_0, .int .i64 a0_1, .int .i64 a0_2, .int .i64 a0_3] 35 (0, 0))) ∧ Aside0 (wc.heap[gb218]? = some (.cells #[.int .i64 a1_0, .int .i64 a1_1] 25 (0, 0))) ∧ Aside0 (Below w.heap.size w wc))
 case first =>
  have H := HC3.out; clear HC3; replace H := Option.bind_eq_some_iff.mp H; obtain ⟨t219, A60, H⟩ := H; (try dsimp only at H); have A6 := A_ A60; clear A60; by_cases c7 : t219 = true
  ·subst c7; have H1 : ((impl_PtOk.f a1_0 a1_1).bind fun t220 => (if t220 = true then ((impl_cross.f a0_0 a0_1 a0_2 a0_3 a1_0 a1_1).bind fun t221 => (impl_SegHas.j0 k (t221 != 0) a0_0 a0_1 a0_2 a0_3 a1_0 a1_1)) else (impl_SegHas.j0 k true a0_0 a0_1 a0_2 a0_3 a1_0 a1_1))) = some r := by rw [if_pos rfl] at H; exact H
   clear H; have H := H1; clear H1; replace H := Option.bind_eq_some_iff.mp H; obtain ⟨t220, A80, H⟩ := H; (try dsimp only at H); have A8 := A_ A80; clear A80; by_cases c9 : t220 = true
   ·subst c9; have H1 : ((impl_cross.f a0_0 a0_1 a0_2 a0_3 a1_0 a1_1).bind fun t221 => (impl_SegHas.j0 k (t221 != 0) a0_0 a0_1 a0_2 a0_3 a1_0 a1_1)) = some r := by rw [if_pos rfl] at H; exact H
    clear H; have H := H1; clear H1; replace H := Option.bind_eq_some_iff.mp H; obtain ⟨t221, A100, H⟩ := H; (try dsimp only at H); have A10 := A_ A100; clear A100; have H' := A_ H; clear H; have hnb11 := NB217_218.out; have hnc11 := NB218_217.out; obtain ⟨hcz12_0, hcz12_1, hcz12_2, hcz12_3, hfz12_0, hfz12_1, hfz12_2, hfz12_3⟩ := by4 BK217.out; go_wp2_with (first | ((with_reducible refine gate_callee (f := 57) rfl ?_); refine goesL_ (some 7) rfl rfl Try.func57 (by kernel_rfl) rfl #[.agg #[.int .i64 a0_0, .int .i64 a0_1, .int .i64 a0_2, .int .i64 a0_3]] rfl ga_ ?_; (with_reducible refine (impl_SegOk.calls a0_0 a0_1 a0_2 a0_3 true _ A6.out).mono ?_); rintro e w13 ⟨rfl, hb⟩; refine ⟨_, rfl, ?_⟩; have n0_ := bw_ BK217.out hb; have n1_ := bw_ BK218.out hb; have n2_ := sb_ hb; clear BK217 BK218 HB; revert n0_ n1_ n2_; intro BK217 BK218 HB; (try clear hb); obtain ⟨hcz14_0, hcz14_1, hfz14_0, hfz14_1⟩ := by2 BK218.out) | (go_at_call 48; (with_reducible refine (impl_PtOk.calls a1_0 a1_1 true _ A8.out).mono ?_); rintro e w15 ⟨rfl, hb⟩; have n0_ := bw_ BK217.out hb; have n1_ := bw_ BK218.out hb; have n2_ := sb_ hb; clear BK217 BK218 HB; revert n0_ n1_ n2_; intro BK217 BK218 HB; (try clear hb); obtain ⟨hcz16_0, hcz16_1, hcz16_2, hcz16_3, hfz16_0, hfz16_1, hfz16_2, hfz16_3⟩ := by4 BK217.out; obtain ⟨hcz17_0, hcz17_1, hfz17_0, hfz17_1⟩ := by2 BK218.out) | (go_at_call 59; (with_reducible refine (impl_cross.calls a0_0 a0_1 a0_2 a0_3 a1_0 a1_1 t221 _ A10.out).mono ?_); rintro e w18 ⟨rfl, hb⟩; have n0_ := bw_ BK217.out hb; have n1_ := bw_ BK218.out hb; have n2_ := sb_ hb; clear BK217 BK218 HB; revert n0_ n1_ n2_; intro BK217 BK218 HB; (try clear hb); (try clear hi)))
    go_meet
    case rel => exact ⟨_, ((t221 != 0)), (by first | rfl | (simp; done) | (simp [*]; done)), H', ⟨by first | omega | exact Nat.le_refl _⟩, ⟨by (with_reducible repeat (first | refine blk_drewN ?_ _ | refine blk_drew ?_ | refine blk_alloc ?_ _)); exact BK217.out⟩, ⟨by (with_reducible repeat (first | refine blk_drewN ?_ _ | refine blk_drew ?_ | refine blk_alloc ?_ _)); exact BK218.out⟩, ⟨hB_⟩⟩
   ·replace c9 := Bool.eq_false_iff.mpr c9; subst c9; have H1 : (impl_SegHas.j0 k true a0_0 a0_1 a0_2 a0_3 a1_0 a1_1) = some r := by rw [if_neg (show ¬ (false = true) by decide)] at H; exact H
    clear H; have H := H1; clear H1; have H' := A_ H; clear H; have hnb19 := NB217_218.out; have hnc19 := NB218_217.out; obtain ⟨hcz20_0, hcz20_1, hcz20_2, hcz20_3, hfz20_0, hfz20_1, hfz20_2, hfz20_3⟩ := by4 BK217.out; go_wp2_with (first | ((with_reducible refine gate_callee (f := 57) rfl ?_); refine goesL_ (some 7) rfl rfl Try.func57 (by kernel_rfl) rfl #[.agg #[.int .i64 a0_0, .int .i64 a0_1, .int .i64 a0_2, .int .i64 a0_3]] rfl ga_ ?_; (with_reducible refine (impl_SegOk.calls a0_0 a0_1 a0_2 a0_3 true _ A6.out).mono ?_); rintro e w21 ⟨rfl, hb⟩; refine ⟨_, rfl, ?_⟩; have n0_ := bw_ BK217.out hb; have n1_ := bw_ BK218.out hb; have n2_ := sb_ hb; clear BK217 BK218 HB; revert n0_ n1_ n2_; intro BK217 BK218 HB; (try clear hb); obtain ⟨hcz22_0, hcz22_1, hfz22_0, hfz22_1⟩ := by2 BK218.out) | (go_at_call 48; (with_reducible refine (impl_PtOk.calls a1_0 a1_1 false _ A8.out).mono ?_); rintro e w23 ⟨rfl, hb⟩; have n0_ := bw_ BK217.out hb; have n1_ := bw_ BK218.out hb; have n2_ := sb_ hb; clear BK217 BK218 HB; revert n0_ n1_ n2_; intro BK217 BK218 HB; (try clear hb); (try clear hi)))
    go_meet
    case rel => exact ⟨_, (true), (by first | rfl | (simp; done) | (simp [*]; done)), H', ⟨by first | omega | exact Nat.le_refl _⟩, ⟨by (with_reducible repeat (first | refine blk_drewN ?_ _ | refine blk_drew ?_ | refine blk_alloc ?_ _)); exact BK217.out⟩, ⟨by (with_reducible repeat (first | refine blk_drewN ?_ _ | refine blk_drew ?_ | refine blk_alloc ?_ _)); exact BK218.out⟩, ⟨hB_⟩⟩
  ·replace c7 := Bool.eq_false_iff.mpr c7; subst c7; have H1 : (impl_SegHas.j0 k true a0_0 a0_1 a0_2 a0_3 a1_0 a1_1) = some r := by rw [if_neg (show ¬ (false = true) by decide)] at H; exact H
   clear H; have H := H1; clear H1; have H' := A_ H; clear H; have hnb24 := NB217_218.out; have hnc24 := NB218_217.out; obtain ⟨hcz25_0, hcz25_1, hcz25_2, hcz25_3, hfz25_0, hfz25_1, hfz25_2, hfz25_3⟩ := by4 BK217.out; go_wp2_with (first | ((with_reducible refine gate_callee (f := 57) rfl ?_); refine goesL_ (some 7) rfl rfl Try.func57 (by kernel_rfl) rfl #[.agg #[.int .i64 a0_0, .int .i64 a0_1, .int .i64 a0_2, .int .i64 a0_3]] rfl ga_ ?_; (with_reducible refine (impl_SegOk.calls a0_0 a0_1 a0_2 a0_3 false _ A6.out).mono ?_); rintro e w26 ⟨rfl, hb⟩; refine ⟨_, rfl, ?_⟩; have n0_ := bw_ BK217.out hb; have n1_ := bw_ BK218.out hb; have n2_ := sb_ hb; clear BK217 BK218 HB; revert n0_ n1_ n2_; intro BK217 BK218 HB; (try clear hb); (try clear hi)))
   go_meet
   case rel => exact ⟨_, (true), (by first | rfl | (simp; done) | (simp [*]; done)), H', ⟨by first | omega | exact Nat.le_refl _⟩, ⟨by (with_reducible repeat (first | refine blk_drewN ?_ _ | refine blk_drew ?_ | refine blk_alloc ?_ _)); exact BK217.out⟩, ⟨by (with_reducible repeat (first | refine blk_drewN ?_ _ | refine blk_drew ?_ | refine blk_alloc ?_ _)); exact BK218.out⟩, ⟨hB_⟩⟩
 case rest =>
  clear HC3; try clear c1
  try clear c2
  try clear p2
  try clear c5
  try clear c7
  try clear c9
  try clear c11
  try clear c19
  try clear c20
  try clear c24
  try clear hcz12_0
  try clear hcz12_1
  try clear hcz12_2
  try clear hcz12_3
  try clear hcz14_0
  try clear hcz14_1
  try clear hcz16_0
  try clear hcz16_1
  try clear hcz16_2
  try clear hcz16_3
  try clear hcz17_0
  try clear hcz17_1
  try clear hcz20_0
  try clear hcz20_1
  try clear hcz20_2
  try clear hcz20_3
  try clear hcz22_0
  try clear hcz22_1
  try clear hcz25_0
  try clear hcz25_1
  try clear hcz25_2
  try clear hcz25_3
  try clear hfz12_0
  try clear hfz12_1
  try clear hfz12_2
  try clear hfz12_3
  try clear hfz14_0
  try clear hfz14_1
  try clear hfz16_0
  try clear hfz16_1
  try clear hfz16_2
  try clear hfz16_3
  try clear hfz17_0
  try clear hfz17_1
  try clear hfz20_0
  try clear hfz20_1
  try clear hfz20_2
  try clear hfz20_3
  try clear hfz22_0
  try clear hfz22_1
  try clear hfz25_0
  try clear hfz25_1
  try clear hfz25_2
  try clear hfz25_3
  obtain ⟨kq, x22_2, rfl, HA, HJ2, BK217, BK218, HB⟩ := hcut; cases kq with
  | zero => exact absurd HA.out (by simp [impl_SegHas.j0])
  | succ kj2 =>
   have H := HA.out; clear HA; simp only [impl_SegHas.j0] at H; by_cases c27 : x22_2 = true
   ·subst c27; have H1 : (some false) = some r := by rw [if_pos rfl] at H; exact H
    clear H; have H := H1; clear H1; obtain rfl := Option.some.inj H; go_wp2
    go_ret
    exact ⟨by first | rfl | (simp [errW_none, errW_some] <;> rfl) | (simp [*, errW_none, errW_some] <;> rfl), hB_⟩
   ·replace c27 := Bool.eq_false_iff.mpr c27; subst c27; have H1 : ((impl_along.f a0_0 a0_1 a0_2 a0_3 a1_0 a1_1).bind fun t222 => (if t222 ≥ 0 then ((impl_between.f a0_0 a0_1 a0_2 a0_3).bind fun t223 => (some (decide (t222 ≤ t223)))) else (some false))) = some r := by rw [if_neg (show ¬ (false = true) by decide)] at H; exact H
    clear H; have H := H1; clear H1; replace H := Option.bind_eq_some_iff.mp H; obtain ⟨t222, A280, H⟩ := H; (try dsimp only at H); have A28 := A_ A280; clear A280; by_cases c29 : t222 ≥ 0
    ·rw [if_pos c29] at H; have c29b0 : decide (0 ≤ t222) = true := decide_eq_true c29; clear c29; replace H := Option.bind_eq_some_iff.mp H; obtain ⟨t223, A300, H⟩ := H; (try dsimp only at H); have A30 := A_ A300; clear A300; obtain rfl := Option.some.inj H; have hnb31 := NB217_218.out; have hnc31 := NB218_217.out; obtain ⟨hcz32_0, hcz32_1, hcz32_2, hcz32_3, hfz32_0, hfz32_1, hfz32_2, hfz32_3⟩ := by4 BK217.out; obtain ⟨hcz33_0, hcz33_1, hfz33_0, hfz33_1⟩ := by2 BK218.out; go_wp2_with (first | ((with_reducible refine gate_callee (f := 60) rfl ?_); refine goesL_ (some 28) rfl rfl Try.func60 (by kernel_rfl) rfl #[.agg #[.int .i64 a0_0, .int .i64 a0_1], .agg #[.int .i64 a0_2, .int .i64 a0_3], .agg #[.int .i64 a1_0, .int .i64 a1_1]] rfl ga_ ?_; (with_reducible refine (impl_along.calls a0_0 a0_1 a0_2 a0_3 a1_0 a1_1 t222 _ A28.out).mono ?_); rintro e w34 ⟨rfl, hb⟩; refine ⟨_, rfl, ?_⟩; have n0_ := bw_ BK217.out hb; have n1_ := bw_ BK218.out hb; have n2_ := sb_ hb; clear BK217 BK218 HB; revert n0_ n1_ n2_; intro BK217 BK218 HB; (try clear hb); obtain ⟨hcz35_0, hcz35_1, hcz35_2, hcz35_3, hfz35_0, hfz35_1, hfz35_2, hfz35_3⟩ := by4 BK217.out) | (go_at_call 61; (with_reducible refine (impl_between.calls a0_0 a0_1 a0_2 a0_3 t223 _ A30.out).mono ?_); rintro e w36 ⟨rfl, hb⟩; have n0_ := bw_ BK217.out hb; have n1_ := bw_ BK218.out hb; have n2_ := sb_ hb; clear BK217 BK218 HB; revert n0_ n1_ n2_; intro BK217 BK218 HB; (try clear hb); (try clear hi)))
     go_ret
     exact ⟨by first | rfl | (simp [errW_none, errW_some] <;> rfl) | (simp [*, errW_none, errW_some] <;> rfl), hB_⟩
    ·rw [if_neg c29] at H; have c29b0 : decide (0 ≤ t222) = false := decide_eq_false c29; clear c29; obtain rfl := Option.some.inj H; have hnb37 := NB217_218.out; have hnc37 := NB218_217.out; obtain ⟨hcz38_0, hcz38_1, hcz38_2, hcz38_3, hfz38_0, hfz38_1, hfz38_2, hfz38_3⟩ := by4 BK217.out; obtain ⟨hcz39_0, hcz39_1, hfz39_0, hfz39_1⟩ := by2 BK218.out; go_wp2_with (first | ((with_reducible refine gate_callee (f := 60) rfl ?_); refine goesL_ (some 28) rfl rfl Try.func60 (by kernel_rfl) rfl #[.agg #[.int .i64 a0_0, .int .i64 a0_1], .agg #[.int .i64 a0_2, .int .i64 a0_3], .agg #[.int .i64 a1_0, .int .i64 a1_1]] rfl ga_ ?_; (with_reducible refine (impl_along.calls a0_0 a0_1 a0_2 a0_3 a1_0 a1_1 t222 _ A28.out).mono ?_); rintro e w40 ⟨rfl, hb⟩; refine ⟨_, rfl, ?_⟩; have n0_ := bw_ BK217.out hb; have n1_ := bw_ BK218.out hb; have n2_ := sb_ hb; clear BK217 BK218 HB; revert n0_ n1_ n2_; intro BK217 BK218 HB; (try clear hb); (try clear hi)))
     go_ret
     exact ⟨by first | rfl | (simp [errW_none, errW_some] <;> rfl) | (simp [*, errW_none, errW_some] <;> rfl), hB_⟩

end Go.Proofs.Ytehkklmacglelaa.PA
namespace Go.Proofs.Ytehkklmacglelaa.PA
open Go.RowKit Go.Proofs.YtehkklmacglelaaW.PrintWords Go.Proofs.YtehkklmacglelaaW.PrintLast Go.Proofs.YtehkklmacglelaaW.PrintMore
attribute [local go_sem] max2_int min2_int max_two min_two max_three min_three max_four min_four   -- for this text's walks alone
set_option linter.unusedVariables false
set_option linter.unusedSimpArgs false

/-! ### impl_SegTurn: function 58 -/
def impl_SegTurn.j0 : Nat → Bool → Int → Int → Int → Int → Int → Int → Option (Int)
 | 0, _, _, _, _, _, _, _ => none
 | k + 1, x20, x225000, x225001, x226000, x226001, x227000, x227001 => if x20 = true then (some 0) else ((impl_cross.f x225000 x225001 x226000 x226001 x227000 x227001).bind fun t230 => (if t230 > 0 then (some 1) else (if t230 < 0 then (some (-1)) else (some 0))))
def impl_SegTurn.f (k : Nat) (a0_0 : Int) (a0_1 : Int) (a1_0 : Int) (a1_1 : Int) (a2_0 : Int) (a2_1 : Int) : Option (Int) := (impl_PtOk.f a0_0 a0_1).bind fun t227 => (if t227 = true then ((impl_PtOk.f a1_0 a1_1).bind fun t228 => (if t228 = true then ((impl_PtOk.f a2_0 a2_1).bind fun t229 => (impl_SegTurn.j0 k (!t229) a0_0 a0_1 a1_0 a1_1 a2_0 a2_1)) else (impl_SegTurn.j0 k true a0_0 a0_1 a1_0 a1_1 a2_0 a2_1))) else (impl_SegTurn.j0 k true a0_0 a0_1 a1_0 a1_1 a2_0 a2_1))
theorem impl_SegTurn.mono_l : ∀ k, (∀ y0 y1 y2 y3 y4 y5 y6, LeO (impl_SegTurn.j0 k y0 y1 y2 y3 y4 y5 y6) (impl_SegTurn.j0 (k + 1) y0 y1 y2 y3 y4 y5 y6))
 | 0 => fun _ _ _ _ _ _ _ r h => by simp [impl_SegTurn.j0] at h
 | k + 1 => by
  have ih0 := impl_SegTurn.mono_l k
  ·intro y0 y1 y2 y3 y4 y5 y6; unfold impl_SegTurn.j0; repeat' first
   | (with_reducible exact ih0 _ _ _ _ _ _ _)
   | (with_reducible exact LeO.refl _)
   | (with_reducible exact LeO.none _)
   | (with_reducible refine LeO.ite ?_ ?_)
   | (with_reducible refine LeO.bind ?_ (fun _ => ?_))
   | exact ih0 _ _ _ _ _ _ _
   | exact LeO.none _
   | refine LeO.ite ?_ ?_
   | refine LeO.bind ?_ (fun _ => ?_)
theorem impl_SegTurn.mono : ∀ a0 a1 a2 a3 a4 a5 k, LeO (impl_SegTurn.f k a0 a1 a2 a3 a4 a5) (impl_SegTurn.f (k + 1) a0 a1 a2 a3 a4 a5) := by
 intro a0 a1 a2 a3 a4 a5 k; have ih0 := impl_SegTurn.mono_l k; unfold impl_SegTurn.f; repeat' first
   | (with_reducible exact ih0 _ _ _ _ _ _ _)
   | (with_reducible exact LeO.refl _)
   | (with_reducible exact LeO.none _)
   | (with_reducible refine LeO.ite ?_ ?_)
   | (with_reducible refine LeO.bind ?_ (fun _ => ?_))
   | exact ih0 _ _ _ _ _ _ _
   | exact LeO.none _
   | refine LeO.ite ?_ ?_
   | refine LeO.bind ?_ (fun _ => ?_)
set_option maxHeartbeats 8000000 in
set_option maxRecDepth 100000 in
theorem impl_SegTurn.calls (k : Nat) (a0_0 : Int) (a0_1 : Int) (a1_0 : Int) (a1_1 : Int) (a2_0 : Int) (a2_1 : Int) (r : Int) (w : World) (h : impl_SegTurn.f k a0_0 a0_1 a1_0 a1_1 a2_0 a2_1 = some r) :
  Calls Try.prog 58 #[.agg #[.int .i64 a0_0, .int .i64 a0_1], .agg #[.int .i64 a1_0, .int .i64 a1_1], .agg #[.int .i64 a2_0, .int .i64 a2_1]] w fun e w' => e = .returned (.int .i64 r) ∧ Below w.heap.size w w' := by
 have hu25 := Try.underlying25; have HB := A_ (Below.refl w.heap.size w); have H : ((impl_PtOk.f a0_0 a0_1).bind fun t227 => (if t227 = true then ((impl_PtOk.f a1_0 a1_1).bind fun t228 => (if t228 = true then ((impl_PtOk.f a2_0 a2_1).bind fun t229 => (impl_SegTurn.j0 k (!t229) a0_0 a0_1 a1_0 a1_1 a2_0 a2_1)) else (impl_SegTurn.j0 k true a0_0 a0_1 a1_0 a1_1 a2_0 a2_1))) else (impl_SegTurn.j0 k true a0_0 a0_1 a1_0 a1_1 a2_0 a2_1))) = some r := h; clear h; have HC4 := A_ H; clear H; go_enter Try.func58, Try.ntmps58
 go_upto_region 1 with (first | ((with_reducible refine gate_dst (N := 3) rfl ?_); refine box_event ?hg (N := 3) ?hd (cs := #[.int .i64 a0_0, .int .i64 a0_1]) (t := 25) ?hr ?_; (case hd => rfl); (case hg => rfl); (case hr => first | (go_simp; done) | (go_simp; rfl)); intro gb224 hg w5 hbox hb; have n0_ := sb_ hb; have n1_ := A_ (hbox); have n2_ := lB_ hg; have n3_ := lB_ hg; clear HB; have HB := n0_; have BK224 := n1_; have GW224 := n2_; have GE224 := n3_; clear n0_ n1_ n2_ n3_; clear hb hbox hg) | ((with_reducible refine gate_dst (N := 4) rfl ?_); refine box_event ?hg (N := 4) ?hd (cs := #[.int .i64 a1_0, .int .i64 a1_1]) (t := 25) ?hr ?_; (case hd => rfl); (case hg => rfl); (case hr => first | (go_simp; done) | (go_simp; rfl)); intro gb225 hg w6 hbox hb; have n0_ := bw_ BK224.out hb; have n1_ := sb_ hb; have n2_ := A_ (hbox); have n3_ := lB_ hg; have n4_ := lB_ hg; have n5_ := nl_ BK224.out hg; have n6_ := ng_ BK224.out hg; clear BK224; clear HB; have BK224 := n0_; have HB := n1_; have BK225 := n2_; have GW225 := n3_; have GE225 := n4_; have NB224_225 := n5_; have NB225_224 := n6_; clear n0_ n1_ n2_ n3_ n4_ n5_ n6_; clear hb hbox hg) | ((with_reducible refine gate_dst (N := 5) rfl ?_); refine box_event ?hg (N := 5) ?hd (cs := #[.int .i64 a2_0, .int .i64 a2_1]) (t := 25) ?hr ?_; (case hd => rfl); (case hg => rfl); (case hr => first | (go_simp; done) | (go_simp; rfl)); intro gb226 hg w7 hbox hb; have n0_ := bw_ BK224.out hb; have n1_ := bw_ BK225.out hb; have n2_ := sb_ hb; have n3_ := A_ (hbox); have n4_ := lB_ hg; have n5_ := lB_ hg; have n6_ := nl_ BK224.out hg; have n7_ := ng_ BK224.out hg; have n8_ := nl_ BK225.out hg; have n9_ := ng_ BK225.out hg; clear BK224; clear BK225; clear HB; have BK224 := n0_; have BK225 := n1_; have HB := n2_; have BK226 := n3_; have GW226 := n4_; have GE226 := n5_; have NB224_226 := n6_; have NB226_224 := n7_; have NB225_226 := n8_; have NB226_225 := n9_; clear n0_ n1_ n2_ n3_ n4_ n5_ n6_ n7_ n8_ n9_; clear hb hbox hg))
 (try simp only [Act.put, Geo.sa_, Geo.sb_, Geo.sc_]); go_cut [20] (fun v20 wc => ∃ (kq : Nat) (x20_3 : Bool), v20 = .bool x20_3 ∧ Aside0 (impl_SegTurn.j0 kq x20_3 a0_0 a0_1 a1_0 a1_1 a2_0 a2_1 = some r) ∧ Aside0 (kq ≤ k) ∧ Aside0 (wc.heap[gb224]? = some (.cells #[.int .i64 a0_0, .int .i64 a0_1] 25 (0, 0))) ∧ Aside0 (wc.heap[gb225]? = some (.cells #[.int .i64 a1_0, .int .i64 a1_1] 25 (0, 0))) ∧ Aside0 (wc.heap[gb226]? = some (.cells #[.int .i64 a2_0, .int .i64 a2_1] 25 (0, 0))) ∧ Aside0 (Below w.heap.size w wc))
 case first =>
  have H := HC4.out; clear HC4; replace H := Option.bind_eq_some_iff.mp H; obtain ⟨t227, A80, H⟩ := H; (try dsimp only at H); have A8 := A_ A80; clear A80; by_cases c9 : t227 = true
  ·subst c9; have H1 : ((impl_PtOk.f a1_0 a1_1).bind fun t228 => (if t228 = true then ((impl_PtOk.f a2_0 a2_1).bind fun t229 => (impl_SegTurn.j0 k (!t229) a0_0 a0_1 a1_0 a1_1 a2_0 a2_1)) else (impl_SegTurn.j0 k true a0_0 a0_1 a1_0 a1_1 a2_0 a2_1))) = some r := by rw [if_pos rfl] at H; exact H
   clear H; have H := H1; clear H1; replace H := Option.bind_eq_some_iff.mp H; obtain ⟨t228, A100, H⟩ := H; (try dsimp only at H); have A10 := A_ A100; clear A100; by_cases c11 : t228 = true
   ·subst c11; have H1 : ((impl_PtOk.f a2_0 a2_1).bind fun t229 => (impl_SegTurn.j0 k (!t229) a0_0 a0_1 a1_0 a1_1 a2_0 a2_1)) = some r := by rw [if_pos rfl] at H; exact H
    clear H; have H := H1; clear H1; replace H := Option.bind_eq_some_iff.mp H; obtain ⟨t229, A120, H⟩ := H; (try dsimp only at H); have A12 := A_ A120; clear A120; have H' := A_ H; clear H; have hnb13 := NB224_225.out; have hnc13 := NB225_224.out; have hnb14 := NB224_226.out; have hnc14 := NB226_224.out; obtain ⟨hcz15_0, hcz15_1, hfz15_0, hfz15_1⟩ := by2 BK224.out; go_wp2_with (first | ((with_reducible refine gate_callee (f := 48) rfl ?_); refine goesL_ (some 9) rfl rfl Try.func48 (by kernel_rfl) rfl #[.agg #[.int .i64 a0_0, .int .i64 a0_1]] rfl ga_ ?_; (with_reducible refine (impl_PtOk.calls a0_0 a0_1 true _ A8.out).mono ?_); rintro e w16 ⟨rfl, hb⟩; refine ⟨_, rfl, ?_⟩; have n0_ := bw_ BK224.out hb; have n1_ := bw_ BK225.out hb; have n2_ := bw_ BK226.out hb; have n3_ := sb_ hb; clear BK224 BK225 BK226 HB; revert n0_ n1_ n2_ n3_; intro BK224 BK225 BK226 HB; (try clear hb); have hnb17 := NB225_226.out; have hnc17 := NB226_225.out; obtain ⟨hcz18_0, hcz18_1, hfz18_0, hfz18_1⟩ := by2 BK225.out) | (go_at_call 48; (with_reducible refine (impl_PtOk.calls a1_0 a1_1 true _ A10.out).mono ?_); rintro e w19 ⟨rfl, hb⟩; have n0_ := bw_ BK224.out hb; have n1_ := bw_ BK225.out hb; have n2_ := bw_ BK226.out hb; have n3_ := sb_ hb; clear BK224 BK225 BK226 HB; revert n0_ n1_ n2_ n3_; intro BK224 BK225 BK226 HB; (try clear hb); obtain ⟨hcz20_0, hcz20_1, hfz20_0, hfz20_1⟩ := by2 BK226.out) | (go_at_call 48; (with_reducible refine (impl_PtOk.calls a2_0 a2_1 t229 _ A12.out).mono ?_); rintro e w21 ⟨rfl, hb⟩; have n0_ := bw_ BK224.out hb; have n1_ := bw_ BK225.out hb; have n2_ := bw_ BK226.out hb; have n3_ := sb_ hb; clear BK224 BK225 BK226 HB; revert n0_ n1_ n2_ n3_; intro BK224 BK225 BK226 HB; (try clear hb); (try clear hi)))
    go_meet
    case rel => exact ⟨_, (!t229), (by first | rfl | (simp; done) | (simp [*]; done)), H', ⟨by first | omega | exact Nat.le_refl _⟩, ⟨by (with_reducible repeat (first | refine blk_drewN ?_ _ | refine blk_drew ?_ | refine blk_alloc ?_ _)); exact BK224.out⟩, ⟨by (with_reducible repeat (first | refine blk_drewN ?_ _ | refine blk_drew ?_ | refine blk_alloc ?_ _)); exact BK225.out⟩, ⟨by (with_reducible repeat (first | refine blk_drewN ?_ _ | refine blk_drew ?_ | refine blk_alloc ?_ _)); exact BK226.out⟩, ⟨hB_⟩⟩
   ·replace c11 := Bool.eq_false_iff.mpr c11; subst c11; have H1 : (impl_SegTurn.j0 k true a0_0 a0_1 a1_0 a1_1 a2_0 a2_1) = some r := by rw [if_neg (show ¬ (false = true) by decide)] at H; exact H
    clear H; have H := H1; clear H1; have H' := A_ H; clear H; have hnb22 := NB224_225.out; have hnc22 := NB225_224.out; have hnb23 := NB224_226.out; have hnc23 := NB226_224.out; obtain ⟨hcz24_0, hcz24_1, hfz24_0, hfz24_1⟩ := by2 BK224.out; go_wp2_with (first | ((with_reducible refine gate_callee (f := 48) rfl ?_); refine goesL_ (some 9) rfl rfl Try.func48 (by kernel_rfl) rfl #[.agg #[.int .i64 a0_0, .int .i64 a0_1]] rfl ga_ ?_; (with_reducible refine (impl_PtOk.calls a0_0 a0_1 true _ A8.out).mono ?_); rintro e w25 ⟨rfl, hb⟩; refine ⟨_, rfl, ?_⟩; have n0_ := bw_ BK224.out hb; have n1_ := bw_ BK225.out hb; have n2_ := bw_ BK226.out hb; have n3_ := sb_ hb; clear BK224 BK225 BK226 HB; revert n0_ n1_ n2_ n3_; intro BK224 BK225 BK226 HB; (try clear hb); have hnb26 := NB225_226.out; have hnc26 := NB226_225.out; obtain ⟨hcz27_0, hcz27_1, hfz27_0, hfz27_1⟩ := by2 BK225.out) | (go_at_call 48; (with_reducible refine (impl_PtOk.calls a1_0 a1_1 false _ A10.out).mono ?_); rintro e w28 ⟨rfl, hb⟩; have n0_ := bw_ BK224.out hb; have n1_ := bw_ BK225.out hb; have n2_ := bw_ BK226.out hb; have n3_ := sb_ hb; clear BK224 BK225 BK226 HB; revert n0_ n1_ n2_ n3_; intro BK224 BK225 BK226 HB; (try clear hb); (try clear hi)))
    go_meet
    case rel => exact ⟨_, (true), (by first | rfl | (simp; done) | (simp [*]; done)), H', ⟨by first | omega | exact Nat.le_refl _⟩, ⟨by (with_reducible repeat (first | refine blk_drewN ?_ _ | refine blk_drew ?_ | refine blk_alloc ?_ _)); exact BK224.out⟩, ⟨by (with_reducible repeat (first | refine blk_drewN ?_ _ | refine blk_drew ?_ | refine blk_alloc ?_ _)); exact BK225.out⟩, ⟨by (with_reducible repeat (first | refine blk_drewN ?_ _ | refine blk_drew ?_ | refine blk_alloc ?_ _)); exact BK226.out⟩, ⟨hB_⟩⟩
  ·replace c9 := Bool.eq_false_iff.mpr c9; subst c9; have H1 : (impl_SegTurn.j0 k true a0_0 a0_1 a1_0 a1_1 a2_0 a2_1) = some r := by rw [if_neg (show ¬ (false = true) by decide)] at H; exact H
   clear H; have H := H1; clear H1; have H' := A_ H; clear H; have hnb29 := NB224_225.out; have hnc29 := NB225_224.out; have hnb30 := NB224_226.out; have hnc30 := NB226_224.out; obtain ⟨hcz31_0, hcz31_1, hfz31_0, hfz31_1⟩ := by2 BK224.out; go_wp2_with (first | ((with_reducible refine gate_callee (f := 48) rfl ?_); refine goesL_ (some 9) rfl rfl Try.func48 (by kernel_rfl) rfl #[.agg #[.int .i64 a0_0, .int .i64 a0_1]] rfl ga_ ?_; (with_reducible refine (impl_PtOk.calls a0_0 a0_1 false _ A8.out).mono ?_); rintro e w32 ⟨rfl, hb⟩; refine ⟨_, rfl, ?_⟩; have n0_ := bw_ BK224.out hb; have n1_ := bw_ BK225.out hb; have n2_ := bw_ BK226.out hb; have n3_ := sb_ hb; clear BK224 BK225 BK226 HB; revert n0_ n1_ n2_ n3_; intro BK224 BK225 BK226 HB; (try clear hb); (try clear hi)))
   go_meet
   case rel => exact ⟨_, (true), (by first | rfl | (simp; done) | (simp [*]; done)), H', ⟨by first | omega | exact Nat.le_refl _⟩, ⟨by (with_reducible repeat (first | refine blk_drewN ?_ _ | refine blk_drew ?_ | refine blk_alloc ?_ _)); exact BK224.out⟩, ⟨by (with_reducible repeat (first | refine blk_drewN ?_ _ | refine blk_drew ?_ | refine blk_alloc ?_ _)); exact BK225.out⟩, ⟨by (with_reducible repeat (first | refine blk_drewN ?_ _ | refine blk_drew ?_ | refine blk_alloc ?_ _)); exact BK226.out⟩, ⟨hB_⟩⟩
 case rest =>
  clear HC4; try clear c1
  try clear c2
  try clear p2
  try clear c3
  try clear c4
  try clear c5
  try clear c9
  try clear c11
  try clear c13
  try clear c14
  try clear c17
  try clear c22
  try clear c23
  try clear c26
  try clear c29
  try clear c30
  try clear hcz15_0
  try clear hcz15_1
  try clear hcz18_0
  try clear hcz18_1
  try clear hcz20_0
  try clear hcz20_1
  try clear hcz24_0
  try clear hcz24_1
  try clear hcz27_0
  try clear hcz27_1
  try clear hcz31_0
  try clear hcz31_1
  try clear hfz15_0
  try clear hfz15_1
  try clear hfz18_0
  try clear hfz18_1
  try clear hfz20_0
  try clear hfz20_1
  try clear hfz24_0
  try clear hfz24_1
  try clear hfz27_0
  try clear hfz27_1
  try clear hfz31_0
  try clear hfz31_1
  obtain ⟨kq, x20_3, rfl, HA, HJ3, BK224, BK225, BK226, HB⟩ := hcut; cases kq with
  | zero => exact absurd HA.out (by simp [impl_SegTurn.j0])
  | succ kj3 =>
   have H := HA.out; clear HA; simp only [impl_SegTurn.j0] at H; by_cases c33 : x20_3 = true
   ·subst c33; have H1 : (some 0) = some r := by rw [if_pos rfl] at H; exact H
    clear H; have H := H1; clear H1; obtain rfl := Option.some.inj H; go_wp2
    go_ret
    exact ⟨by first | rfl | (simp [errW_none, errW_some] <;> rfl) | (simp [*, errW_none, errW_some] <;> rfl), hB_⟩
   ·replace c33 := Bool.eq_false_iff.mpr c33; subst c33; have H1 : ((impl_cross.f a0_0 a0_1 a1_0 a1_1 a2_0 a2_1).bind fun t230 => (if t230 > 0 then (some 1) else (if t230 < 0 then (some (-1)) else (some 0)))) = some r := by rw [if_neg (show ¬ (false = true) by decide)] at H; exact H
    clear H; have H := H1; clear H1; replace H := Option.bind_eq_some_iff.mp H; obtain ⟨t230, A340, H⟩ := H; (try dsimp only at H); have A34 := A_ A340; clear A340; by_cases c35 : t230 > 0
    ·rw [if_pos c35] at H; have c35b0 : decide (0 < t230) = true := decide_eq_true c35; clear c35; obtain rfl := Option.some.inj H; have hnb36 := NB224_225.out; have hnc36 := NB225_224.out; have hnb37 := NB224_226.out; have hnc37 := NB226_224.out; obtain ⟨hcz38_0, hcz38_1, hfz38_0, hfz38_1⟩ := by2 BK224.out; have hnb39 := NB225_226.out; have hnc39 := NB226_225.out; obtain ⟨hcz40_0, hcz40_1, hfz40_0, hfz40_1⟩ := by2 BK225.out; obtain ⟨hcz41_0, hcz41_1, hfz41_0, hfz41_1⟩ := by2 BK226.out; go_wp2_with (first | ((with_reducible refine gate_callee (f := 59) rfl ?_); refine goesL_ (some 24) rfl rfl Try.func59 (by kernel_rfl) rfl #[.agg #[.int .i64 a0_0, .int .i64 a0_1], .agg #[.int .i64 a1_0, .int .i64 a1_1], .agg #[.int .i64 a2_0, .int .i64 a2_1]] rfl ga_ ?_; (with_reducible refine (impl_cross.calls a0_0 a0_1 a1_0 a1_1 a2_0 a2_1 t230 _ A34.out).mono ?_); rintro e w42 ⟨rfl, hb⟩; refine ⟨_, rfl, ?_⟩; have n0_ := bw_ BK224.out hb; have n1_ := bw_ BK225.out hb; have n2_ := bw_ BK226.out hb; have n3_ := sb_ hb; clear BK224 BK225 BK226 HB; revert n0_ n1_ n2_ n3_; intro BK224 BK225 BK226 HB; (try clear hb); (try clear hi)))
     go_ret
     exact ⟨by first | rfl | (simp [errW_none, errW_some] <;> rfl) | (simp [*, errW_none, errW_some] <;> rfl), hB_⟩
    ·rw [if_neg c35] at H; have c35b0 : decide (0 < t230) = false := decide_eq_false c35; clear c35; by_cases c43 : t230 < 0
     ·rw [if_pos c43] at H; have c43b0 : decide (t230 < 0) = true := decide_eq_true c43; clear c43; obtain rfl := Option.some.inj H; have hnb44 := NB224_225.out; have hnc44 := NB225_224.out; have hnb45 := NB224_226.out; have hnc45 := NB226_224.out; obtain ⟨hcz46_0, hcz46_1, hfz46_0, hfz46_1⟩ := by2 BK224.out; have hnb47 := NB225_226.out; have hnc47 := NB226_225.out; obtain ⟨hcz48_0, hcz48_1, hfz48_0, hfz48_1⟩ := by2 BK225.out; obtain ⟨hcz49_0, hcz49_1, hfz49_0, hfz49_1⟩ := by2 BK226.out; go_wp2_with (first | ((with_reducible refine gate_callee (f := 59) rfl ?_); refine goesL_ (some 24) rfl rfl Try.func59 (by kernel_rfl) rfl #[.agg #[.int .i64 a0_0, .int .i64 a0_1], .agg #[.int .i64 a1_0, .int .i64 a1_1], .agg #[.int .i64 a2_0, .int .i64 a2_1]] rfl ga_ ?_; (with_reducible refine (impl_cross.calls a0_0 a0_1 a1_0 a1_1 a2_0 a2_1 t230 _ A34.out).mono ?_); rintro e w50 ⟨rfl, hb⟩; refine ⟨_, rfl, ?_⟩; have n0_ := bw_ BK224.out hb; have n1_ := bw_ BK225.out hb; have n2_ := bw_ BK226.out hb; have n3_ := sb_ hb; clear BK224 BK225 BK226 HB; revert n0_ n1_ n2_ n3_; intro BK224 BK225 BK226 HB; (try clear hb); (try clear hi)))
      go_ret
      exact ⟨by first | rfl | (simp [errW_none, errW_some] <;> rfl) | (simp [*, errW_none, errW_some] <;> rfl), hB_⟩
     ·rw [if_neg c43] at H; have c43b0 : decide (t230 < 0) = false := decide_eq_false c43; clear c43; obtain rfl := Option.some.inj H; have hnb51 := NB224_225.out; have hnc51 := NB225_224.out; have hnb52 := NB224_226.out; have hnc52 := NB226_224.out; obtain ⟨hcz53_0, hcz53_1, hfz53_0, hfz53_1⟩ := by2 BK224.out; have hnb54 := NB225_226.out; have hnc54 := NB226_225.out; obtain ⟨hcz55_0, hcz55_1, hfz55_0, hfz55_1⟩ := by2 BK225.out; obtain ⟨hcz56_0, hcz56_1, hfz56_0, hfz56_1⟩ := by2 BK226.out; go_wp2_with (first | ((with_reducible refine gate_callee (f := 59) rfl ?_); refine goesL_ (some 24) rfl rfl Try.func59 (by kernel_rfl) rfl #[.agg #[.int .i64 a0_0, .int .i64 a0_1], .agg #[.int .i64 a1_0, .int .i64 a1_1], .agg #[.int .i64 a2_0, .int .i64 a2_1]] rfl ga_ ?_; (with_reducible refine (impl_cross.calls a0_0 a0_1 a1_0 a1_1 a2_0 a2_1 t230 _ A34.out).mono ?_); rintro e w57 ⟨rfl, hb⟩; refine ⟨_, rfl, ?_⟩; have n0_ := bw_ BK224.out hb; have n1_ := bw_ BK225.out hb; have n2_ := bw_ BK226.out hb; have n3_ := sb_ hb; clear BK224 BK225 BK226 HB; revert n0_ n1_ n2_ n3_; intro BK224 BK225 BK226 HB; (try clear hb); (try clear hi)))
      go_ret
      exact ⟨by first | rfl | (simp [errW_none, errW_some] <;> rfl) | (simp [*, errW_none, errW_some] <;> rfl), hB_⟩

end Go.Proofs.Ytehkklmacglelaa.PA
namespace Go.Proofs.Ytehkklmacglelaa.PA
open Go.RowKit Go.Proofs.YtehkklmacglelaaW.PrintWords Go.Proofs.YtehkklmacglelaaW.PrintLast Go.Proofs.YtehkklmacglelaaW.PrintMore
attribute [local go_sem] max2_int min2_int max_two min_two max_three min_three max_four min_four   -- for this text's walks alone
set_option linter.unusedVariables false
set_option linter.unusedSimpArgs false

/-! ### impl_SegMeet: function 19 -/
mutual
def impl_SegMeet.j0 : Nat → Bool → Int → Int → Int → Int → Int → Int → Int → Int → Option (Bool)
 | 0, _, _, _, _, _, _, _, _, _ => none
 | k + 1, x12, x232000, x232001, x232002, x232003, x233000, x233001, x233002, x233003 => if x12 = true then (some false) else ((impl_SegHas.f k x232000 x232001 x232002 x232003 x233000 x233001).bind fun t235 => (if t235 = true then (impl_SegMeet.j1 k true x232000 x232001 x232002 x232003 x233000 x233001 x233002 x233003) else ((impl_SegHas.f k x232000 x232001 x232002 x232003 x233002 x233003).bind fun t236 => (if t236 = true then (impl_SegMeet.j1 k true x232000 x232001 x232002 x232003 x233000 x233001 x233002 x233003) else ((impl_SegHas.f k x233000 x233001 x233002 x233003 x232000 x232001).bind fun t237 => (if t237 = true then (impl_SegMeet.j1 k true x232000 x232001 x232002 x232003 x233000 x233001 x233002 x233003) else ((impl_SegHas.f k x233000 x233001 x233002 x233003 x232002 x232003).bind fun t238 => (impl_SegMeet.j1 k t238 x232000 x232001 x232002 x232003 x233000 x233001 x233002 x233003))))))))
def impl_SegMeet.j1 : Nat → Bool → Int → Int → Int → Int → Int → Int → Int → Int → Option (Bool)
 | 0, _, _, _, _, _, _, _, _, _ => none
 | k + 1, x34, x232000, x232001, x232002, x232003, x233000, x233001, x233002, x233003 => if x34 = true then (some true) else ((impl_SegTurn.f k x232000 x232001 x232002 x232003 x233000 x233001).bind fun t239 => ((impl_SegTurn.f k x232000 x232001 x232002 x232003 x233002 x233003).bind fun t240 => (if (wrap64 (t239 * t240)) < 0 then ((impl_SegTurn.f k x233000 x233001 x233002 x233003 x232000 x232001).bind fun t241 => ((impl_SegTurn.f k x233000 x233001 x233002 x233003 x232002 x232003).bind fun t242 => (some (decide ((wrap64 (t241 * t242)) < 0))))) else (some false))))
end
def impl_SegMeet.f (k : Nat) (a0_0 : Int) (a0_1 : Int) (a0_2 : Int) (a0_3 : Int) (a1_0 : Int) (a1_1 : Int) (a1_2 : Int) (a1_3 : Int) : Option (Bool) := (impl_SegOk.f a0_0 a0_1 a0_2 a0_3).bind fun t233 => (if t233 = true then ((impl_SegOk.f a1_0 a1_1 a1_2 a1_3).bind fun t234 => (impl_SegMeet.j0 k (!t234) a0_0 a0_1 a0_2 a0_3 a1_0 a1_1 a1_2 a1_3)) else (impl_SegMeet.j0 k true a0_0 a0_1 a0_2 a0_3 a1_0 a1_1 a1_2 a1_3))
theorem impl_SegMeet.mono_l : ∀ k, (∀ y0 y1 y2 y3 y4 y5 y6 y7 y8, LeO (impl_SegMeet.j0 k y0 y1 y2 y3 y4 y5 y6 y7 y8) (impl_SegMeet.j0 (k + 1) y0 y1 y2 y3 y4 y5 y6 y7 y8)) ∧ (∀ y0 y1 y2 y3 y4 y5 y6 y7 y8, LeO (impl_SegMeet.j1 k y0 y1 y2 y3 y4 y5 y6 y7 y8) (impl_SegMeet.j1 (k + 1) y0 y1 y2 y3 y4 y5 y6 y7 y8))
 | 0 => ⟨fun _ _ _ _ _ _ _ _ _ r h => by simp [impl_SegMeet.j0] at h, fun _ _ _ _ _ _ _ _ _ r h => by simp [impl_SegMeet.j1] at h⟩
 | k + 1 => by
  obtain ⟨ih0, ih1⟩ := impl_SegMeet.mono_l k; refine ⟨?_, ?_⟩
  ·intro y0 y1 y2 y3 y4 y5 y6 y7 y8; unfold impl_SegMeet.j0; repeat' first
   | (with_reducible exact ih0 _ _ _ _ _ _ _ _ _)
   | (with_reducible exact ih1 _ _ _ _ _ _ _ _ _)
   | (with_reducible exact impl_SegHas.mono _ _ _ _ _ _ _)
   | (with_reducible exact impl_SegTurn.mono _ _ _ _ _ _ _)
   | (with_reducible exact LeO.refl _)
   | (with_reducible exact LeO.none _)
   | (with_reducible refine LeO.ite ?_ ?_)
   | (with_reducible refine LeO.bind ?_ (fun _ => ?_))
   | exact ih0 _ _ _ _ _ _ _ _ _
   | exact ih1 _ _ _ _ _ _ _ _ _
   | exact impl_SegHas.mono _ _ _ _ _ _ _
   | exact impl_SegTurn.mono _ _ _ _ _ _ _
   | exact LeO.none _
   | refine LeO.ite ?_ ?_
   | refine LeO.bind ?_ (fun _ => ?_)
  ·intro y0 y1 y2 y3 y4 y5 y6 y7 y8; unfold impl_SegMeet.j1; repeat' first
   | (with_reducible exact ih0 _ _ _ _ _ _ _ _ _)
   | (with_reducible exact ih1 _ _ _ _ _ _ _ _ _)
   | (with_reducible exact impl_SegHas.mono _ _ _ _ _ _ _)
   | (with_reducible exact impl_SegTurn.mono _ _ _ _ _ _ _)
   | (with_reducible exact LeO.refl _)
   | (with_reducible exact LeO.none _)
   | (with_reducible refine LeO.ite ?_ ?_)
   | (with_reducible refine LeO.bind ?_ (fun _ => ?_))
   | exact ih0 _ _ _ _ _ _ _ _ _
   | exact ih1 _ _ _ _ _ _ _ _ _
   | exact impl_SegHas.mono _ _ _ _ _ _ _
   | exact impl_SegTurn.mono _ _ _ _ _ _ _
   | exact LeO.none _
   | refine LeO.ite ?_ ?_
   | refine LeO.bind ?_ (fun _ => ?_)
theorem impl_SegMeet.mono : ∀ a0 a1 a2 a3 a4 a5 a6 a7 k, LeO (impl_SegMeet.f k a0 a1 a2 a3 a4 a5 a6 a7) (impl_SegMeet.f (k + 1) a0 a1 a2 a3 a4 a5 a6 a7) := by
 intro a0 a1 a2 a3 a4 a5 a6 a7 k; obtain ⟨ih0, ih1⟩ := impl_SegMeet.mono_l k; unfold impl_SegMeet.f; repeat' first
   | (with_reducible exact ih0 _ _ _ _ _ _ _ _ _)
   | (with_reducible exact ih1 _ _ _ _ _ _ _ _ _)
   | (with_reducible exact impl_SegHas.mono _ _ _ _ _ _ _)
   | (with_reducible exact impl_SegTurn.mono _ _ _ _ _ _ _)
   | (with_reducible exact LeO.refl _)
   | (with_reducible exact LeO.none _)
   | (with_reducible refine LeO.ite ?_ ?_)
   | (with_reducible refine LeO.bind ?_ (fun _ => ?_))
   | exact ih0 _ _ _ _ _ _ _ _ _
   | exact ih1 _ _ _ _ _ _ _ _ _
   | exact impl_SegHas.mono _ _ _ _ _ _ _
   | exact impl_SegTurn.mono _ _ _ _ _ _ _
   | exact LeO.none _
   | refine LeO.ite ?_ ?_
   | refine LeO.bind ?_ (fun _ => ?_)
def impl_SegMeet.T5 : Bool × List (List Nat × List Nat) := (true, [([], []), ([0], [0]), ([], []), ([2], [2]), ([], []), ([4], [4]), ([1, 3, 5], [1, 3, 5]), ([], []), ([7], [7]), ([], []), ([9], [9]), ([], []), ([11], [11]), ([8, 10, 12, 6], [8, 10, 12]), ([6, 13], [6, 13]), ([14], [14]), ([15, 13], [15]), ([16], [16]), ([17, 16], [16, 17]), ([16], [16]), ([19, 16], [16, 19]), ([16], [16]), ([21, 16], [16, 21]), ([18, 20, 22, 16, 16], [16, 18, 20, 22]), ([16], [16]), ([24, 16], [16, 24]), ([16], [16]), ([26, 16], [16, 26]), ([16], [16]), ([28, 16], [16, 28]), ([25, 27, 29, 23, 16], [16, 25, 27, 29]), ([23, 30, 16], [16, 23, 30]), ([31, 16], [16, 31]), ([16, 32], [16, 32]), ([33, 30, 0, 1, 2, 3, 4, 5, 6, 7, 8, 9, 10, 11, 12, 13, 14, 15, 16, 17, 18, 19, 20, 21, 22, 23, 24, 25, 26, 27, 28, 29, 30, 31, 32, 33], [33])])
def impl_SegMeet.B5 : List Nat := [0, 1, 0, 4, 0, 16, 63, 0, 128, 0, 512, 0, 2048, 8191, 16383, 32767, 65535, 131071, 262143, 131071, 655359, 131071, 2228223, 8388607, 131071, 16908287, 131071, 67239935, 131071, 268566527, 1073741823, 2147483647, 4294967295, 8589934591, 17179869183]
theorem impl_SegMeet.tab5 : rtab .any (opsOf Try.f19 5) = impl_SegMeet.T5 := by kernel_rfl
theorem impl_SegMeet.bits5 : waitsOk impl_SegMeet.T5.2 impl_SegMeet.B5 = true := by kernel_rfl
set_option maxHeartbeats 8000000 in
set_option maxRecDepth 100000 in
theorem impl_SegMeet.calls (k : Nat) (a0_0 : Int) (a0_1 : Int) (a0_2 : Int) (a0_3 : Int) (a1_0 : Int) (a1_1 : Int) (a1_2 : Int) (a1_3 : Int) (r : Bool) (w : World) (h : impl_SegMeet.f k a0_0 a0_1 a0_2 a0_3 a1_0 a1_1 a1_2 a1_3 = some r) :
  Calls Try.prog 19 #[.agg #[.int .i64 a0_0, .int .i64 a0_1, .int .i64 a0_2, .int .i64 a0_3], .agg #[.int .i64 a1_0, .int .i64 a1_1, .int .i64 a1_2, .int .i64 a1_3]] w fun e w' => e = .returned (.bool r) ∧ Below w.heap.size w w' := by
 have hu35 := Try.underlying35; have hu25 := Try.underlying25; have HB := A_ (Below.refl w.heap.size w); have H : ((impl_SegOk.f a0_0 a0_1 a0_2 a0_3).bind fun t233 => (if t233 = true then ((impl_SegOk.f a1_0 a1_1 a1_2 a1_3).bind fun t234 => (impl_SegMeet.j0 k (!t234) a0_0 a0_1 a0_2 a0_3 a1_0 a1_1 a1_2 a1_3)) else (impl_SegMeet.j0 k true a0_0 a0_1 a0_2 a0_3 a1_0 a1_1 a1_2 a1_3))) = some r := h; clear h; have HC3 := A_ H; clear H; go_enter Try.func19, Try.ntmps19
 go_upto_region 1 with (first | ((with_reducible refine gate_dst (N := 2) rfl ?_); refine box_event ?hg (N := 2) ?hd (cs := #[.int .i64 a0_0, .int .i64 a0_1, .int .i64 a0_2, .int .i64 a0_3]) (t := 35) ?hr ?_; (case hd => rfl); (case hg => rfl); (case hr => first | (go_simp; done) | (go_simp; rfl)); intro gb231 hg w4 hbox hb; have n0_ := sb_ hb; have n1_ := A_ (hbox); have n2_ := lB_ hg; have n3_ := lB_ hg; clear HB; have HB := n0_; have BK231 := n1_; have GW231 := n2_; have GE231 := n3_; clear n0_ n1_ n2_ n3_; clear hb hbox hg) | ((with_reducible refine gate_dst (N := 3) rfl ?_); refine box_event ?hg (N := 3) ?hd (cs := #[.int .i64 a1_0, .int .i64 a1_1, .int .i64 a1_2, .int .i64 a1_3]) (t := 35) ?hr ?_; (case hd => rfl); (case hg => rfl); (case hr => first | (go_simp; done) | (go_simp; rfl)); intro gb232 hg w5 hbox hb; have n0_ := bw_ BK231.out hb; have n1_ := sb_ hb; have n2_ := A_ (hbox); have n3_ := lB_ hg; have n4_ := lB_ hg; have n5_ := nl_ BK231.out hg; have n6_ := ng_ BK231.out hg; clear BK231; clear HB; have BK231 := n0_; have HB := n1_; have BK232 := n2_; have GW232 := n3_; have GE232 := n4_; have NB231_232 := n5_; have NB232_231 := n6_; clear n0_ n1_ n2_ n3_ n4_ n5_ n6_; clear hb hbox hg))
 (try simp only [Act.put, Geo.sa_, Geo.sb_, Geo.sc_]); go_cut [12] (fun v12 wc => ∃ (kq : Nat) (x12_2 : Bool), v12 = .bool x12_2 ∧ Aside0 (impl_SegMeet.j0 kq x12_2 a0_0 a0_1 a0_2 a0_3 a1_0 a1_1 a1_2 a1_3 = some r) ∧ Aside0 (kq ≤ k) ∧ Aside0 (wc.heap[gb231]? = some (.cells #[.int .i64 a0_0, .int .i64 a0_1, .int .i64 a0_2, .int .i64 a0_3] 35 (0, 0))) ∧ Aside0 (wc.heap[gb232]? = some (.cells #[.int .i64 a1_0, .int .i64 a1_1, .int .i64 a1_2, .int .i64 a1_3] 35 (0, 0))) ∧ Aside0 (Below w.heap.size w wc))
 case first =>
  have H := HC3.out; clear HC3; replace H := Option.bind_eq_some_iff.mp H; obtain ⟨t233, A60, H⟩ := H; (try dsimp only at H); have A6 := A_ A60; clear A60; by_cases c7 : t233 = true
  ·subst c7; have H1 : ((impl_SegOk.f a1_0 a1_1 a1_2 a1_3).bind fun t234 => (impl_SegMeet.j0 k (!t234) a0_0 a0_1 a0_2 a0_3 a1_0 a1_1 a1_2 a1_3)) = some r := by rw [if_pos rfl] at H; exact H
   clear H; have H := H1; clear H1; replace H := Option.bind_eq_some_iff.mp H; obtain ⟨t234, A80, H⟩ := H; (try dsimp only at H); have A8 := A_ A80; clear A80; have H' := A_ H; clear H; have hnb9 := NB231_232.out; have hnc9 := NB232_231.out; obtain ⟨hcz10_0, hcz10_1, hcz10_2, hcz10_3, hfz10_0, hfz10_1, hfz10_2, hfz10_3⟩ := by4 BK231.out; go_wp2_with (first | ((with_reducible refine gate_callee (f := 57) rfl ?_); refine goesL_ (some 6) rfl rfl Try.func57 (by kernel_rfl) rfl #[.agg #[.int .i64 a0_0, .int .i64 a0_1, .int .i64 a0_2, .int .i64 a0_3]] rfl ga_ ?_; (with_reducible refine (impl_SegOk.calls a0_0 a0_1 a0_2 a0_3 true _ A6.out).mono ?_); rintro e w11 ⟨rfl, hb⟩; refine ⟨_, rfl, ?_⟩; have n0_ := bw_ BK231.out hb; have n1_ := bw_ BK232.out hb; have n2_ := sb_ hb; clear BK231 BK232 HB; revert n0_ n1_ n2_; intro BK231 BK232 HB; (try clear hb); obtain ⟨hcz12_0, hcz12_1, hcz12_2, hcz12_3, hfz12_0, hfz12_1, hfz12_2, hfz12_3⟩ := by4 BK232.out) | (go_at_call 57; (with_reducible refine (impl_SegOk.calls a1_0 a1_1 a1_2 a1_3 t234 _ A8.out).mono ?_); rintro e w13 ⟨rfl, hb⟩; have n0_ := bw_ BK231.out hb; have n1_ := bw_ BK232.out hb; have n2_ := sb_ hb; clear BK231 BK232 HB; revert n0_ n1_ n2_; intro BK231 BK232 HB; (try clear hb); (try clear hi)))
   go_meet
   case rel => exact ⟨_, (!t234), (by first | rfl | (simp; done) | (simp [*]; done)), H', ⟨by first | omega | exact Nat.le_refl _⟩, ⟨by (with_reducible repeat (first | refine blk_drewN ?_ _ | refine blk_drew ?_ | refine blk_alloc ?_ _)); exact BK231.out⟩, ⟨by (with_reducible repeat (first | refine blk_drewN ?_ _ | refine blk_drew ?_ | refine blk_alloc ?_ _)); exact BK232.out⟩, ⟨hB_⟩⟩
  ·replace c7 := Bool.eq_false_iff.mpr c7; subst c7; have H1 : (impl_SegMeet.j0 k true a0_0 a0_1 a0_2 a0_3 a1_0 a1_1 a1_2 a1_3) = some r := by rw [if_neg (show ¬ (false = true) by decide)] at H; exact H
   clear H; have H := H1; clear H1; have H' := A_ H; clear H; have hnb14 := NB231_232.out; have hnc14 := NB232_231.out; obtain ⟨hcz15_0, hcz15_1, hcz15_2, hcz15_3, hfz15_0, hfz15_1, hfz15_2, hfz15_3⟩ := by4 BK231.out; go_wp2_with (first | ((with_reducible refine gate_callee (f := 57) rfl ?_); refine goesL_ (some 6) rfl rfl Try.func57 (by kernel_rfl) rfl #[.agg #[.int .i64 a0_0, .int .i64 a0_1, .int .i64 a0_2, .int .i64 a0_3]] rfl ga_ ?_; (with_reducible refine (impl_SegOk.calls a0_0 a0_1 a0_2 a0_3 false _ A6.out).mono ?_); rintro e w16 ⟨rfl, hb⟩; refine ⟨_, rfl, ?_⟩; have n0_ := bw_ BK231.out hb; have n1_ := bw_ BK232.out hb; have n2_ := sb_ hb; clear BK231 BK232 HB; revert n0_ n1_ n2_; intro BK231 BK232 HB; (try clear hb); (try clear hi)))
   go_meet
   case rel => exact ⟨_, (true), (by first | rfl | (simp; done) | (simp [*]; done)), H', ⟨by first | omega | exact Nat.le_refl _⟩, ⟨by (with_reducible repeat (first | refine blk_drewN ?_ _ | refine blk_drew ?_ | refine blk_alloc ?_ _)); exact BK231.out⟩, ⟨by (with_reducible repeat (first | refine blk_drewN ?_ _ | refine blk_drew ?_ | refine blk_alloc ?_ _)); exact BK232.out⟩, ⟨hB_⟩⟩
 case rest =>
  clear HC3; try clear c1
  try clear p2
  try clear c5
  try clear c7
  try clear c9
  try clear c14
  try clear hcz10_0
  try clear hcz10_1
  try clear hcz10_2
  try clear hcz10_3
  try clear hcz12_0
  try clear hcz12_1
  try clear hcz12_2
  try clear hcz12_3
  try clear hcz15_0
  try clear hcz15_1
  try clear hcz15_2
  try clear hcz15_3
  try clear hfz10_0
  try clear hfz10_1
  try clear hfz10_2
  try clear hfz10_3
  try clear hfz12_0
  try clear hfz12_1
  try clear hfz12_2
  try clear hfz12_3
  try clear hfz15_0
  try clear hfz15_1
  try clear hfz15_2
  try clear hfz15_3
  obtain ⟨kq, x12_2, rfl, HA, HJ2, BK231, BK232, HB⟩ := hcut; cases kq with
  | zero => exact absurd HA.out (by simp [impl_SegMeet.j0])
  | succ kj2 =>
   have H := HA.out; clear HA; simp only [impl_SegMeet.j0] at H; by_cases c17 : x12_2 = true
   ·subst c17; have H1 : (some false) = some r := by rw [if_pos rfl] at H; exact H
    clear H; have H := H1; clear H1; obtain rfl := Option.some.inj H; go_wp2
    go_ret
    exact ⟨by first | rfl | (simp [errW_none, errW_some] <;> rfl) | (simp [*, errW_none, errW_some] <;> rfl), hB_⟩
   ·replace c17 := Bool.eq_false_iff.mpr c17; subst c17; have H1 : ((impl_SegHas.f kj2 a0_0 a0_1 a0_2 a0_3 a1_0 a1_1).bind fun t235 => (if t235 = true then (impl_SegMeet.j1 kj2 true a0_0 a0_1 a0_2 a0_3 a1_0 a1_1 a1_2 a1_3) else ((impl_SegHas.f kj2 a0_0 a0_1 a0_2 a0_3 a1_2 a1_3).bind fun t236 => (if t236 = true then (impl_SegMeet.j1 kj2 true a0_0 a0_1 a0_2 a0_3 a1_0 a1_1 a1_2 a1_3) else ((impl_SegHas.f kj2 a1_0 a1_1 a1_2 a1_3 a0_0 a0_1).bind fun t237 => (if t237 = true then (impl_SegMeet.j1 kj2 true a0_0 a0_1 a0_2 a0_3 a1_0 a1_1 a1_2 a1_3) else ((impl_SegHas.f kj2 a1_0 a1_1 a1_2 a1_3 a0_2 a0_3).bind fun t238 => (impl_SegMeet.j1 kj2 t238 a0_0 a0_1 a0_2 a0_3 a1_0 a1_1 a1_2 a1_3)))))))) = some r := by rw [if_neg (show ¬ (false = true) by decide)] at H; exact H
    clear H; have H := H1; clear H1; have HC18 := A_ H; clear H; go_upto_region 3 with (fail)
    go_cut [34] (fun v34 wc => ∃ (kq : Nat) (x34_17 : Bool), v34 = .bool x34_17 ∧ Aside0 (impl_SegMeet.j1 kq x34_17 a0_0 a0_1 a0_2 a0_3 a1_0 a1_1 a1_2 a1_3 = some r) ∧ Aside0 (kq ≤ kj2) ∧ Aside0 (wc.heap[gb231]? = some (.cells #[.int .i64 a0_0, .int .i64 a0_1, .int .i64 a0_2, .int .i64 a0_3] 35 (0, 0))) ∧ Aside0 (wc.heap[gb232]? = some (.cells #[.int .i64 a1_0, .int .i64 a1_1, .int .i64 a1_2, .int .i64 a1_3] 35 (0, 0))) ∧ Aside0 (Below w.heap.size w wc))
    case first =>
     have H := HC18.out; clear HC18; replace H := Option.bind_eq_some_iff.mp H; obtain ⟨t235, A190, H⟩ := H; (try dsimp only at H); have A19 := A_ A190; clear A190; by_cases c20 : t235 = true
     ·subst c20; have H1 : (impl_SegMeet.j1 kj2 true a0_0 a0_1 a0_2 a0_3 a1_0 a1_1 a1_2 a1_3) = some r := by rw [if_pos rfl] at H; exact H
      clear H; have H := H1; clear H1; have H' := A_ H; clear H; have hnb21 := NB231_232.out; have hnc21 := NB232_231.out; obtain ⟨hcz22_0, hcz22_1, hcz22_2, hcz22_3, hfz22_0, hfz22_1, hfz22_2, hfz22_3⟩ := by4 BK231.out; obtain ⟨hcz23_0, hcz23_1, hcz23_2, hcz23_3, hfz23_0, hfz23_1, hfz23_2, hfz23_3⟩ := by4 BK232.out; go_wp2_with (first | ((with_reducible refine gate_callee (f := 20) rfl ?_); refine goesL_ (some 16) rfl rfl Try.func20 (by kernel_rfl) rfl #[.agg #[.int .i64 a0_0, .int .i64 a0_1, .int .i64 a0_2, .int .i64 a0_3], .agg #[.int .i64 a1_0, .int .i64 a1_1]] rfl ga_ ?_; (with_reducible refine (impl_SegHas.calls kj2 a0_0 a0_1 a0_2 a0_3 a1_0 a1_1 true _ A19.out).mono ?_); rintro e w24 ⟨rfl, hb⟩; refine ⟨_, rfl, ?_⟩; have n0_ := bw_ BK231.out hb; have n1_ := bw_ BK232.out hb; have n2_ := sb_ hb; clear BK231 BK232 HB; revert n0_ n1_ n2_; intro BK231 BK232 HB; (try clear hb); (try clear hi)))
      go_meet
      case rel => exact ⟨_, (true), (by first | rfl | (simp; done) | (simp [*]; done)), H', ⟨by have := HJ2.out; first | omega | exact Nat.le_refl _⟩, ⟨by (with_reducible repeat (first | refine blk_drewN ?_ _ | refine blk_drew ?_ | refine blk_alloc ?_ _)); exact BK231.out⟩, ⟨by (with_reducible repeat (first | refine blk_drewN ?_ _ | refine blk_drew ?_ | refine blk_alloc ?_ _)); exact BK232.out⟩, ⟨hB_⟩⟩
     ·replace c20 := Bool.eq_false_iff.mpr c20; subst c20; have H1 : ((impl_SegHas.f kj2 a0_0 a0_1 a0_2 a0_3 a1_2 a1_3).bind fun t236 => (if t236 = true then (impl_SegMeet.j1 kj2 true a0_0 a0_1 a0_2 a0_3 a1_0 a1_1 a1_2 a1_3) else ((impl_SegHas.f kj2 a1_0 a1_1 a1_2 a1_3 a0_0 a0_1).bind fun t237 => (if t237 = true then (impl_SegMeet.j1 kj2 true a0_0 a0_1 a0_2 a0_3 a1_0 a1_1 a1_2 a1_3) else ((impl_SegHas.f kj2 a1_0 a1_1 a1_2 a1_3 a0_2 a0_3).bind fun t238 => (impl_SegMeet.j1 kj2 t238 a0_0 a0_1 a0_2 a0_3 a1_0 a1_1 a1_2 a1_3)))))) = some r := by rw [if_neg (show ¬ (false = true) by decide)] at H; exact H
      clear H; have H := H1; clear H1; replace H := Option.bind_eq_some_iff.mp H; obtain ⟨t236, A250, H⟩ := H; (try dsimp only at H); have A25 := A_ A250; clear A250; by_cases c26 : t236 = true
      ·subst c26; have H1 : (impl_SegMeet.j1 kj2 true a0_0 a0_1 a0_2 a0_3 a1_0 a1_1 a1_2 a1_3) = some r := by rw [if_pos rfl] at H; exact H
       clear H; have H := H1; clear H1; have H' := A_ H; clear H; have hnb27 := NB231_232.out; have hnc27 := NB232_231.out; obtain ⟨hcz28_0, hcz28_1, hcz28_2, hcz28_3, hfz28_0, hfz28_1, hfz28_2, hfz28_3⟩ := by4 BK231.out; obtain ⟨hcz29_0, hcz29_1, hcz29_2, hcz29_3, hfz29_0, hfz29_1, hfz29_2, hfz29_3⟩ := by4 BK232.out; go_wp2_with (first | ((with_reducible refine gate_callee (f := 20) rfl ?_); refine goesL_ (some 16) rfl rfl Try.func20 (by kernel_rfl) rfl #[.agg #[.int .i64 a0_0, .int .i64 a0_1, .int .i64 a0_2, .int .i64 a0_3], .agg #[.int .i64 a1_0, .int .i64 a1_1]] rfl ga_ ?_; (with_reducible refine (impl_SegHas.calls kj2 a0_0 a0_1 a0_2 a0_3 a1_0 a1_1 false _ A19.out).mono ?_); rintro e w30 ⟨rfl, hb⟩; refine ⟨_, rfl, ?_⟩; have n0_ := bw_ BK231.out hb; have n1_ := bw_ BK232.out hb; have n2_ := sb_ hb; clear BK231 BK232 HB; revert n0_ n1_ n2_; intro BK231 BK232 HB; (try clear hb); obtain ⟨hcz31_0, hcz31_1, hcz31_2, hcz31_3, hfz31_0, hfz31_1, hfz31_2, hfz31_3⟩ := by4 BK231.out; obtain ⟨hcz32_0, hcz32_1, hcz32_2, hcz32_3, hfz32_0, hfz32_1, hfz32_2, hfz32_3⟩ := by4 BK232.out) | (go_at_call 20; (with_reducible refine (impl_SegHas.calls kj2 a0_0 a0_1 a0_2 a0_3 a1_2 a1_3 true _ A25.out).mono ?_); rintro e w33 ⟨rfl, hb⟩; have n0_ := bw_ BK231.out hb; have n1_ := bw_ BK232.out hb; have n2_ := sb_ hb; clear BK231 BK232 HB; revert n0_ n1_ n2_; intro BK231 BK232 HB; (try clear hb); (try clear hi)))
       go_meet
       case rel => exact ⟨_, (true), (by first | rfl | (simp; done) | (simp [*]; done)), H', ⟨by have := HJ2.out; first | omega | exact Nat.le_refl _⟩, ⟨by (with_reducible repeat (first | refine blk_drewN ?_ _ | refine blk_drew ?_ | refine blk_alloc ?_ _)); exact BK231.out⟩, ⟨by (with_reducible repeat (first | refine blk_drewN ?_ _ | refine blk_drew ?_ | refine blk_alloc ?_ _)); exact BK232.out⟩, ⟨hB_⟩⟩
      ·replace c26 := Bool.eq_false_iff.mpr c26; subst c26; have H1 : ((impl_SegHas.f kj2 a1_0 a1_1 a1_2 a1_3 a0_0 a0_1).bind fun t237 => (if t237 = true then (impl_SegMeet.j1 kj2 true a0_0 a0_1 a0_2 a0_3 a1_0 a1_1 a1_2 a1_3) else ((impl_SegHas.f kj2 a1_0 a1_1 a1_2 a1_3 a0_2 a0_3).bind fun t238 => (impl_SegMeet.j1 kj2 t238 a0_0 a0_1 a0_2 a0_3 a1_0 a1_1 a1_2 a1_3)))) = some r := by rw [if_neg (show ¬ (false = true) by decide)] at H; exact H
       clear H; have H := H1; clear H1; replace H := Option.bind_eq_some_iff.mp H; obtain ⟨t237, A340, H⟩ := H; (try dsimp only at H); have A34 := A_ A340; clear A340; by_cases c35 : t237 = true
       ·subst c35; have H1 : (impl_SegMeet.j1 kj2 true a0_0 a0_1 a0_2 a0_3 a1_0 a1_1 a1_2 a1_3) = some r := by rw [if_pos rfl] at H; exact H
        clear H; have H := H1; clear H1; have H' := A_ H; clear H; have hnb36 := NB231_232.out; have hnc36 := NB232_231.out; obtain ⟨hcz37_0, hcz37_1, hcz37_2, hcz37_3, hfz37_0, hfz37_1, hfz37_2, hfz37_3⟩ := by4 BK231.out; obtain ⟨hcz38_0, hcz38_1, hcz38_2, hcz38_3, hfz38_0, hfz38_1, hfz38_2, hfz38_3⟩ := by4 BK232.out; go_wp2_with (first | ((with_reducible refine gate_callee (f := 20) rfl ?_); refine goesL_ (some 16) rfl rfl Try.func20 (by kernel_rfl) rfl #[.agg #[.int .i64 a0_0, .int .i64 a0_1, .int .i64 a0_2, .int .i64 a0_3], .agg #[.int .i64 a1_0, .int .i64 a1_1]] rfl ga_ ?_; (with_reducible refine (impl_SegHas.calls kj2 a0_0 a0_1 a0_2 a0_3 a1_0 a1_1 false _ A19.out).mono ?_); rintro e w39 ⟨rfl, hb⟩; refine ⟨_, rfl, ?_⟩; have n0_ := bw_ BK231.out hb; have n1_ := bw_ BK232.out hb; have n2_ := sb_ hb; clear BK231 BK232 HB; revert n0_ n1_ n2_; intro BK231 BK232 HB; (try clear hb); obtain ⟨hcz40_0, hcz40_1, hcz40_2, hcz40_3, hfz40_0, hfz40_1, hfz40_2, hfz40_3⟩ := by4 BK231.out; obtain ⟨hcz41_0, hcz41_1, hcz41_2, hcz41_3, hfz41_0, hfz41_1, hfz41_2, hfz41_3⟩ := by4 BK232.out) | (go_at_call 20; (with_reducible refine (impl_SegHas.calls kj2 a0_0 a0_1 a0_2 a0_3 a1_2 a1_3 false _ A25.out).mono ?_); rintro e w42 ⟨rfl, hb⟩; have n0_ := bw_ BK231.out hb; have n1_ := bw_ BK232.out hb; have n2_ := sb_ hb; clear BK231 BK232 HB; revert n0_ n1_ n2_; intro BK231 BK232 HB; (try clear hb); obtain ⟨hcz43_0, hcz43_1, hcz43_2, hcz43_3, hfz43_0, hfz43_1, hfz43_2, hfz43_3⟩ := by4 BK232.out; obtain ⟨hcz44_0, hcz44_1, hcz44_2, hcz44_3, hfz44_0, hfz44_1, hfz44_2, hfz44_3⟩ := by4 BK231.out) | (go_at_call 20; (with_reducible refine (impl_SegHas.calls kj2 a1_0 a1_1 a1_2 a1_3 a0_0 a0_1 true _ A34.out).mono ?_); rintro e w45 ⟨rfl, hb⟩; have n0_ := bw_ BK231.out hb; have n1_ := bw_ BK232.out hb; have n2_ := sb_ hb; clear BK231 BK232 HB; revert n0_ n1_ n2_; intro BK231 BK232 HB; (try clear hb); (try clear hi)))
        go_meet
        case rel => exact ⟨_, (true), (by first | rfl | (simp; done) | (simp [*]; done)), H', ⟨by have := HJ2.out; first | omega | exact Nat.le_refl _⟩, ⟨by (with_reducible repeat (first | refine blk_drewN ?_ _ | refine blk_drew ?_ | refine blk_alloc ?_ _)); exact BK231.out⟩, ⟨by (with_reducible repeat (first | refine blk_drewN ?_ _ | refine blk_drew ?_ | refine blk_alloc ?_ _)); exact BK232.out⟩, ⟨hB_⟩⟩
       ·replace c35 := Bool.eq_false_iff.mpr c35; subst c35; have H1 : ((impl_SegHas.f kj2 a1_0 a1_1 a1_2 a1_3 a0_2 a0_3).bind fun t238 => (impl_SegMeet.j1 kj2 t238 a0_0 a0_1 a0_2 a0_3 a1_0 a1_1 a1_2 a1_3)) = some r := by rw [if_neg (show ¬ (false = true) by decide)] at H; exact H
        clear H; have H := H1; clear H1; replace H := Option.bind_eq_some_iff.mp H; obtain ⟨t238, A460, H⟩ := H; (try dsimp only at H); have A46 := A_ A460; clear A460; have H' := A_ H; clear H; have hnb47 := NB231_232.out; have hnc47 := NB232_231.out; obtain ⟨hcz48_0, hcz48_1, hcz48_2, hcz48_3, hfz48_0, hfz48_1, hfz48_2, hfz48_3⟩ := by4 BK231.out; obtain ⟨hcz49_0, hcz49_1, hcz49_2, hcz49_3, hfz49_0, hfz49_1, hfz49_2, hfz49_3⟩ := by4 BK232.out; go_wp2_with (first | ((with_reducible refine gate_callee (f := 20) rfl ?_); refine goesL_ (some 16) rfl rfl Try.func20 (by kernel_rfl) rfl #[.agg #[.int .i64 a0_0, .int .i64 a0_1, .int .i64 a0_2, .int .i64 a0_3], .agg #[.int .i64 a1_0, .int .i64 a1_1]] rfl ga_ ?_; (with_reducible refine (impl_SegHas.calls kj2 a0_0 a0_1 a0_2 a0_3 a1_0 a1_1 false _ A19.out).mono ?_); rintro e w50 ⟨rfl, hb⟩; refine ⟨_, rfl, ?_⟩; have n0_ := bw_ BK231.out hb; have n1_ := bw_ BK232.out hb; have n2_ := sb_ hb; clear BK231 BK232 HB; revert n0_ n1_ n2_; intro BK231 BK232 HB; (try clear hb); obtain ⟨hcz51_0, hcz51_1, hcz51_2, hcz51_3, hfz51_0, hfz51_1, hfz51_2, hfz51_3⟩ := by4 BK231.out; obtain ⟨hcz52_0, hcz52_1, hcz52_2, hcz52_3, hfz52_0, hfz52_1, hfz52_2, hfz52_3⟩ := by4 BK232.out) | (go_at_call 20; (with_reducible refine (impl_SegHas.calls kj2 a0_0 a0_1 a0_2 a0_3 a1_2 a1_3 false _ A25.out).mono ?_); rintro e w53 ⟨rfl, hb⟩; have n0_ := bw_ BK231.out hb; have n1_ := bw_ BK232.out hb; have n2_ := sb_ hb; clear BK231 BK232 HB; revert n0_ n1_ n2_; intro BK231 BK232 HB; (try clear hb); obtain ⟨hcz54_0, hcz54_1, hcz54_2, hcz54_3, hfz54_0, hfz54_1, hfz54_2, hfz54_3⟩ := by4 BK232.out; obtain ⟨hcz55_0, hcz55_1, hcz55_2, hcz55_3, hfz55_0, hfz55_1, hfz55_2, hfz55_3⟩ := by4 BK231.out) | (go_at_call 20; (with_reducible refine (impl_SegHas.calls kj2 a1_0 a1_1 a1_2 a1_3 a0_0 a0_1 false _ A34.out).mono ?_); rintro e w56 ⟨rfl, hb⟩; have n0_ := bw_ BK231.out hb; have n1_ := bw_ BK232.out hb; have n2_ := sb_ hb; clear BK231 BK232 HB; revert n0_ n1_ n2_; intro BK231 BK232 HB; (try clear hb); obtain ⟨hcz57_0, hcz57_1, hcz57_2, hcz57_3, hfz57_0, hfz57_1, hfz57_2, hfz57_3⟩ := by4 BK232.out; obtain ⟨hcz58_0, hcz58_1, hcz58_2, hcz58_3, hfz58_0, hfz58_1, hfz58_2, hfz58_3⟩ := by4 BK231.out) | (go_at_call 20; (with_reducible refine (impl_SegHas.calls kj2 a1_0 a1_1 a1_2 a1_3 a0_2 a0_3 t238 _ A46.out).mono ?_); rintro e w59 ⟨rfl, hb⟩; have n0_ := bw_ BK231.out hb; have n1_ := bw_ BK232.out hb; have n2_ := sb_ hb; clear BK231 BK232 HB; revert n0_ n1_ n2_; intro BK231 BK232 HB; (try clear hb); (try clear hi)))
        go_meet
        case rel => exact ⟨_, (t238), (by first | rfl | (simp; done) | (simp [*]; done)), H', ⟨by have := HJ2.out; first | omega | exact Nat.le_refl _⟩, ⟨by (with_reducible repeat (first | refine blk_drewN ?_ _ | refine blk_drew ?_ | refine blk_alloc ?_ _)); exact BK231.out⟩, ⟨by (with_reducible repeat (first | refine blk_drewN ?_ _ | refine blk_drew ?_ | refine blk_alloc ?_ _)); exact BK232.out⟩, ⟨hB_⟩⟩
    case rest =>
     clear HC18; try clear c1
     try clear c2
     try clear p2
     try clear c3
     try clear c4
     try clear c5
     try clear c7
     try clear c9
     try clear c14
     try clear c17
     try clear c19
     try clear c20
     try clear c21
     try clear c26
     try clear c27
     try clear c35
     try clear c36
     try clear c47
     try clear c57
     try clear hcz10_0
     try clear hcz10_1
     try clear hcz10_2
     try clear hcz10_3
     try clear hcz12_0
     try clear hcz12_1
     try clear hcz12_2
     try clear hcz12_3
     try clear hcz15_0
     try clear hcz15_1
     try clear hcz15_2
     try clear hcz15_3
     try clear hcz22_0
     try clear hcz22_1
     try clear hcz22_2
     try clear hcz22_3
     try clear hcz23_0
     try clear hcz23_1
     try clear hcz23_2
     try clear hcz23_3
     try clear hcz28_0
     try clear hcz28_1
     try clear hcz28_2
     try clear hcz28_3
     try clear hcz29_0
     try clear hcz29_1
     try clear hcz29_2
     try clear hcz29_3
     try clear hcz31_0
     try clear hcz31_1
     try clear hcz31_2
     try clear hcz31_3
     try clear hcz32_0
     try clear hcz32_1
     try clear hcz32_2
     try clear hcz32_3
     try clear hcz37_0
     try clear hcz37_1
     try clear hcz37_2
     try clear hcz37_3
     try clear hcz38_0
     try clear hcz38_1
     try clear hcz38_2
     try clear hcz38_3
     try clear hcz40_0
     try clear hcz40_1
     try clear hcz40_2
     try clear hcz40_3
     try clear hcz41_0
     try clear hcz41_1
     try clear hcz41_2
     try clear hcz41_3
     try clear hcz43_0
     try clear hcz43_1
     try clear hcz43_2
     try clear hcz43_3
     try clear hcz44_0
     try clear hcz44_1
     try clear hcz44_2
     try clear hcz44_3
     try clear hcz48_0
     try clear hcz48_1
     try clear hcz48_2
     try clear hcz48_3
     try clear hcz49_0
     try clear hcz49_1
     try clear hcz49_2
     try clear hcz49_3
     try clear hcz51_0
     try clear hcz51_1
     try clear hcz51_2
     try clear hcz51_3
     try clear hcz52_0
     try clear hcz52_1
     try clear hcz52_2
     try clear hcz52_3
     try clear hcz54_0
     try clear hcz54_1
     try clear hcz54_2
     try clear hcz54_3
     try clear hcz55_0
     try clear hcz55_1
     try clear hcz55_2
     try clear hcz55_3
     try clear hcz57_0
     try clear hcz57_1
     try clear hcz57_2
     try clear hcz57_3
     try clear hcz58_0
     try clear hcz58_1
     try clear hcz58_2
     try clear hcz58_3
     try clear hfz10_0
     try clear hfz10_1
     try clear hfz10_2
     try clear hfz10_3
     try clear hfz12_0
     try clear hfz12_1
     try clear hfz12_2
     try clear hfz12_3
     try clear hfz15_0
     try clear hfz15_1
     try clear hfz15_2
     try clear hfz15_3
     try clear hfz22_0
     try clear hfz22_1
     try clear hfz22_2
     try clear hfz22_3
     try clear hfz23_0
     try clear hfz23_1
     try clear hfz23_2
     try clear hfz23_3
     try clear hfz28_0
     try clear hfz28_1
     try clear hfz28_2
     try clear hfz28_3
     try clear hfz29_0
     try clear hfz29_1
     try clear hfz29_2
     try clear hfz29_3
     try clear hfz31_0
     try clear hfz31_1
     try clear hfz31_2
     try clear hfz31_3
     try clear hfz32_0
     try clear hfz32_1
     try clear hfz32_2
     try clear hfz32_3
     try clear hfz37_0
     try clear hfz37_1
     try clear hfz37_2
     try clear hfz37_3
     try clear hfz38_0
     try clear hfz38_1
     try clear hfz38_2
     try clear hfz38_3
     try clear hfz40_0
     try clear hfz40_1
     try clear hfz40_2
     try clear hfz40_3
     try clear hfz41_0
     try clear hfz41_1
     try clear hfz41_2
     try clear hfz41_3
     try clear hfz43_0
     try clear hfz43_1
     try clear hfz43_2
     try clear hfz43_3
     try clear hfz44_0
     try clear hfz44_1
     try clear hfz44_2
     try clear hfz44_3
     try clear hfz48_0
     try clear hfz48_1
     try clear hfz48_2
     try clear hfz48_3
     try clear hfz49_0
     try clear hfz49_1
     try clear hfz49_2
     try clear hfz49_3
     try clear hfz51_0
     try clear hfz51_1
     try clear hfz51_2
     try clear hfz51_3
     try clear hfz52_0
     try clear hfz52_1
     try clear hfz52_2
     try clear hfz52_3
     try clear hfz54_0
     try clear hfz54_1
     try clear hfz54_2
     try clear hfz54_3
     try clear hfz55_0
     try clear hfz55_1
     try clear hfz55_2
     try clear hfz55_3
     try clear hfz57_0
     try clear hfz57_1
     try clear hfz57_2
     try clear hfz57_3
     try clear hfz58_0
     try clear hfz58_1
     try clear hfz58_2
     try clear hfz58_3
     try clear p2
     obtain ⟨kq, x34_17, rfl, HA, HJ17, BK231, BK232, HB⟩ := hcut; cases kq with
     | zero => exact absurd HA.out (by simp [impl_SegMeet.j1])
     | succ kj17 =>
      have H := HA.out; clear HA; simp only [impl_SegMeet.j1] at H; by_cases c60 : x34_17 = true
      ·subst c60; have H1 : (some true) = some r := by rw [if_pos rfl] at H; exact H
       clear H; have H := H1; clear H1; obtain rfl := Option.some.inj H; go_wp2
       go_ret
       exact ⟨by first | rfl | (simp [errW_none, errW_some] <;> rfl) | (simp [*, errW_none, errW_some] <;> rfl), hB_⟩
      ·replace c60 := Bool.eq_false_iff.mpr c60; subst c60; have H1 : ((impl_SegTurn.f kj17 a0_0 a0_1 a0_2 a0_3 a1_0 a1_1).bind fun t239 => ((impl_SegTurn.f kj17 a0_0 a0_1 a0_2 a0_3 a1_2 a1_3).bind fun t240 => (if (wrap64 (t239 * t240)) < 0 then ((impl_SegTurn.f kj17 a1_0 a1_1 a1_2 a1_3 a0_0 a0_1).bind fun t241 => ((impl_SegTurn.f kj17 a1_0 a1_1 a1_2 a1_3 a0_2 a0_3).bind fun t242 => (some (decide ((wrap64 (t241 * t242)) < 0))))) else (some false)))) = some r := by rw [if_neg (show ¬ (false = true) by decide)] at H; exact H
       clear H; have H := H1; clear H1; replace H := Option.bind_eq_some_iff.mp H; obtain ⟨t239, A610, H⟩ := H; (try dsimp only at H); have A61 := A_ A610; clear A610; replace H := Option.bind_eq_some_iff.mp H; obtain ⟨t240, A620, H⟩ := H; (try dsimp only at H); have A62 := A_ A620; clear A620; by_cases c63 : (wrap64 (t239 * t240)) < 0
       ·rw [if_pos c63] at H; have c63b0 : decide ((wrap64 (t239 * t240)) < 0) = true := decide_eq_true c63; clear c63; replace H := Option.bind_eq_some_iff.mp H; obtain ⟨t241, A640, H⟩ := H; (try dsimp only at H); have A64 := A_ A640; clear A640; replace H := Option.bind_eq_some_iff.mp H; obtain ⟨t242, A650, H⟩ := H; (try dsimp only at H); have A65 := A_ A650; clear A650; obtain rfl := Option.some.inj H; try go_wp2
        have n0_ := A_ (blk_drew BK231.out); have n1_ := A_ (blk_drew BK232.out); have n2_ := A_ (below_drew1 HB.out); clear BK231 BK232 HB; revert n0_ n1_ n2_; intro BK231 BK232 HB; refine start_ (n := 35) (S := fun w' => w'.cell? ⟨gb231, 0, none⟩ = some (.int .i64 a0_0) ∧ w'.cell? ⟨gb231, 1, none⟩ = some (.int .i64 a0_1) ∧ w'.cell? ⟨gb231, 2, none⟩ = some (.int .i64 a0_2) ∧ w'.cell? ⟨gb231, 3, none⟩ = some (.int .i64 a0_3) ∧ w'.cell? ⟨gb232, 0, none⟩ = some (.int .i64 a1_0) ∧ w'.cell? ⟨gb232, 1, none⟩ = some (.int .i64 a1_1) ∧ w'.cell? ⟨gb232, 2, none⟩ = some (.int .i64 a1_2) ∧ w'.cell? ⟨gb232, 3, none⟩ = some (.int .i64 a1_3)) (ds := []) #[false, false, false, false, false, false, false, false, false, false, false, false, false, false, false, false, false, false, false, false, false, false, false, false, false, false, false, false, false, false, false, false, false, false, false] (by kernel_rfl) rfl rfl ⟨(blk_cell BK231.out 0).trans rfl, (blk_cell BK231.out 1).trans rfl, (blk_cell BK231.out 2).trans rfl, (blk_cell BK231.out 3).trans rfl, (blk_cell BK232.out 0).trans rfl, (blk_cell BK232.out 1).trans rfl, (blk_cell BK232.out 2).trans rfl, (blk_cell BK232.out 3).trans rfl⟩ (fun hHeld => ?_); refine with_tabW impl_SegMeet.tab5 impl_SegMeet.bits5 (fun HT_ HW_ => ?_)
        generalize wc.drew = w66 at BK231 BK232 HB hHeld ⊢
        refine pu_ HT_.out 0 35 {} ?_; refine pu_ HT_.out 2 37 {} ?_; refine pu_ HT_.out 4 39 {} ?_; refine pu_ HT_.out 7 42 {} ?_; refine pu_ HT_.out 9 44 {} ?_; refine pu_ HT_.out 11 46 {} ?_; refine tk_ HT_.out HW_.out 1 36 hHeld {} ?_; refine tk_ HT_.out HW_.out 3 38 hHeld {} ?_; refine tk_ HT_.out HW_.out 5 40 hHeld {} ?_; refine tk_ HT_.out HW_.out 8 43 hHeld {} ?_; refine tk_ HT_.out HW_.out 10 45 hHeld {} ?_; refine tk_ HT_.out HW_.out 12 47 hHeld {} ?_
        refine one_ (i := 6) (N := some 41) #[true, true, true, true, true, true, true, true, true, true, true, true, true, false, false, false, false, false, false, false, false, false, false, false, false, false, false, false, false, false, false, false, false, false, false] rfl rfl (one_of HT_.out (by kernel_rfl)) (by decide) (fun K hK => ?_); refine goes_ Try.func58 (by kernel_rfl) rfl #[.agg #[.int .i64 a0_0, .int .i64 a0_1], .agg #[.int .i64 a0_2, .int .i64 a0_3], .agg #[.int .i64 a1_0, .int .i64 a1_1]] (by rfl) rfl rfl ga_ ?_; with_reducible refine (impl_SegTurn.calls kj17 a0_0 a0_1 a0_2 a0_3 a1_0 a1_1 t239 _ A61.out).mono ?_
        rintro e w67 ⟨rfl, hb⟩; refine ⟨_, rfl, ?_⟩; have n0_ := bw_ BK231.out hb; have n1_ := bw_ BK232.out hb; have n2_ := sb_ hb; clear BK231 BK232 HB; revert n0_ n1_ n2_; intro BK231 BK232 HB; (try clear hb); refine hK.out _ _ ⟨(blk_cell BK231.out 0).trans rfl, (blk_cell BK231.out 1).trans rfl, (blk_cell BK231.out 2).trans rfl, (blk_cell BK231.out 3).trans rfl, (blk_cell BK232.out 0).trans rfl, (blk_cell BK232.out 1).trans rfl, (blk_cell BK232.out 2).trans rfl, (blk_cell BK232.out 3).trans rfl⟩ (fun hHeld => ?_); clear hK K; refine norm_ (a' := ?_) ?_ ?_; rotate_left; ·show Act.put _ (some 41) _ = _; simp only [Act.put, Geo.sa_, Geo.sb_, Geo.sc_, i64_w, i32_w]; rfl
        refine one_ (i := 13) (N := some 48) #[true, true, true, true, true, true, true, true, true, true, true, true, true, true, false, false, false, false, false, false, false, false, false, false, false, false, false, false, false, false, false, false, false, false, false] rfl rfl (one_of HT_.out (by kernel_rfl)) (by decide) (fun K hK => ?_); refine goes_ Try.func58 (by kernel_rfl) rfl #[.agg #[.int .i64 a0_0, .int .i64 a0_1], .agg #[.int .i64 a0_2, .int .i64 a0_3], .agg #[.int .i64 a1_2, .int .i64 a1_3]] (by rfl) rfl rfl ga_ ?_; with_reducible refine (impl_SegTurn.calls kj17 a0_0 a0_1 a0_2 a0_3 a1_2 a1_3 t240 _ A62.out).mono ?_
        rintro e w68 ⟨rfl, hb⟩; refine ⟨_, rfl, ?_⟩; have n0_ := bw_ BK231.out hb; have n1_ := bw_ BK232.out hb; have n2_ := sb_ hb; clear BK231 BK232 HB; revert n0_ n1_ n2_; intro BK231 BK232 HB; (try clear hb); refine hK.out _ _ ⟨(blk_cell BK231.out 0).trans rfl, (blk_cell BK231.out 1).trans rfl, (blk_cell BK231.out 2).trans rfl, (blk_cell BK231.out 3).trans rfl, (blk_cell BK232.out 0).trans rfl, (blk_cell BK232.out 1).trans rfl, (blk_cell BK232.out 2).trans rfl, (blk_cell BK232.out 3).trans rfl⟩ (fun hHeld => ?_); clear hK K; refine norm_ (a' := ?_) ?_ ?_; rotate_left; ·show Act.put _ (some 48) _ = _; simp only [Act.put, Geo.sa_, Geo.sb_, Geo.sc_, i64_w, i32_w]; rfl
        refine pu_ HT_.out 14 49 {} ?_; refine pu_ HT_.out 15 50 {} ?_; refine pu_ HT_.out 16 51 {} ?_; refine pu_ HT_.out 17 52 {} ?_; refine pu_ HT_.out 19 54 {} ?_; refine pu_ HT_.out 21 56 {} ?_; refine pu_ HT_.out 24 59 {} ?_; refine pu_ HT_.out 26 61 {} ?_; refine pu_ HT_.out 28 63 {} ?_; refine tk_ HT_.out HW_.out 18 53 hHeld {} ?_; refine tk_ HT_.out HW_.out 20 55 hHeld {} ?_; refine tk_ HT_.out HW_.out 22 57 hHeld {} ?_; refine tk_ HT_.out HW_.out 25 60 hHeld {} ?_; refine tk_ HT_.out HW_.out 27 62 hHeld {} ?_; refine tk_ HT_.out HW_.out 29 64 hHeld {} ?_
        refine one_ (i := 23) (N := some 58) #[true, true, true, true, true, true, true, true, true, true, true, true, true, true, true, true, true, true, true, true, true, true, true, true, true, true, true, true, true, true, false, false, false, false, false] rfl rfl (one_of HT_.out (by kernel_rfl)) (by decide) (fun K hK => ?_); refine goes_ Try.func58 (by kernel_rfl) rfl #[.agg #[.int .i64 a1_0, .int .i64 a1_1], .agg #[.int .i64 a1_2, .int .i64 a1_3], .agg #[.int .i64 a0_0, .int .i64 a0_1]] (by rfl) rfl rfl ga_ ?_; with_reducible refine (impl_SegTurn.calls kj17 a1_0 a1_1 a1_2 a1_3 a0_0 a0_1 t241 _ A64.out).mono ?_
        rintro e w69 ⟨rfl, hb⟩; refine ⟨_, rfl, ?_⟩; have n0_ := bw_ BK231.out hb; have n1_ := bw_ BK232.out hb; have n2_ := sb_ hb; clear BK231 BK232 HB; revert n0_ n1_ n2_; intro BK231 BK232 HB; (try clear hb); refine hK.out _ _ ⟨(blk_cell BK231.out 0).trans rfl, (blk_cell BK231.out 1).trans rfl, (blk_cell BK231.out 2).trans rfl, (blk_cell BK231.out 3).trans rfl, (blk_cell BK232.out 0).trans rfl, (blk_cell BK232.out 1).trans rfl, (blk_cell BK232.out 2).trans rfl, (blk_cell BK232.out 3).trans rfl⟩ (fun hHeld => ?_); clear hK K; refine norm_ (a' := ?_) ?_ ?_; rotate_left; ·show Act.put _ (some 58) _ = _; simp only [Act.put, Geo.sa_, Geo.sb_, Geo.sc_, i64_w, i32_w]; rfl
        refine one_ (i := 30) (N := some 65) #[true, true, true, true, true, true, true, true, true, true, true, true, true, true, true, true, true, true, true, true, true, true, true, true, true, true, true, true, true, true, true, false, false, false, false] rfl rfl (one_of HT_.out (by kernel_rfl)) (by decide) (fun K hK => ?_); refine goes_ Try.func58 (by kernel_rfl) rfl #[.agg #[.int .i64 a1_0, .int .i64 a1_1], .agg #[.int .i64 a1_2, .int .i64 a1_3], .agg #[.int .i64 a0_2, .int .i64 a0_3]] (by rfl) rfl rfl ga_ ?_; with_reducible refine (impl_SegTurn.calls kj17 a1_0 a1_1 a1_2 a1_3 a0_2 a0_3 t242 _ A65.out).mono ?_
        rintro e w70 ⟨rfl, hb⟩; refine ⟨_, rfl, ?_⟩; have n0_ := bw_ BK231.out hb; have n1_ := bw_ BK232.out hb; have n2_ := sb_ hb; clear BK231 BK232 HB; revert n0_ n1_ n2_; intro BK231 BK232 HB; (try clear hb); refine hK.out _ _ ⟨(blk_cell BK231.out 0).trans rfl, (blk_cell BK231.out 1).trans rfl, (blk_cell BK231.out 2).trans rfl, (blk_cell BK231.out 3).trans rfl, (blk_cell BK232.out 0).trans rfl, (blk_cell BK232.out 1).trans rfl, (blk_cell BK232.out 2).trans rfl, (blk_cell BK232.out 3).trans rfl⟩ (fun hHeld => ?_); clear hK K; refine norm_ (a' := ?_) ?_ ?_; rotate_left; ·show Act.put _ (some 65) _ = _; simp only [Act.put, Geo.sa_, Geo.sb_, Geo.sc_, i64_w, i32_w]; rfl
        refine pu_ HT_.out 31 66 {} ?_; refine pu_ HT_.out 32 67 {} ?_; refine pu_ HT_.out 33 68 {} ?_; refine pu_ HT_.out 34 4 {} ?_
        refine done_ (done_of HT_.out (by kernel_rfl)) ?_; try go_wp2
        go_ret
        exact ⟨by first | rfl | (simp [errW_none, errW_some] <;> rfl) | (simp [*, errW_none, errW_some] <;> rfl), hB_⟩
       ·rw [if_neg c63] at H; have c63b0 : decide ((wrap64 (t239 * t240)) < 0) = false := decide_eq_false c63; clear c63; obtain rfl := Option.some.inj H; try go_wp2
        have n0_ := A_ (blk_drew BK231.out); have n1_ := A_ (blk_drew BK232.out); have n2_ := A_ (below_drew1 HB.out); clear BK231 BK232 HB; revert n0_ n1_ n2_; intro BK231 BK232 HB; refine start_ (n := 35) (S := fun w' => w'.cell? ⟨gb231, 0, none⟩ = some (.int .i64 a0_0) ∧ w'.cell? ⟨gb231, 1, none⟩ = some (.int .i64 a0_1) ∧ w'.cell? ⟨gb231, 2, none⟩ = some (.int .i64 a0_2) ∧ w'.cell? ⟨gb231, 3, none⟩ = some (.int .i64 a0_3) ∧ w'.cell? ⟨gb232, 0, none⟩ = some (.int .i64 a1_0) ∧ w'.cell? ⟨gb232, 1, none⟩ = some (.int .i64 a1_1) ∧ w'.cell? ⟨gb232, 2, none⟩ = some (.int .i64 a1_2) ∧ w'.cell? ⟨gb232, 3, none⟩ = some (.int .i64 a1_3)) (ds := []) #[false, false, false, false, false, false, false, false, false, false, false, false, false, false, false, false, false, false, false, false, false, false, false, false, false, false, false, false, false, false, false, false, false, false, false] (by kernel_rfl) rfl rfl ⟨(blk_cell BK231.out 0).trans rfl, (blk_cell BK231.out 1).trans rfl, (blk_cell BK231.out 2).trans rfl, (blk_cell BK231.out 3).trans rfl, (blk_cell BK232.out 0).trans rfl, (blk_cell BK232.out 1).trans rfl, (blk_cell BK232.out 2).trans rfl, (blk_cell BK232.out 3).trans rfl⟩ (fun hHeld => ?_); refine with_tabW impl_SegMeet.tab5 impl_SegMeet.bits5 (fun HT_ HW_ => ?_)
        generalize wc.drew = w71 at BK231 BK232 HB hHeld ⊢
        refine pu_ HT_.out 0 35 {} ?_; refine pu_ HT_.out 2 37 {} ?_; refine pu_ HT_.out 4 39 {} ?_; refine pu_ HT_.out 7 42 {} ?_; refine pu_ HT_.out 9 44 {} ?_; refine pu_ HT_.out 11 46 {} ?_; refine tk_ HT_.out HW_.out 1 36 hHeld {} ?_; refine tk_ HT_.out HW_.out 3 38 hHeld {} ?_; refine tk_ HT_.out HW_.out 5 40 hHeld {} ?_; refine tk_ HT_.out HW_.out 8 43 hHeld {} ?_; refine tk_ HT_.out HW_.out 10 45 hHeld {} ?_; refine tk_ HT_.out HW_.out 12 47 hHeld {} ?_
        refine one_ (i := 6) (N := some 41) #[true, true, true, true, true, true, true, true, true, true, true, true, true, false, false, false, false, false, false, false, false, false, false, false, false, false, false, false, false, false, false, false, false, false, false] rfl rfl (one_of HT_.out (by kernel_rfl)) (by decide) (fun K hK => ?_); refine goes_ Try.func58 (by kernel_rfl) rfl #[.agg #[.int .i64 a0_0, .int .i64 a0_1], .agg #[.int .i64 a0_2, .int .i64 a0_3], .agg #[.int .i64 a1_0, .int .i64 a1_1]] (by rfl) rfl rfl ga_ ?_; with_reducible refine (impl_SegTurn.calls kj17 a0_0 a0_1 a0_2 a0_3 a1_0 a1_1 t239 _ A61.out).mono ?_
        rintro e w72 ⟨rfl, hb⟩; refine ⟨_, rfl, ?_⟩; have n0_ := bw_ BK231.out hb; have n1_ := bw_ BK232.out hb; have n2_ := sb_ hb; clear BK231 BK232 HB; revert n0_ n1_ n2_; intro BK231 BK232 HB; (try clear hb); refine hK.out _ _ ⟨(blk_cell BK231.out 0).trans rfl, (blk_cell BK231.out 1).trans rfl, (blk_cell BK231.out 2).trans rfl, (blk_cell BK231.out 3).trans rfl, (blk_cell BK232.out 0).trans rfl, (blk_cell BK232.out 1).trans rfl, (blk_cell BK232.out 2).trans rfl, (blk_cell BK232.out 3).trans rfl⟩ (fun hHeld => ?_); clear hK K; refine norm_ (a' := ?_) ?_ ?_; rotate_left; ·show Act.put _ (some 41) _ = _; simp only [Act.put, Geo.sa_, Geo.sb_, Geo.sc_, i64_w, i32_w]; rfl
        refine one_ (i := 13) (N := some 48) #[true, true, true, true, true, true, true, true, true, true, true, true, true, true, false, false, false, false, false, false, false, false, false, false, false, false, false, false, false, false, false, false, false, false, false] rfl rfl (one_of HT_.out (by kernel_rfl)) (by decide) (fun K hK => ?_); refine goes_ Try.func58 (by kernel_rfl) rfl #[.agg #[.int .i64 a0_0, .int .i64 a0_1], .agg #[.int .i64 a0_2, .int .i64 a0_3], .agg #[.int .i64 a1_2, .int .i64 a1_3]] (by rfl) rfl rfl ga_ ?_; with_reducible refine (impl_SegTurn.calls kj17 a0_0 a0_1 a0_2 a0_3 a1_2 a1_3 t240 _ A62.out).mono ?_
        rintro e w73 ⟨rfl, hb⟩; refine ⟨_, rfl, ?_⟩; have n0_ := bw_ BK231.out hb; have n1_ := bw_ BK232.out hb; have n2_ := sb_ hb; clear BK231 BK232 HB; revert n0_ n1_ n2_; intro BK231 BK232 HB; (try clear hb); refine hK.out _ _ ⟨(blk_cell BK231.out 0).trans rfl, (blk_cell BK231.out 1).trans rfl, (blk_cell BK231.out 2).trans rfl, (blk_cell BK231.out 3).trans rfl, (blk_cell BK232.out 0).trans rfl, (blk_cell BK232.out 1).trans rfl, (blk_cell BK232.out 2).trans rfl, (blk_cell BK232.out 3).trans rfl⟩ (fun hHeld => ?_); clear hK K; refine norm_ (a' := ?_) ?_ ?_; rotate_left; ·show Act.put _ (some 48) _ = _; simp only [Act.put, Geo.sa_, Geo.sb_, Geo.sc_, i64_w, i32_w]; rfl
        refine pu_ HT_.out 14 49 {} ?_; refine pu_ HT_.out 15 50 {} ?_; refine pu_ HT_.out 16 51 {} ?_; refine pv_ HT_.out 17 52 {} ?_; refine pv_ HT_.out 18 53 {} ?_; refine pv_ HT_.out 19 54 {} ?_; refine pv_ HT_.out 20 55 {} ?_; refine pv_ HT_.out 21 56 {} ?_; refine pv_ HT_.out 22 57 {} ?_; refine pv_ HT_.out 23 58 {} ?_; refine pv_ HT_.out 24 59 {} ?_; refine pv_ HT_.out 25 60 {} ?_; refine pv_ HT_.out 26 61 {} ?_; refine pv_ HT_.out 27 62 {} ?_; refine pv_ HT_.out 28 63 {} ?_; refine pv_ HT_.out 29 64 {} ?_; refine pv_ HT_.out 30 65 {} ?_; refine pv_ HT_.out 31 66 {} ?_; refine pv_ HT_.out 32 67 {} ?_; refine pu_ HT_.out 33 68 {} ?_; refine pu_ HT_.out 34 4 {} ?_
        refine done_ (done_of HT_.out (by kernel_rfl)) ?_; try go_wp2
        go_ret
        exact ⟨by first | rfl | (simp [errW_none, errW_some] <;> rfl) | (simp [*, errW_none, errW_some] <;> rfl), hB_⟩

end Go.Proofs.Ytehkklmacglelaa.PA
namespace Go.Proofs.Ytehkklmacglelaa.PA
open Go.RowKit Go.Proofs.YtehkklmacglelaaW.PrintWords Go.Proofs.YtehkklmacglelaaW.PrintLast Go.Proofs.YtehkklmacglelaaW.PrintMore
attribute [local go_sem] max2_int min2_int max_two min_two max_three min_three max_four min_four   -- for this text's walks alone
set_option linter.unusedVariables false
set_option linter.unusedSimpArgs false

/-! ### impl_edgesOf: function 56 -/
/-! The iterator over a loop's edges. -/
namespace Edges
open Go.Shelf
attribute [local go_sem] Oper.semAt_some
/-- Edge i of points: from point i to the next one, from the last to the first one. -/
def at_ (l : List S25) (i : Nat) : Nat × S25 × S25 := (i, rd_T25 l (i : Int), rd_T25 l (((i + 1) % l.length : Nat) : Int))
def upto (l : List S25) (k : Nat) : List (Nat × S25 × S25) := (List.range k).map (at_ l)
theorem upto_succ (l : List S25) (k : Nat) : upto l (k + 1) = upto l k ++ [at_ l k] := by simp [upto, List.range_succ]
theorem upto_length (l : List S25) (k : Nat) : (upto l k).length = k := by simp [upto]
def seg (p q : S25) : Array Value := #[.int .i64 p.f0, .int .i64 p.f1, .int .i64 q.f0, .int .i64 q.f1]
def enc (x : Nat × S25 × S25) : Array Value := #[.int .i64 (x.1 : Int), .agg (seg x.2.1 x.2.2)]
/-- What a round keeps: what lay below n₀; the box Bn. -/
def Kp (n₀ Bn : Nat) (W W' : World) : Prop := Below n₀ W W' ∧ ∀ o, W.heap[Bn]? = some o → W'.heap[Bn]? = some o
theorem grown_drew (W : World) : W.grownBy W.drew none := ⟨rfl, rfl, rfl, Nat.le_refl _, fun _ _ _ => rfl⟩

theorem toBool {e : Ending} {p q : Prop} (h : (e = .returned (.bool true) ∧ p) ∨ (e = .returned (.bool false) ∧ q)) : ∃ b : Bool, e = .returned (.bool b) ∧ ((b = true ∧ p) ∨ (b = false ∧ q)) := by
  rcases h with ⟨h, k⟩ | ⟨h, k⟩
  · exact ⟨true, h, .inl ⟨rfl, k⟩⟩
  · exact ⟨false, h, .inr ⟨rfl, k⟩⟩

set_option maxRecDepth 100000 in
set_option maxHeartbeats 2000000 in
theorem all1_in (n : Nat) (hn : 1 ≤ n) (l Bn n₀ : Nat) (w0 : World) (A : Option Addr) (c : Nat) (xs : List S25) (hC : Kd.C k25 w0 A xs.length xs) (hw0 : w0.heap.size ≤ n₀) (J Jx : List (Nat × S25 × S25) → World → Prop)
    (W : World) (hJ : AbidesFrom W.heap.size J)
    (hY : ∀ pre x W, J pre W → pre.length < xs.length → YieldAt Fence.wide (n - 1) Try.prog l (enc x) W fun e W' =>
      (e = .returned (.bool true) ∧ J (pre ++ [x]) W' ∧ Kp n₀ Bn W W') ∨ (e = .returned (.bool false) ∧ Jx (pre ++ [x]) W'))
    (hB0 : Below w0.heap.size w0 W) (hBn : W.heap[Bn]? = some (.cells #[.slice A xs.length c] 23 (0, 0))) (h0 : J [] W) :
    CallsIn Fence.wide n Try.prog 84 #[.func (.yield l) #[] #[], .pointer (some ⟨Bn, 0, none⟩)] W fun e W' => (∃ v, e = .returned v) ∧
      ((∃ ys, ys = upto xs xs.length ∧ J ys W') ∨ (∃ pre, (∃ k, k ≤ xs.length ∧ pre = upto xs k) ∧ Jx pre W')) := by
  have hu1 := Try.underlying25
  have hu2 := Try.underlying35
  have hlen : xs.length ≤ 9223372036854775807 := hC.2.1
  have k0 : W.cell? ⟨Bn, 0, none⟩ = some (.slice A xs.length c) := blk_cell hBn 0
  refine callsIn_of_wp Try.func84 rfl trivial ?_ rfl
  simp only [Try.ntmps84, List.size_toArray, List.length_cons, List.length_nil, Nat.reduceAdd, Nat.reduceSub, Array.replicate_succ, Array.replicate_zero, List.push_toArray, List.append_toArray, List.nil_append, List.cons_append]
  gi_wp2
  gi_loopw [7] (fun i wr => ∃ k : Nat, k ≤ xs.length ∧ i = .int .i64 k ∧ J (upto xs k) wr ∧ Below w0.heap.size w0 wr ∧ wr.heap[Bn]? = some (.cells #[.slice A xs.length c] 23 (0, 0)))
    (fun i _ => xs.length - (intOf i).toNat)
  case atStart => exact ⟨0, Nat.zero_le _, rfl, h0, hB0, hBn⟩
  case round =>
    clear k0
    obtain ⟨k, hk, rfl, hJs, hBr, hbx⟩ := hrel
    have k0 : wr.cell? ⟨Bn, 0, none⟩ = some (.slice A xs.length c) := blk_cell hbx 0
    by_cases hlt : k < xs.length
    · have hCr := Kd.C_below hC hBr
      obtain ⟨ad, rfl, p0, p1⟩ := at_T25 hCr (k : Int) (by omega) (by omega)
      rw [Int.toNat_natCast] at p0 p1
      gi_wp2
      clear k0 p0 p1
      obtain ⟨j, hj⟩ : ∃ j, (k + 1) % xs.length = j := ⟨_, rfl⟩
      have hjl : j < xs.length := by rw [← hj]; exact Nat.mod_lt _ (by omega)
      obtain ⟨ad', hA', q0, q1⟩ := at_T25 hCr (j : Int) (by omega) (by omega)
      obtain rfl := Option.some.inj hA'
      rw [Int.toNat_natCast] at q0 q1
      have r0 : ∀ o, (wr.alloc o).cell? (ad.add (j * 2)) = some (.int .i64 (rd_T25 xs j).f0) := fun o => pw_cell_below (below_alloc (Below.refl _ _) o) q0
      have r1 : ∀ o, (wr.alloc o).cell? ⟨(ad.add (j * 2)).block, (ad.add (j * 2)).off + 1, none⟩ = some (.int .i64 (rd_T25 xs j).f1) := fun o => pw_cell_below (below_alloc (Below.refl _ _) o) q1
      have k1 : ∀ o, (wr.alloc o).cell? ⟨Bn, 0, none⟩ = some (.slice (some ad) xs.length c) := fun o => blk_cell (blk_alloc hbx o) 0
      have e1 : IntKind.i64.wrap ((k : Int) + 1) = (k : Int) + 1 := IntWalk.i64_in _ (by omega)
      have e2 : Int.tmod ((k : Int) + 1) (xs.length : Int) = (j : Int) := by rw [← hj]; exact (Int.ofNat_tmod (k + 1) xs.length).symm
      have z1 : ((xs.length : Int) == 0) = false := by simp; intro h; rw [h] at hlt; simp at hlt
      have z2 : (xs.length == 0) = false := by simp; intro h; rw [h] at hlt; simp at hlt
      have z3 : ¬ (xs = []) := by intro h; rw [h] at hlt; simp at hlt
      have hy0 : J (upto xs k) (wr.alloc (.cells #[.int .i64 (rd_T25 xs k).f0, .int .i64 (rd_T25 xs k).f1] 25)).drew :=
        hJ _ _ _ none (hJ _ _ _ none hJs (World.grownBy_alloc _ _ _) (fun r e => by cases e)) (grown_drew _) (fun r e => by cases e)
      obtain ⟨fn, tmps, assign, body, hy, hR⟩ := hY (upto xs k) (at_ xs k) _ hy0 (by rw [upto_length]; exact hlt)
      simp only [enc, at_, seg, hj] at hy
      have hR' := hR.mono (fun e W' h => (toBool h : ∃ b : Bool, e = .returned (.bool b) ∧ ((b = true ∧ J (upto xs k ++ [at_ xs k]) W' ∧ Kp n₀ Bn _ W') ∨ (b = false ∧ Jx (upto xs k ++ [at_ xs k]) W'))))
      clear hR
      gi_region_with (refine hR'.mono ?_; rintro e W3 ⟨b, rfl, h3⟩)
      all_goals
        clear hR' hy hy0 z1 z2 z3 e2 r0 r1 k1 q0 q1 hY hA'
        rcases h3 with ⟨rfl, hJ3, hk3, hk3'⟩ | ⟨rfl, hJx3⟩
        · gi_wp2
          go_roundw
          case rel => exact ⟨k + 1, by omega, by simp [e1], by rw [upto_succ]; exact hJ3, hBr.trans (((Below.refl _ wr).alloc hBr.size _).drew.trans (hk3.mono hw0)), hk3' _ (blk_alloc hbx _)⟩
          case measure => simp [intOf, e1]; omega
        · gi_wp2
          refine bodyPost_ret (results_none rfl _ _ _) rfl ?_
          exact ⟨⟨_, rfl⟩, .inr ⟨upto xs k ++ [at_ xs k], ⟨k + 1, by omega, (upto_succ _ _).symm⟩, hJx3⟩⟩
    · obtain rfl : k = xs.length := by omega
      gi_wp2
      go_end0
      exact ⟨⟨_, rfl⟩, .inl ⟨_, rfl, hJs⟩⟩
set_option maxHeartbeats 1000000 in
theorem all_in (n : Nat) (A : Option Addr) (m c : Nat) (w : World) :
    CallsIn Fence.wide n Try.prog 56 #[.slice A m c] w fun e w' => e = .returned (.func (.func 84) #[] #[.pointer (some ⟨w.heap.size, 0, none⟩)]) ∧ w' = w.alloc (.cells #[.slice A m c] 23) := by
  refine callsIn_of_wp Try.func56 rfl trivial ?_ rfl
  simp only [Try.ntmps56, List.size_toArray, List.length_cons, List.length_nil, Nat.reduceAdd, Nat.reduceSub, Array.replicate_succ, Array.replicate_zero, List.push_toArray, List.append_toArray, List.nil_append, List.cons_append]
  gi_wp2
  go_ret
  exact ⟨rfl, rfl⟩
theorem all_stops (n : Nat) (hn : 1 ≤ n) (Bn n₀ : Nat) (w0 : World) (A : Option Addr) (c : Nat) (xs : List S25) (hC : Kd.C k25 w0 A xs.length xs) (hw0 : w0.heap.size ≤ n₀) (w : World)
    (hB0 : Below w0.heap.size w0 w) (hBn : w.heap[Bn]? = some (.cells #[.slice A xs.length c] 23 (0, 0))) :
    SeqStopsK Fence.wide n Try.prog 84 #[.pointer (some ⟨Bn, 0, none⟩)] enc (Kp n₀ Bn) (fun ys => ys = upto xs xs.length) (fun pre => ∃ k, k ≤ xs.length ∧ pre = upto xs k) xs.length w := fun l J Jx W hW hJ _ hY h0 =>
  all1_in n hn l Bn n₀ w0 A c xs hC hw0 J Jx W hJ hY (hB0.trans (hW.mono hB0.size)) ((hW.block Bn (Array.getElem?_eq_some_iff.1 hBn).1).trans hBn) h0
theorem Kp_t {n₀ Bn : Nat} {A B C : World} (h : Kp n₀ Bn A B) (k : Kp n₀ Bn B C) : Kp n₀ Bn A C := ⟨h.1.trans k.1, fun o e => k.2 o (h.2 o e)⟩
theorem Kp_b {n₀ Bn : Nat} {w : World} (hn : n₀ ≤ w.heap.size) (hB : Bn < w.heap.size) (W : World) (l : Nat) (o o' : Obj) (hl : w.heap.size ≤ l) (h : W.heap[l]? = some o) (h1 : o.isCells = false) (h2 : o.isWalk = false) : Kp n₀ Bn W (W.putObj l o') :=
  ⟨belowK_b hn W l o o' hl h h1 h2, fun q e => (World.putObj_heap_other (by omega)).trans e⟩
/-- What a block of cells holds abides the turn of what is no cells. -/
theorem blk_own {β : Type} (B : Nat) (t : TypeId) (f : β → Array Value) : Own (fun s W => W.heap[B]? = some (.cells (f s) t (0, 0))) := fun s X Y row hs hg hrow =>
  (hg.block B (Array.getElem?_eq_some_iff.1 hs).1 (fun e' => by obtain ⟨o, ho, hc⟩ := hrow B e'.symm; rw [hs] at ho; cases ho; cases hc)).trans hs
end Edges

end Go.Proofs.Ytehkklmacglelaa.PA
namespace Go.Proofs.Ytehkklmacglelaa.PA
open Go.RowKit Go.Proofs.YtehkklmacglelaaW.PrintWords Go.Proofs.YtehkklmacglelaaW.PrintLast Go.Proofs.YtehkklmacglelaaW.PrintMore
attribute [local go_sem] max2_int min2_int max_two min_two max_three min_three max_four min_four   -- for this text's walks alone
set_option linter.unusedVariables false
set_option linter.unusedSimpArgs false

/-! ### impl_joined: function 80 -/
def impl_joined.f (k : Nat) (a0_0 : Int) (a0_1 : Int) (a0_2 : Int) (a0_3 : Int) (a1_0 : Int) (a1_1 : Int) (a1_2 : Int) (a1_3 : Int) : Option (Bool) := (impl_SegHas.f k a0_0 a0_1 a0_2 a0_3 a1_2 a1_3).bind fun t245 => (if t245 = true then (some false) else ((impl_SegHas.f k a1_0 a1_1 a1_2 a1_3 a0_0 a0_1).bind fun t246 => (some (!t246))))
theorem impl_joined.mono : ∀ a0 a1 a2 a3 a4 a5 a6 a7 k, LeO (impl_joined.f k a0 a1 a2 a3 a4 a5 a6 a7) (impl_joined.f (k + 1) a0 a1 a2 a3 a4 a5 a6 a7) := by
 intro a0 a1 a2 a3 a4 a5 a6 a7 k; unfold impl_joined.f; repeat' first
   | (with_reducible exact impl_SegHas.mono _ _ _ _ _ _ _)
   | (with_reducible exact LeO.refl _)
   | (with_reducible exact LeO.none _)
   | (with_reducible refine LeO.ite ?_ ?_)
   | (with_reducible refine LeO.bind ?_ (fun _ => ?_))
   | exact impl_SegHas.mono _ _ _ _ _ _ _
   | exact LeO.none _
   | refine LeO.ite ?_ ?_
   | refine LeO.bind ?_ (fun _ => ?_)
set_option maxHeartbeats 8000000 in
set_option maxRecDepth 100000 in
theorem impl_joined.calls (k : Nat) (a0_0 : Int) (a0_1 : Int) (a0_2 : Int) (a0_3 : Int) (a1_0 : Int) (a1_1 : Int) (a1_2 : Int) (a1_3 : Int) (r : Bool) (w : World) (h : impl_joined.f k a0_0 a0_1 a0_2 a0_3 a1_0 a1_1 a1_2 a1_3 = some r) :
  Calls Try.prog 80 #[.agg #[.int .i64 a0_0, .int .i64 a0_1, .int .i64 a0_2, .int .i64 a0_3], .agg #[.int .i64 a1_0, .int .i64 a1_1, .int .i64 a1_2, .int .i64 a1_3]] w fun e w' => e = .returned (.bool r) ∧ Below w.heap.size w w' := by
 have hu35 := Try.underlying35; have hu25 := Try.underlying25; have HB := A_ (Below.refl w.heap.size w); have H : ((impl_SegHas.f k a0_0 a0_1 a0_2 a0_3 a1_2 a1_3).bind fun t245 => (if t245 = true then (some false) else ((impl_SegHas.f k a1_0 a1_1 a1_2 a1_3 a0_0 a0_1).bind fun t246 => (some (!t246))))) = some r := h; clear h; replace H := Option.bind_eq_some_iff.mp H; obtain ⟨t245, A30, H⟩ := H; (try dsimp only at H); have A3 := A_ A30; clear A30; by_cases c4 : t245 = true
 ·subst c4; have H1 : (some false) = some r := by rw [if_pos rfl] at H; exact H
  clear H; have H := H1; clear H1; obtain rfl := Option.some.inj H; go_enter Try.func80, Try.ntmps80
  go_wp2_with (first | ((with_reducible refine gate_dst (N := 2) rfl ?_); refine box_event ?hg (N := 2) ?hd (cs := #[.int .i64 a0_0, .int .i64 a0_1, .int .i64 a0_2, .int .i64 a0_3]) (t := 35) ?hr ?_; (case hd => rfl); (case hg => rfl); (case hr => first | (go_simp; done) | (go_simp; rfl)); intro gb243 hg w5 hbox hb; have n0_ := sb_ hb; have n1_ := A_ (hbox); have n2_ := lB_ hg; have n3_ := lB_ hg; clear HB; have HB := n0_; have BK243 := n1_; have GW243 := n2_; have GE243 := n3_; clear n0_ n1_ n2_ n3_; clear hb hbox hg) | ((with_reducible refine gate_dst (N := 3) rfl ?_); refine box_event ?hg (N := 3) ?hd (cs := #[.int .i64 a1_0, .int .i64 a1_1, .int .i64 a1_2, .int .i64 a1_3]) (t := 35) ?hr ?_; (case hd => rfl); (case hg => rfl); (case hr => first | (go_simp; done) | (go_simp; rfl)); intro gb244 hg w6 hbox hb; have n0_ := bw_ BK243.out hb; have n1_ := sb_ hb; have n2_ := A_ (hbox); have n3_ := lB_ hg; have n4_ := lB_ hg; have n5_ := nl_ BK243.out hg; have n6_ := ng_ BK243.out hg; clear BK243; clear HB; have BK243 := n0_; have HB := n1_; have BK244 := n2_; have GW244 := n3_; have GE244 := n4_; have NB243_244 := n5_; have NB244_243 := n6_; clear n0_ n1_ n2_ n3_ n4_ n5_ n6_; clear hb hbox hg; have hnb7 := NB243_244.out; have hnc7 := NB244_243.out; obtain ⟨hcz8_0, hcz8_1, hcz8_2, hcz8_3, hfz8_0, hfz8_1, hfz8_2, hfz8_3⟩ := by4 BK243.out; obtain ⟨hcz9_0, hcz9_1, hcz9_2, hcz9_3, hfz9_0, hfz9_1, hfz9_2, hfz9_3⟩ := by4 BK244.out) | ((with_reducible refine gate_callee (f := 20) rfl ?_); refine goesL_ (some 8) rfl rfl Try.func20 (by kernel_rfl) rfl #[.agg #[.int .i64 a0_0, .int .i64 a0_1, .int .i64 a0_2, .int .i64 a0_3], .agg #[.int .i64 a1_2, .int .i64 a1_3]] rfl ga_ ?_; (with_reducible refine (impl_SegHas.calls k a0_0 a0_1 a0_2 a0_3 a1_2 a1_3 true _ A3.out).mono ?_); rintro e w10 ⟨rfl, hb⟩; refine ⟨_, rfl, ?_⟩; have n0_ := bw_ BK243.out hb; have n1_ := bw_ BK244.out hb; have n2_ := sb_ hb; clear BK243 BK244 HB; revert n0_ n1_ n2_; intro BK243 BK244 HB; (try clear hb); (try clear hi)))
  go_ret
  exact ⟨by first | rfl | (simp [errW_none, errW_some] <;> rfl) | (simp [*, errW_none, errW_some] <;> rfl), hB_⟩
 ·replace c4 := Bool.eq_false_iff.mpr c4; subst c4; have H1 : ((impl_SegHas.f k a1_0 a1_1 a1_2 a1_3 a0_0 a0_1).bind fun t246 => (some (!t246))) = some r := by rw [if_neg (show ¬ (false = true) by decide)] at H; exact H
  clear H; have H := H1; clear H1; replace H := Option.bind_eq_some_iff.mp H; obtain ⟨t246, A110, H⟩ := H; (try dsimp only at H); have A11 := A_ A110; clear A110; obtain rfl := Option.some.inj H; go_enter Try.func80, Try.ntmps80
  go_wp2_with (first | ((with_reducible refine gate_dst (N := 2) rfl ?_); refine box_event ?hg (N := 2) ?hd (cs := #[.int .i64 a0_0, .int .i64 a0_1, .int .i64 a0_2, .int .i64 a0_3]) (t := 35) ?hr ?_; (case hd => rfl); (case hg => rfl); (case hr => first | (go_simp; done) | (go_simp; rfl)); intro gb243 hg w12 hbox hb; have n0_ := sb_ hb; have n1_ := A_ (hbox); have n2_ := lB_ hg; have n3_ := lB_ hg; clear HB; have HB := n0_; have BK243 := n1_; have GW243 := n2_; have GE243 := n3_; clear n0_ n1_ n2_ n3_; clear hb hbox hg) | ((with_reducible refine gate_dst (N := 3) rfl ?_); refine box_event ?hg (N := 3) ?hd (cs := #[.int .i64 a1_0, .int .i64 a1_1, .int .i64 a1_2, .int .i64 a1_3]) (t := 35) ?hr ?_; (case hd => rfl); (case hg => rfl); (case hr => first | (go_simp; done) | (go_simp; rfl)); intro gb244 hg w13 hbox hb; have n0_ := bw_ BK243.out hb; have n1_ := sb_ hb; have n2_ := A_ (hbox); have n3_ := lB_ hg; have n4_ := lB_ hg; have n5_ := nl_ BK243.out hg; have n6_ := ng_ BK243.out hg; clear BK243; clear HB; have BK243 := n0_; have HB := n1_; have BK244 := n2_; have GW244 := n3_; have GE244 := n4_; have NB243_244 := n5_; have NB244_243 := n6_; clear n0_ n1_ n2_ n3_ n4_ n5_ n6_; clear hb hbox hg; have hnb14 := NB243_244.out; have hnc14 := NB244_243.out; obtain ⟨hcz15_0, hcz15_1, hcz15_2, hcz15_3, hfz15_0, hfz15_1, hfz15_2, hfz15_3⟩ := by4 BK243.out; obtain ⟨hcz16_0, hcz16_1, hcz16_2, hcz16_3, hfz16_0, hfz16_1, hfz16_2, hfz16_3⟩ := by4 BK244.out) | ((with_reducible refine gate_callee (f := 20) rfl ?_); refine goesL_ (some 8) rfl rfl Try.func20 (by kernel_rfl) rfl #[.agg #[.int .i64 a0_0, .int .i64 a0_1, .int .i64 a0_2, .int .i64 a0_3], .agg #[.int .i64 a1_2, .int .i64 a1_3]] rfl ga_ ?_; (with_reducible refine (impl_SegHas.calls k a0_0 a0_1 a0_2 a0_3 a1_2 a1_3 false _ A3.out).mono ?_); rintro e w17 ⟨rfl, hb⟩; refine ⟨_, rfl, ?_⟩; have n0_ := bw_ BK243.out hb; have n1_ := bw_ BK244.out hb; have n2_ := sb_ hb; clear BK243 BK244 HB; revert n0_ n1_ n2_; intro BK243 BK244 HB; (try clear hb); obtain ⟨hcz18_0, hcz18_1, hcz18_2, hcz18_3, hfz18_0, hfz18_1, hfz18_2, hfz18_3⟩ := by4 BK244.out; obtain ⟨hcz19_0, hcz19_1, hcz19_2, hcz19_3, hfz19_0, hfz19_1, hfz19_2, hfz19_3⟩ := by4 BK243.out) | (go_at_call 20; (with_reducible refine (impl_SegHas.calls k a1_0 a1_1 a1_2 a1_3 a0_0 a0_1 t246 _ A11.out).mono ?_); rintro e w20 ⟨rfl, hb⟩; have n0_ := bw_ BK243.out hb; have n1_ := bw_ BK244.out hb; have n2_ := sb_ hb; clear BK243 BK244 HB; revert n0_ n1_ n2_; intro BK243 BK244 HB; (try clear hb); (try clear hi)))
  go_ret
  exact ⟨by first | rfl | (simp [errW_none, errW_some] <;> rfl) | (simp [*, errW_none, errW_some] <;> rfl), hB_⟩

end Go.Proofs.Ytehkklmacglelaa.PA
namespace Go.Proofs.Ytehkklmacglelaa.PA
open Go.RowKit Go.Proofs.YtehkklmacglelaaW.PrintWords Go.Proofs.YtehkklmacglelaaW.PrintLast Go.Proofs.YtehkklmacglelaaW.PrintMore
attribute [local go_sem] max2_int min2_int max_two min_two max_three min_three max_four min_four   -- for this text's walks alone
set_option linter.unusedVariables false
set_option linter.unusedSimpArgs false

/-! ### impl_insideOf: function 49 -/
namespace InsB
theorem iPtOk_tells (x y : Int) : impl_PtOk.f x y = some (Geo.ok (x, y)) := by
  unfold impl_PtOk.f
  by_cases h1 : 0 ≤ x <;> by_cases h2 : x ≤ 9 <;> by_cases h3 : 0 ≤ y <;> simp [Geo.ok, h1, h2, h3]
theorem iSegOk_tells (a b c d : Int) : impl_SegOk.f a b c d = some (Geo.segOk (a, b) (c, d)) := by
  unfold impl_SegOk.f
  simp only [iPtOk_tells, Option.bind_some, Geo.pne]
  unfold Geo.segOk
  cases h1 : Geo.ok (a, b) <;> cases h2 : Geo.ok (c, d) <;> rfl
theorem iCross_tells {a b c d e f : Int} (h1 : Geo.ok (a, b) = true) (h2 : Geo.ok (c, d) = true) (h3 : Geo.ok (e, f) = true) : impl_cross.f a b c d e f = some (Geo.cross (a, b) (c, d) (e, f)) := by
  have hb := Geo.cross_bd h1 h2 h3
  rw [Geo.ok_iff] at h1 h2 h3
  have m1 := Geo.mul_bd (m := c - a) (n := f - b) (by omega) (by omega) (by omega) (by omega)
  have m2 := Geo.mul_bd (m := d - b) (n := e - a) (by omega) (by omega) (by omega) (by omega)
  unfold impl_cross.f
  unfold Geo.cross at hb ⊢
  simp only at h1 h2 h3 hb ⊢
  rw [Geo.w64 (n := c - a) (by omega) (by omega), Geo.w64 (n := f - b) (by omega) (by omega), Geo.w64 (n := d - b) (by omega) (by omega), Geo.w64 (n := e - a) (by omega) (by omega),
    Geo.w64 (n := (c - a) * (f - b)) (by omega) (by omega), Geo.w64 (n := (d - b) * (e - a)) (by omega) (by omega), Geo.w64 (by omega) (by omega)]
theorem iSegTurn_tells (k : Nat) (a b c d e f : Int) : impl_SegTurn.f (k + 1) a b c d e f = some (Geo.turn (a, b) (c, d) (e, f)) := by
  unfold impl_SegTurn.f
  simp only [iPtOk_tells, Option.bind_some, impl_SegTurn.j0]
  unfold Geo.turn
  cases h1 : Geo.ok (a, b) <;> cases h2 : Geo.ok (c, d) <;> cases h3 : Geo.ok (e, f) <;> simp [iCross_tells, h1, h2, h3, Geo.sgn]
  repeat' split
  all_goals first | rfl | omega
theorem along_tells {a b c d e f : Int} (h1 : Geo.ok (a, b) = true) (h2 : Geo.ok (c, d) = true) (h3 : Geo.ok (e, f) = true) : impl_along.f a b c d e f = some (Geo.dot (a, b) (c, d) (e, f)) := by
  have hb := Geo.dot_bd h1 h2 h3
  rw [Geo.ok_iff] at h1 h2 h3
  have m1 := Geo.mul_bd (m := c - a) (n := e - a) (by omega) (by omega) (by omega) (by omega)
  have m2 := Geo.mul_bd (m := d - b) (n := f - b) (by omega) (by omega) (by omega) (by omega)
  unfold impl_along.f
  unfold Geo.dot at hb ⊢
  simp only at h1 h2 h3 hb ⊢
  rw [Geo.w64 (n := c - a) (by omega) (by omega), Geo.w64 (n := f - b) (by omega) (by omega), Geo.w64 (n := d - b) (by omega) (by omega), Geo.w64 (n := e - a) (by omega) (by omega),
    Geo.w64 (n := (c - a) * (e - a)) (by omega) (by omega), Geo.w64 (n := (d - b) * (f - b)) (by omega) (by omega), Geo.w64 (by omega) (by omega)]
theorem between_tells {a b c d : Int} (h1 : Geo.ok (a, b) = true) (h2 : Geo.ok (c, d) = true) : impl_between.f a b c d = some (Geo.dot (a, b) (c, d) (c, d)) := by
  unfold impl_between.f; rw [along_tells h1 h2 h2]; rfl
theorem iSegHas_tells (k : Nat) (a b c d e f : Int) : impl_SegHas.f (k + 1) a b c d e f = some (Geo.has (a, b) (c, d) (e, f)) := by
  unfold impl_SegHas.f Geo.has
  simp only [iSegOk_tells, iPtOk_tells, Option.bind_some, impl_SegHas.j0]
  cases h : Geo.segOk (a, b) (c, d)
  · rfl
  · obtain ⟨h1, h2, _⟩ := (Geo.segOk_iff _ _).1 h
    cases h3 : Geo.ok (e, f)
    · rfl
    · simp only [iCross_tells h1 h2 h3, along_tells h1 h2 h3, between_tells h1 h2, Option.bind_some, if_true]
      by_cases h0 : Geo.cross (a, b) (c, d) (e, f) = 0 <;> by_cases h5 : 0 ≤ Geo.dot (a, b) (c, d) (e, f) <;> simp [Geo.has0, h0, h5]
end InsB
section
open Edges Go.Shelf
attribute [local go_sem] Oper.semAt_some
theorem any_upto {p : Nat × S25 × S25 → Bool} {l : List S25} {k m : Nat} (h : (upto l k).any p = true) (hk : k ≤ m) : (upto l m).any p = true := by
  rw [List.any_eq_true] at h ⊢
  obtain ⟨x, hx, hp⟩ := h
  obtain ⟨i, hi, rfl⟩ := List.mem_map.1 hx
  exact ⟨_, List.mem_map.2 ⟨i, List.mem_range.2 (Nat.lt_of_lt_of_le (List.mem_range.1 hi) hk), rfl⟩, hp⟩
def impl_insideOf.on (px py : Int) (x : Nat × S25 × S25) : Bool := Geo.has (x.2.1.f0, x.2.1.f1) (x.2.2.f0, x.2.2.f1) (px, py)
def impl_insideOf.cut (px py : Int) (x : Nat × S25 × S25) : Bool :=
  ((decide (x.2.1.f1 ≤ py) && decide (x.2.2.f1 > py)) && decide (Geo.turn (x.2.1.f0, x.2.1.f1) (x.2.2.f0, x.2.2.f1) (px, py) > 0)) ||
  ((decide (x.2.2.f1 ≤ py) && decide (x.2.1.f1 > py)) && decide (Geo.turn (x.2.1.f0, x.2.1.f1) (x.2.2.f0, x.2.2.f1) (px, py) < 0))
def impl_insideOf.step (px py n : Int) (x : Nat × S25 × S25) : Int := if impl_insideOf.cut px py x = true then wrap64 (-n) else n
def impl_insideOf.off (px py : Int) (pre : List (Nat × S25 × S25)) : Prop := pre.any (impl_insideOf.on px py) = false
def impl_insideOf.hit (px py : Int) (pre : List (Nat × S25 × S25)) : Prop := pre.any (impl_insideOf.on px py) = true
def impl_insideOf.f (l0 : List S25) (a1_0 : Int) (a1_1 : Int) : Option Int :=
  some (if (upto l0 l0.length).any (impl_insideOf.on a1_0 a1_1) = true then 0 else (upto l0 l0.length).foldl (impl_insideOf.step a1_0 a1_1) (-1))
set_option maxRecDepth 100000 in
set_option maxHeartbeats 8000000 in
theorem impl_insideOf.calls (A0 : Option Addr) (c0 : Nat) (l0 : List S25) (a1_0 : Int) (a1_1 : Int) (r : Int) (w : World) (hr0 : Kd.C k25 w A0 l0.length l0) (hc0 : l0.length ≤ c0) (h : impl_insideOf.f l0 a1_0 a1_1 = some r) :
    Calls Try.prog 49 #[.slice A0 l0.length c0, .agg #[.int .i64 a1_0, .int .i64 a1_1]] w fun e w' => e = .returned (.int .i64 r) ∧ Below w.heap.size w w' := by
  refine (callsIn_wide (n := 8)).1 ?_
  have hu1 := Try.underlying25
  have hu2 := Try.underlying35
  have hres := Aside0.mk (Option.some.inj h)
  clear h
  refine callsIn_of_wp_marks Try.func49 rfl trivial ?_ rfl
  simp only [Try.ntmps49, List.size_toArray, List.length_cons, List.length_nil, Nat.reduceAdd, Nat.reduceSub, Array.replicate_succ, Array.replicate_zero, List.push_toArray, List.append_toArray, List.nil_append, List.cons_append]
  gi_wp2_with (first | (refine ⟨trivial, ?_⟩; gi_at_call 56; refine (all_in _ _ _ _ _).mono ?_; rintro e w2 ⟨rfl, rfl⟩))
  have bP := blk_alloc (blk_alloc (blk_alloc (blk_new w (.cells #[.int .i64 a1_0, .int .i64 a1_1] 25)) (.cells #[.int .i64 0] 3)) (.cells #[.int .i64 (-1)] 3)) (.cells #[.slice A0 l0.length c0] 23)
  have bR := ((Boxed.new (w.alloc (.cells #[.int .i64 a1_0, .int .i64 a1_1] 25)) 3 (.int .i64 0)).alloc (.cells #[.int .i64 (-1)] 3)).alloc (.cells #[.slice A0 l0.length c0] 23)
  have bS := (Boxed.new ((w.alloc (.cells #[.int .i64 a1_0, .int .i64 a1_1] 25)).alloc (.cells #[.int .i64 0] 3)) 3 (.int .i64 (-1))).alloc (.cells #[.slice A0 l0.length c0] 23)
  have bN := Boxed.new (((w.alloc (.cells #[.int .i64 a1_0, .int .i64 a1_1] 25)).alloc (.cells #[.int .i64 0] 3)).alloc (.cells #[.int .i64 (-1)] 3)) 23 (.slice A0 l0.length c0)
  have hB0 : Below w.heap.size w ((((w.alloc (.cells #[.int .i64 a1_0, .int .i64 a1_1] 25)).alloc (.cells #[.int .i64 0] 3)).alloc (.cells #[.int .i64 (-1)] 3)).alloc (.cells #[.slice A0 l0.length c0] 23)) := ((((Below.refl _ w).alloc (Nat.le_refl _) _).alloc (by simp) _).alloc (by simp; omega) _).alloc (by simp; omega) _
  have hsz : w.heap.size + 4 ≤ ((((w.alloc (.cells #[.int .i64 a1_0, .int .i64 a1_1] 25)).alloc (.cells #[.int .i64 0] 3)).alloc (.cells #[.int .i64 (-1)] 3)).alloc (.cells #[.slice A0 l0.length c0] 23)).heap.size := by simp
  simp only [World.size_alloc] at bR bS bN
  obtain ⟨W0, hW0⟩ : ∃ W0, (((w.alloc (.cells #[.int .i64 a1_0, .int .i64 a1_1] 25)).alloc (.cells #[.int .i64 0] 3)).alloc (.cells #[.int .i64 (-1)] 3)).alloc (.cells #[.slice A0 l0.length c0] 23) = W0 := ⟨_, rfl⟩
  rw [hW0] at bP bR bS bN hB0 hsz ⊢
  clear hW0
  refine wpIn_rangeFunc_ownH rfl (by decide) (gf := 84) (lb := #[.pointer (some ⟨w.heap.size + 1 + 1 + 1, 0, none⟩)]) rfl trivial (enters_of Try.func84 (by kernel_rfl) rfl)
    (all_stops 7 (by decide) (w.heap.size + 1 + 1 + 1) w.heap.size w A0 c0 l0 hr0 (Nat.le_refl _) W0 hB0 bN) Kp_t (Kp_b (by omega) (by omega)) (Below.refl _ _) (fun _ => rfl)
    (fun pre W => (((impl_insideOf.off a1_0 a1_1 pre ∧ Boxed W (w.heap.size + 1 + 1) 3 (.int .i64 (pre.foldl (impl_insideOf.step a1_0 a1_1) (-1)))) ∧ Boxed W (w.heap.size + 1) 3 (.int .i64 0)) ∧ W.heap[w.heap.size]? = some (.cells #[.int .i64 a1_0, .int .i64 a1_1] 25 (0, 0))) ∧ Below w.heap.size w W)
    (fun c pre W => ((c = .ret ∧ impl_insideOf.hit a1_0 a1_1 pre) ∧ Boxed W (w.heap.size + 1) 3 (.int .i64 0)) ∧ Below w.heap.size w W)
    (OwnFrom.and (OwnFrom.and (OwnFrom.and (OwnFrom.and (ownFrom_pure _ _) (Own.from (boxed_own _ _ _) _)) (Own.from (boxed_own _ _ _) _)) (Own.from (blk_own _ _ (fun _ => #[.int .i64 a1_0, .int .i64 a1_1])) _)) (ownFrom_below (Nat.le_refl _) (by omega)))
    (fun c => OwnFrom.and (OwnFrom.and (ownFrom_pure _ _) (Own.from (boxed_own _ _ _) _)) (ownFrom_below (Nat.le_refl _) (by omega)))
    ⟨⟨⟨⟨rfl, bS⟩, bR⟩, bP⟩, hB0⟩
    (fun x a' W => ∃ Bx, w.heap.size + 1 + 1 < Bx ∧ W.heap[Bx]? = some (.cells (seg x.2.1 x.2.2) 35 (0, 0)) ∧ a' = { tmps := #[.slice A0 l0.length c0, .agg #[.int .i64 a1_0, .int .i64 a1_1], undef, .pointer (some ⟨w.heap.size, 0, none⟩), .pointer (some ⟨w.heap.size + 1, 0, none⟩), .pointer (some ⟨w.heap.size + 1 + 1, 0, none⟩), undef, .pointer (some ⟨Bx, 0, none⟩), undef, undef, undef, .slice A0 l0.length c0, .func (.func 84) #[] #[.pointer (some ⟨w.heap.size + 1 + 1 + 1, 0, none⟩)], .int .i64 (x.1 : Int), .agg (seg x.2.1 x.2.2), undef, undef, undef, undef, undef, undef, undef, undef, undef, undef, undef, undef, undef, undef, undef, undef, undef, undef, undef, undef, undef, undef, undef, undef, undef, undef, undef, undef, undef, undef, undef, undef, undef, undef, undef, undef, undef, undef, undef, undef, undef, undef, undef, undef, undef, undef, undef, undef, undef, undef, undef, undef], defers := [] })
    (fun x a' _ X Y row hs hg hr => by obtain ⟨Bx, h1, h2, h3⟩ := hs; exact ⟨Bx, h1, blk_own Bx 35 (fun (_ : Unit) => seg x.2.1 x.2.2) () X Y row h2 hg (fun r e => (hr r e).2), h3⟩)
    ?assign ?body ?done ?stop
  case assign =>
    rintro l pre x W K ⟨⟨⟨⟨ha, bS1⟩, bR1⟩, bP1⟩, hB1⟩ hK
    simp only [enc, seg]
    gi_wp2
    exact hK _ _ ((KeepsOthers.alloc _ _).from _) ⟨(Below.refl _ W).alloc hB1.size _, fun o e => blk_alloc e _⟩ ⟨⟨⟨⟨ha, bS1.alloc _⟩, bR1.alloc _⟩, blk_alloc bP1 _⟩, hB1.alloc hB1.size _⟩ ⟨W.heap.size, bS1.lt, World.alloc_heap_new W _, rfl⟩
  case body =>
    rintro l pre x a' W hl ⟨r, hr⟩ ⟨⟨⟨⟨ha, bS1⟩, bR1⟩, bP1⟩, hB1⟩ ⟨Bx, hBx, bX, rfl⟩ hlt
    obtain ⟨xi, ⟨xa, xb⟩, ⟨xc, xd⟩⟩ := x
    have h1' : 1 ≤ 8 - 1 - 1 := by decide
    have cX0 : W.cell? ⟨Bx, 0, none⟩ = some (.int .i64 xa) := blk_cell bX 0
    have cX1 : W.cell? ⟨Bx, 1, none⟩ = some (.int .i64 xb) := blk_cell bX 1
    have cX2 : W.cell? ⟨Bx, 2, none⟩ = some (.int .i64 xc) := blk_cell bX 2
    have cX3 : W.cell? ⟨Bx, 3, none⟩ = some (.int .i64 xd) := blk_cell bX 3
    have cP0 : W.cell? ⟨w.heap.size, 0, none⟩ = some (.int .i64 a1_0) := blk_cell bP1 0
    have cP1 : W.cell? ⟨w.heap.size, 1, none⟩ = some (.int .i64 a1_1) := blk_cell bP1 1
    obtain ⟨b, hb⟩ : ∃ b, Geo.has (xa, xb) (xc, xd) (a1_0, a1_1) = b := ⟨_, rfl⟩
    gi_wp2_with fail
    refine ⟨trivial, (CallsIn.inRound l (callsIn_wide.2 (impl_SegHas.calls 1 _ _ _ _ _ _ _ _ (InsB.iSegHas_tells 0 _ _ _ _ _ _)))).mono ?_⟩
    rw [hb]
    rintro e W1 ⟨rfl, hbc⟩
    clear cX0 cX1 cX2 cX3 cP0 cP1
    have hkb := (KeepsFrom.of_grownBy (B := W0.heap.size) (row := none) ⟨hbc.os, hbc.tape, hbc.output, hbc.size, fun k hk _ => hbc.block k hk⟩ (by simp))
    replace bS1 : Boxed W1 (w.heap.size + 1 + 1) 3 _ := (hbc.block _ bS1.lt).trans bS1
    replace bR1 : Boxed W1 (w.heap.size + 1) 3 _ := (hbc.block _ bR1.lt).trans bR1
    replace bP1 := blk_below bP1 hbc
    replace bX := blk_below bX hbc
    have cR := bR1.cell
    have fR := bR1.frozen
    have cS := bS1.cell
    have fS := bS1.frozen
    have cX0 : W1.cell? ⟨Bx, 0, none⟩ = some (.int .i64 xa) := blk_cell bX 0
    have cX1 : W1.cell? ⟨Bx, 1, none⟩ = some (.int .i64 xb) := blk_cell bX 1
    have cX2 : W1.cell? ⟨Bx, 2, none⟩ = some (.int .i64 xc) := blk_cell bX 2
    have cX3 : W1.cell? ⟨Bx, 3, none⟩ = some (.int .i64 xd) := blk_cell bX 3
    have cP0 : W1.cell? ⟨w.heap.size, 0, none⟩ = some (.int .i64 a1_0) := blk_cell bP1 0
    have cP1 : W1.cell? ⟨w.heap.size, 1, none⟩ = some (.int .i64 a1_1) := blk_cell bP1 1
    cases b
    · obtain ⟨t, ht⟩ : ∃ t, Geo.turn (xa, xb) (xc, xd) (a1_0, a1_1) = t := ⟨_, rfl⟩
      gi_wp2_with fail
      all_goals
        refine ⟨trivial, (CallsIn.inRound l (callsIn_wide.2 (impl_SegTurn.calls 1 _ _ _ _ _ _ _ _ (InsB.iSegTurn_tells 0 _ _ _ _ _ _)))).mono ?_⟩
        rw [ht]
        rintro e W2 ⟨rfl, hbd⟩
        clear cX0 cX1 cX2 cX3 cP0 cP1 cR fR cS fS
        have hkc := (KeepsFrom.of_grownBy (B := W0.heap.size) (row := none) ⟨hbd.os, hbd.tape, hbd.output, hbd.size, fun k hk _ => hbd.block k hk⟩ (by simp))
        replace bS1 : Boxed W2 (w.heap.size + 1 + 1) 3 _ := (hbd.block _ bS1.lt).trans bS1
        replace bR1 : Boxed W2 (w.heap.size + 1) 3 _ := (hbd.block _ bR1.lt).trans bR1
        replace bP1 := blk_below bP1 hbd
        have cS := bS1.cell
        have fS := bS1.frozen
        have hWW : Below W.heap.size W W2 := hbc.trans (hbd.mono hbc.size)
        have hKp : ∀ o, W.heap[w.heap.size + 1 + 1 + 1]? = some o → W2.heap[w.heap.size + 1 + 1 + 1]? = some o := fun o e => blk_below (blk_below e hbc) hbd
        gi_wp2
      all_goals
        have hoff : impl_insideOf.off a1_0 a1_1 (pre ++ [(xi, ⟨xa, xb⟩, ⟨xc, xd⟩)]) := by
          unfold impl_insideOf.off at ha ⊢; rw [List.any_append, ha]; simp [impl_insideOf.on, hb]
        first
        | have hc : impl_insideOf.cut a1_0 a1_1 (xi, ⟨xa, xb⟩, ⟨xc, xd⟩) = true := by simp only [impl_insideOf.cut, ht, Bool.or_eq_true, Bool.and_eq_true, decide_eq_true_eq]; omega
          exact ⟨(hkb.trans hkc).trans ((KeepsOthers.setCell _ _ _).from _), ⟨(hWW.mono hB1.size).setCell (p := ⟨w.heap.size + 1 + 1, 0, none⟩) (by simp; omega) _, fun o e => (Below.heap_setCell _ _ _ _ (by simp)).trans (hKp o e)⟩,
            ⟨⟨⟨⟨hoff, by rw [List.foldl_append, List.foldl_cons, List.foldl_nil, impl_insideOf.step, if_pos hc]; exact bS1.set _⟩, bR1.other (by omega) _⟩, (Below.heap_setCell _ _ _ _ (by simp; omega)).trans bP1⟩, (hB1.trans (hWW.mono hB1.size)).setCell (p := ⟨w.heap.size + 1 + 1, 0, none⟩) (by simp; omega) _⟩⟩
        | have hc : impl_insideOf.cut a1_0 a1_1 (xi, ⟨xa, xb⟩, ⟨xc, xd⟩) = false := by
            rw [Bool.eq_false_iff]; intro hc; simp only [impl_insideOf.cut, ht, Bool.or_eq_true, Bool.and_eq_true, decide_eq_true_eq] at hc; omega
          exact ⟨hkb.trans hkc, ⟨hWW.mono hB1.size, hKp⟩, ⟨⟨⟨⟨hoff, by rw [List.foldl_append, List.foldl_cons, List.foldl_nil, impl_insideOf.step, if_neg (by rw [hc]; decide)]; exact bS1⟩, bR1⟩, bP1⟩, hB1.trans (hWW.mono hB1.size)⟩⟩
    · gi_wp2
      exact ⟨hkb.trans ((KeepsOthers.setCell _ _ _).from _), ⟨⟨rfl, by unfold impl_insideOf.hit; rw [List.any_append]; simp [impl_insideOf.on, hb]⟩, bR1.set _⟩, (hB1.trans (hbc.mono hB1.size)).setCell (p := ⟨w.heap.size + 1, 0, none⟩) (by simp) _⟩
  case done =>
    rintro D zs W hD rfl ⟨⟨⟨⟨ha, bS1⟩, bR1⟩, bP1⟩, hB1⟩ hK
    have cS := bS1.cell
    have cR := bR1.cell
    have fR := bR1.frozen
    gi_wp2
    have hK' := (KeepsOthers.setCell W ⟨w.heap.size + 1, 0, none⟩ (.int .i64 ((upto l0 l0.length).foldl (impl_insideOf.step a1_0 a1_1) (-1)))).same D _ hK rfl
    refine ⟨by simp, .inl ⟨_, _, rfl, run_takeDeferred hK', ?_⟩⟩
    have hc5 := cell_kept (bR1.set (.int .i64 ((upto l0 l0.length).foldl (impl_insideOf.step a1_0 a1_1) (-1)))).cell (grownBy_putObj' _ D (.deferred none)) (fun r e => by cases e; exact ⟨_, hK', rfl⟩)
    refine ⟨.int .i64 ((upto l0 l0.length).foldl (impl_insideOf.step a1_0 a1_1) (-1)), ?_, by rw [← hres.out, if_neg (by rw [show _ = false from ha]; decide)], (hB1.setCell (p := ⟨w.heap.size + 1, 0, none⟩) (by simp) _).trans (belowK_b (w := w) (Nat.le_refl _) _ D _ _ (by omega) hK' rfl rfl)⟩
    simp [results, Try.f49, go_sem, hc5]
  case stop =>
    rintro D c pre W hD ⟨k, hk, rfl⟩ ⟨⟨⟨rfl, ha⟩, bR1⟩, hB1⟩ hK
    gi_wp2
    refine ⟨by simp, .inl ⟨_, _, rfl, run_takeDeferred hK, ?_⟩⟩
    have hc5 := cell_kept bR1.cell (grownBy_putObj' _ D (.deferred none)) (fun r e => by cases e; exact ⟨_, hK, rfl⟩)
    refine ⟨.int .i64 0, ?_, by rw [← hres.out, if_pos (any_upto ha hk)], hB1.trans (belowK_b (w := w) (Nat.le_refl _) W D _ _ (by omega) hK rfl rfl)⟩
    simp [results, Try.f49, go_sem, hc5]
end

end Go.Proofs.Ytehkklmacglelaa.PA
namespace Go.Proofs.Ytehkklmacglelaa.PA
open Go.RowKit Go.Proofs.YtehkklmacglelaaW.PrintWords Go.Proofs.YtehkklmacglelaaW.PrintLast Go.Proofs.YtehkklmacglelaaW.PrintMore
attribute [local go_sem] max2_int min2_int max_two min_two max_three min_three max_four min_four   -- for this text's walks alone
set_option linter.unusedVariables false
set_option linter.unusedSimpArgs false

/-! ### impl_LoopOk: function 47 -/
namespace OkB
theorem iPtOk_tells (x y : Int) : impl_PtOk.f x y = some (Geo.ok (x, y)) := by
  unfold impl_PtOk.f
  by_cases h1 : 0 ≤ x <;> by_cases h2 : x ≤ 9 <;> by_cases h3 : 0 ≤ y <;> simp [Geo.ok, h1, h2, h3]
theorem iSegOk_tells (a b c d : Int) : impl_SegOk.f a b c d = some (Geo.segOk (a, b) (c, d)) := by
  unfold impl_SegOk.f
  simp only [iPtOk_tells, Option.bind_some, Geo.pne]
  unfold Geo.segOk
  cases h1 : Geo.ok (a, b) <;> cases h2 : Geo.ok (c, d) <;> rfl
theorem iCross_tells {a b c d e f : Int} (h1 : Geo.ok (a, b) = true) (h2 : Geo.ok (c, d) = true) (h3 : Geo.ok (e, f) = true) : impl_cross.f a b c d e f = some (Geo.cross (a, b) (c, d) (e, f)) := by
  have hb := Geo.cross_bd h1 h2 h3
  rw [Geo.ok_iff] at h1 h2 h3
  have m1 := Geo.mul_bd (m := c - a) (n := f - b) (by omega) (by omega) (by omega) (by omega)
  have m2 := Geo.mul_bd (m := d - b) (n := e - a) (by omega) (by omega) (by omega) (by omega)
  unfold impl_cross.f
  unfold Geo.cross at hb ⊢
  simp only at h1 h2 h3 hb ⊢
  rw [Geo.w64 (n := c - a) (by omega) (by omega), Geo.w64 (n := f - b) (by omega) (by omega), Geo.w64 (n := d - b) (by omega) (by omega), Geo.w64 (n := e - a) (by omega) (by omega),
    Geo.w64 (n := (c - a) * (f - b)) (by omega) (by omega), Geo.w64 (n := (d - b) * (e - a)) (by omega) (by omega), Geo.w64 (by omega) (by omega)]
theorem iSegTurn_tells (k : Nat) (a b c d e f : Int) : impl_SegTurn.f (k + 1) a b c d e f = some (Geo.turn (a, b) (c, d) (e, f)) := by
  unfold impl_SegTurn.f
  simp only [iPtOk_tells, Option.bind_some, impl_SegTurn.j0]
  unfold Geo.turn
  cases h1 : Geo.ok (a, b) <;> cases h2 : Geo.ok (c, d) <;> cases h3 : Geo.ok (e, f) <;> simp [iCross_tells, h1, h2, h3, Geo.sgn]
  repeat' split
  all_goals first | rfl | omega
theorem along_tells {a b c d e f : Int} (h1 : Geo.ok (a, b) = true) (h2 : Geo.ok (c, d) = true) (h3 : Geo.ok (e, f) = true) : impl_along.f a b c d e f = some (Geo.dot (a, b) (c, d) (e, f)) := by
  have hb := Geo.dot_bd h1 h2 h3
  rw [Geo.ok_iff] at h1 h2 h3
  have m1 := Geo.mul_bd (m := c - a) (n := e - a) (by omega) (by omega) (by omega) (by omega)
  have m2 := Geo.mul_bd (m := d - b) (n := f - b) (by omega) (by omega) (by omega) (by omega)
  unfold impl_along.f
  unfold Geo.dot at hb ⊢
  simp only at h1 h2 h3 hb ⊢
  rw [Geo.w64 (n := c - a) (by omega) (by omega), Geo.w64 (n := f - b) (by omega) (by omega), Geo.w64 (n := d - b) (by omega) (by omega), Geo.w64 (n := e - a) (by omega) (by omega),
    Geo.w64 (n := (c - a) * (e - a)) (by omega) (by omega), Geo.w64 (n := (d - b) * (f - b)) (by omega) (by omega), Geo.w64 (by omega) (by omega)]
theorem between_tells {a b c d : Int} (h1 : Geo.ok (a, b) = true) (h2 : Geo.ok (c, d) = true) : impl_between.f a b c d = some (Geo.dot (a, b) (c, d) (c, d)) := by
  unfold impl_between.f; rw [along_tells h1 h2 h2]; rfl
theorem iSegHas_tells (k : Nat) (a b c d e f : Int) : impl_SegHas.f (k + 1) a b c d e f = some (Geo.has (a, b) (c, d) (e, f)) := by
  unfold impl_SegHas.f Geo.has
  simp only [iSegOk_tells, iPtOk_tells, Option.bind_some, impl_SegHas.j0]
  cases h : Geo.segOk (a, b) (c, d)
  · rfl
  · obtain ⟨h1, h2, _⟩ := (Geo.segOk_iff _ _).1 h
    cases h3 : Geo.ok (e, f)
    · rfl
    · simp only [iCross_tells h1 h2 h3, along_tells h1 h2 h3, between_tells h1 h2, Option.bind_some, if_true]
      by_cases h0 : Geo.cross (a, b) (c, d) (e, f) = 0 <;> by_cases h5 : 0 ≤ Geo.dot (a, b) (c, d) (e, f) <;> simp [Geo.has0, h0, h5]
theorem iSegMeet_tells (k : Nat) (a b c d e f g i : Int) : impl_SegMeet.f (k + 3) a b c d e f g i = some (Geo.meet (a, b) (c, d) (e, f) (g, i)) := by
  have tw : ∀ x y z u v w : Geo.P, wrap64 (Geo.turn x y z * Geo.turn u v w) = Geo.turn x y z * Geo.turn u v w := by
    intro x y z u v w
    have h1 := Geo.turn_bd x y z
    have h2 := Geo.turn_bd u v w
    have := Geo.mul_bd (m := Geo.turn x y z) (n := Geo.turn u v w) (by omega) (by omega) (by omega) (by omega)
    exact Geo.w64 (by omega) (by omega)
  unfold impl_SegMeet.f Geo.meet
  simp only [iSegOk_tells, Option.bind_some, impl_SegMeet.j0, impl_SegMeet.j1, iSegHas_tells, iSegTurn_tells, tw]
  cases h : Geo.segOk (a, b) (c, d)
  · rfl
  · cases h' : Geo.segOk (e, f) (g, i)
    · rfl
    · obtain ⟨h1, h2, _⟩ := (Geo.segOk_iff _ _).1 h
      obtain ⟨h3, h4, _⟩ := (Geo.segOk_iff _ _).1 h'
      simp only [Geo.meet0, Geo.has, Geo.turn, h, h', h1, h2, h3, h4, Bool.true_and, Bool.and_true, if_true, Bool.not_true, Bool.false_eq_true, if_false]
      by_cases c1 : Geo.sgn (Geo.cross (a, b) (c, d) (e, f)) * Geo.sgn (Geo.cross (a, b) (c, d) (g, i)) < 0 <;> by_cases c2 : Geo.sgn (Geo.cross (e, f) (g, i) (a, b)) * Geo.sgn (Geo.cross (e, f) (g, i) (c, d)) < 0 <;> cases Geo.has0 (a, b) (c, d) (e, f) <;> cases Geo.has0 (a, b) (c, d) (g, i) <;> cases Geo.has0 (e, f) (g, i) (a, b) <;> cases Geo.has0 (e, f) (g, i) (c, d) <;> simp [c1, c2]
theorem iJoined_tells (k : Nat) (a b c d e f g i : Int) : impl_joined.f (k + 1) a b c d e f g i = some (!Geo.has (a, b) (c, d) (g, i) && !Geo.has (e, f) (g, i) (a, b)) := by
  unfold impl_joined.f
  simp only [iSegHas_tells, Option.bind_some]
  cases Geo.has (a, b) (c, d) (g, i) <;> simp
end OkB
section
open Edges Go.Shelf
attribute [local go_sem] Oper.semAt_some
abbrev impl_LoopOk.E := Nat × S25 × S25
def impl_LoopOk.a (x : impl_LoopOk.E) : Geo.P := (x.2.1.f0, x.2.1.f1)
def impl_LoopOk.b (x : impl_LoopOk.E) : Geo.P := (x.2.2.f0, x.2.2.f1)
def impl_LoopOk.one (x : impl_LoopOk.E) : Bool := Geo.segOk (impl_LoopOk.a x) (impl_LoopOk.b x)
def impl_LoopOk.joined (x y : impl_LoopOk.E) : Bool := !Geo.has (impl_LoopOk.a x) (impl_LoopOk.b x) (impl_LoopOk.b y) && !Geo.has (impl_LoopOk.a y) (impl_LoopOk.b y) (impl_LoopOk.a x)
def impl_LoopOk.right (n : Nat) (x y : impl_LoopOk.E) : Bool :=
  if (y.1 : Int) ≤ (x.1 : Int) then true
  else if (y.1 : Int) = wrap64 ((x.1 : Int) + 1) then impl_LoopOk.joined x y
  else if (x.1 : Int) = 0 ∧ (y.1 : Int) = (n : Int) - 1 then impl_LoopOk.joined y x
  else !Geo.meet (impl_LoopOk.a x) (impl_LoopOk.b x) (impl_LoopOk.a y) (impl_LoopOk.b y)
def impl_LoopOk.off1 (pre : List impl_LoopOk.E) : Prop := pre.all impl_LoopOk.one = true
def impl_LoopOk.hit1 (pre : List impl_LoopOk.E) : Prop := pre.all impl_LoopOk.one = false
def impl_LoopOk.off3 (n : Nat) (x : impl_LoopOk.E) (pre : List impl_LoopOk.E) : Prop := pre.all (impl_LoopOk.right n x) = true
def impl_LoopOk.hit3 (n : Nat) (x : impl_LoopOk.E) (pre : List impl_LoopOk.E) : Prop := pre.all (impl_LoopOk.right n x) = false
def impl_LoopOk.row (l0 : List S25) (x : impl_LoopOk.E) : Bool := (upto l0 l0.length).all (impl_LoopOk.right l0.length x)
def impl_LoopOk.off2 (l0 : List S25) (pre : List impl_LoopOk.E) : Prop := pre.all (impl_LoopOk.row l0) = true
def impl_LoopOk.hit2 (l0 : List S25) (pre : List impl_LoopOk.E) : Prop := pre.all (impl_LoopOk.row l0) = false
def impl_LoopOk.all (l0 : List S25) : Bool :=
  decide (3 ≤ l0.length) && (decide (l0.length ≤ 8) && ((upto l0 l0.length).all impl_LoopOk.one && (upto l0 l0.length).all (impl_LoopOk.row l0)))
def impl_LoopOk.f (l0 : List S25) : Option Bool := some (impl_LoopOk.all l0)
section
variable {n xi yi : Nat} {p q u v : S25}
theorem impl_LoopOk.right_le (h1 : yi ≤ xi) : impl_LoopOk.right n (xi, p, q) (yi, u, v) = true := by
  simp only [impl_LoopOk.right]; rw [if_pos (by omega)]
theorem impl_LoopOk.right_j1 (h1 : ¬yi ≤ xi) (h2 : ((yi : Int) == wrap64 ((xi : Int) + 1)) = true) : impl_LoopOk.right n (xi, p, q) (yi, u, v) = impl_LoopOk.joined (xi, p, q) (yi, u, v) := by
  simp only [beq_iff_eq] at h2
  simp only [impl_LoopOk.right]; rw [if_neg (by omega), if_pos h2]
theorem impl_LoopOk.right_j2 (h1 : ¬yi ≤ xi) (h2 : ((yi : Int) == wrap64 ((xi : Int) + 1)) = false) (h3 : xi = 0) (h4 : ((yi : Int) == (n : Int) - 1) = true) : impl_LoopOk.right n (xi, p, q) (yi, u, v) = impl_LoopOk.joined (yi, u, v) (xi, p, q) := by
  simp only [beq_iff_eq, beq_eq_false_iff_ne, ne_eq] at h2 h4
  simp only [impl_LoopOk.right]; rw [if_neg (by omega), if_neg h2, if_pos ⟨by omega, h4⟩]
theorem impl_LoopOk.right_m1 (h1 : ¬yi ≤ xi) (h2 : ((yi : Int) == wrap64 ((xi : Int) + 1)) = false) (h4 : ((yi : Int) == (n : Int) - 1) = false) : impl_LoopOk.right n (xi, p, q) (yi, u, v) = !Geo.meet (impl_LoopOk.a (xi, p, q)) (impl_LoopOk.b (xi, p, q)) (impl_LoopOk.a (yi, u, v)) (impl_LoopOk.b (yi, u, v)) := by
  simp only [beq_eq_false_iff_ne, ne_eq] at h2 h4
  simp only [impl_LoopOk.right]; rw [if_neg (by omega), if_neg h2, if_neg (fun e => h4 e.2)]
theorem impl_LoopOk.right_m2 (h1 : ¬yi ≤ xi) (h2 : ((yi : Int) == wrap64 ((xi : Int) + 1)) = false) (h3 : ¬xi = 0) : impl_LoopOk.right n (xi, p, q) (yi, u, v) = !Geo.meet (impl_LoopOk.a (xi, p, q)) (impl_LoopOk.b (xi, p, q)) (impl_LoopOk.a (yi, u, v)) (impl_LoopOk.b (yi, u, v)) := by
  simp only [beq_eq_false_iff_ne, ne_eq] at h2
  simp only [impl_LoopOk.right]; rw [if_neg (by omega), if_neg h2, if_neg (fun e => h3 (by omega))]
end
theorem all_upto {p : impl_LoopOk.E → Bool} {l : List S25} {k m : Nat} (h : (upto l k).all p = false) (hk : k ≤ m) : (upto l m).all p = false := by
  rw [List.all_eq_false] at h ⊢
  obtain ⟨x, hx, hp⟩ := h
  obtain ⟨i, hi, rfl⟩ := List.mem_map.1 hx
  exact ⟨_, List.mem_map.2 ⟨i, List.mem_range.2 (Nat.lt_of_lt_of_le (List.mem_range.1 hi) hk), rfl⟩, hp⟩
/-- What lies below B abides the turn of what lies from B on. -/
theorem old_own {β : Type} {B k : Nat} (hk : k < B) (o : Obj) : OwnFrom B (fun (_ : β) W => W.heap[k]? = some o) := fun _ X Y row hs hg hr =>
  (hg.block k (Array.getElem?_eq_some_iff.1 hs).1 (fun e => by have := (hr k e.symm).1; omega)).trans hs
theorem Kp_own {β : Type} {n₀ Bn B : Nat} {W : World} (h1 : n₀ ≤ W.heap.size) (h2 : n₀ ≤ B) (h3 : Bn < B) : OwnFrom B (fun (_ : β) W' => Kp n₀ Bn W W') := fun s X Y row hs hg hr =>
  ⟨ownFrom_below h1 h2 s X Y row hs.1 hg hr, fun o e => old_own h3 o s X Y row (hs.2 o e) hg hr⟩
set_option maxRecDepth 100000 in
set_option maxHeartbeats 8000000 in
theorem impl_LoopOk.calls (A0 : Option Addr) (c0 : Nat) (l0 : List S25) (r : Bool) (w : World) (hr0 : Kd.C k25 w A0 l0.length l0) (hc0 : l0.length ≤ c0) (h : impl_LoopOk.f l0 = some r) :
    Calls Try.prog 47 #[.slice A0 l0.length c0] w fun e w' => e = .returned (.bool r) ∧ Below w.heap.size w w' := by
  refine (callsIn_wide (n := 8)).1 ?_
  have hu1 := Try.underlying25
  have hu2 := Try.underlying35
  have hres := Aside0.mk (Option.some.inj h)
  clear h
  refine callsIn_of_wp_marks Try.func47 rfl trivial ?_ rfl
  simp only [Try.ntmps47, List.size_toArray, List.length_cons, List.length_nil, Nat.reduceAdd, Nat.reduceSub, Array.replicate_succ, Array.replicate_zero, List.push_toArray, List.append_toArray, List.nil_append, List.cons_append]
  by_cases h38 : 3 ≤ l0.length ∧ l0.length ≤ 8
  · obtain ⟨h3, h8⟩ := h38
    gi_wp2_with (first | (refine ⟨trivial, ?_⟩; gi_at_call 56; refine (all_in _ _ _ _ _).mono ?_; rintro e w2 ⟨rfl, rfl⟩))
    have bL := ((Boxed.new w 23 (.slice A0 l0.length c0)).alloc (.cells #[.bool false] 4)).alloc (.cells #[.slice A0 l0.length c0] 23)
    have bR := (Boxed.new (w.alloc (.cells #[.slice A0 l0.length c0] 23)) 4 (.bool false)).alloc (.cells #[.slice A0 l0.length c0] 23)
    have bN := Boxed.new ((w.alloc (.cells #[.slice A0 l0.length c0] 23)).alloc (.cells #[.bool false] 4)) 23 (.slice A0 l0.length c0)
    have hB0 : Below w.heap.size w (((w.alloc (.cells #[.slice A0 l0.length c0] 23)).alloc (.cells #[.bool false] 4)).alloc (.cells #[.slice A0 l0.length c0] 23)) := (((Below.refl _ w).alloc (Nat.le_refl _) _).alloc (by simp) _).alloc (by simp; omega) _
    have hsz : w.heap.size + 3 ≤ (((w.alloc (.cells #[.slice A0 l0.length c0] 23)).alloc (.cells #[.bool false] 4)).alloc (.cells #[.slice A0 l0.length c0] 23)).heap.size := by simp
    simp only [World.size_alloc] at bR bN
    obtain ⟨W0, hW0⟩ : ∃ W0, ((w.alloc (.cells #[.slice A0 l0.length c0] 23)).alloc (.cells #[.bool false] 4)).alloc (.cells #[.slice A0 l0.length c0] 23) = W0 := ⟨_, rfl⟩
    rw [hW0] at bL bR bN hB0 hsz ⊢
    clear hW0
    refine wpIn_rangeFunc_ownH rfl (by decide) (gf := 84) (lb := #[.pointer (some ⟨w.heap.size + 1 + 1, 0, none⟩)]) rfl trivial (enters_of Try.func84 (by kernel_rfl) rfl)
      (all_stops 7 (by decide) (w.heap.size + 1 + 1) w.heap.size w A0 c0 l0 hr0 (Nat.le_refl _) W0 hB0 bN) Kp_t (Kp_b (by omega) (by omega)) (Below.refl _ _) (fun _ => rfl)
      (fun pre W => ((impl_LoopOk.off1 pre ∧ Boxed W (w.heap.size + 1) 4 (.bool false)) ∧ Boxed W w.heap.size 23 (.slice A0 l0.length c0)) ∧ Below w.heap.size w W)
      (fun c pre W => ((c = .ret ∧ impl_LoopOk.hit1 pre) ∧ Boxed W (w.heap.size + 1) 4 (.bool false)) ∧ Below w.heap.size w W)
      (OwnFrom.and (OwnFrom.and (OwnFrom.and (ownFrom_pure _ _) (Own.from (boxed_own _ _ _) _)) (Own.from (boxed_own _ _ _) _)) (ownFrom_below (Nat.le_refl _) (by omega)))
      (fun c => OwnFrom.and (OwnFrom.and (ownFrom_pure _ _) (Own.from (boxed_own _ _ _) _)) (ownFrom_below (Nat.le_refl _) (by omega)))
      ⟨⟨⟨rfl, bR⟩, bL⟩, hB0⟩
      (fun x a' W => ∃ Bx, w.heap.size + 1 < Bx ∧ W.heap[Bx]? = some (.cells (seg x.2.1 x.2.2) 35 (0, 0)) ∧ a' = { tmps := #[.slice A0 l0.length c0, .pointer (some ⟨w.heap.size, 0, none⟩), .pointer (some ⟨w.heap.size + 1, 0, none⟩), undef, .pointer (some ⟨Bx, 0, none⟩), undef, undef, undef, undef, undef, undef, .slice A0 l0.length c0, .int .i64 (l0.length : Int), .bool (decide ((l0.length : Int) < 3)), .bool (decide ((l0.length : Int) < 3)), .slice A0 l0.length c0, .int .i64 (l0.length : Int), .bool (decide (8 < (l0.length : Int))), .bool (decide ((l0.length : Int) < 3) || decide (8 < (l0.length : Int))), .slice A0 l0.length c0, .func (.func 84) #[] #[.pointer (some ⟨w.heap.size + 1 + 1, 0, none⟩)], .int .i64 (x.1 : Int), .agg (seg x.2.1 x.2.2), undef, undef, undef, undef, undef, undef, undef, undef, undef, undef, undef, undef, undef, undef, undef, undef, undef, undef, undef, undef, undef, undef, undef, undef, undef, undef, undef, undef, undef, undef, undef, undef, undef, undef, undef, undef, undef, undef, undef, undef, undef, undef, undef], defers := [] })
      (fun x a' _ X Y row hs hg hr => by obtain ⟨Bx, h1, h2, h3⟩ := hs; exact ⟨Bx, h1, blk_own Bx 35 (fun (_ : Unit) => seg x.2.1 x.2.2) () X Y row h2 hg (fun r e => (hr r e).2), h3⟩)
      ?assign ?body ?done ?stop
    case assign =>
      rintro l pre x W K ⟨⟨⟨ha, bR1⟩, bL1⟩, hB1⟩ hK
      simp only [enc, seg]
      gi_wp2
      exact hK _ _ ((KeepsOthers.alloc _ _).from _) ⟨(Below.refl _ W).alloc hB1.size _, fun o e => blk_alloc e _⟩ ⟨⟨⟨ha, bR1.alloc _⟩, bL1.alloc _⟩, hB1.alloc hB1.size _⟩ ⟨W.heap.size, bR1.lt, World.alloc_heap_new W _, rfl⟩
    case body =>
      rintro l pre x a' W hl ⟨r, hr⟩ ⟨⟨⟨ha, bR1⟩, bL1⟩, hB1⟩ ⟨Bx, hBx, bX, rfl⟩ hlt
      obtain ⟨xi, ⟨xa, xb⟩, ⟨xc, xd⟩⟩ := x
      have h1' : 1 ≤ 8 - 1 - 1 := by decide
      have cX0 : W.cell? ⟨Bx, 0, none⟩ = some (.int .i64 xa) := blk_cell bX 0
      have cX1 : W.cell? ⟨Bx, 1, none⟩ = some (.int .i64 xb) := blk_cell bX 1
      have cX2 : W.cell? ⟨Bx, 2, none⟩ = some (.int .i64 xc) := blk_cell bX 2
      have cX3 : W.cell? ⟨Bx, 3, none⟩ = some (.int .i64 xd) := blk_cell bX 3
      obtain ⟨b, hb⟩ : ∃ b, Geo.segOk (xa, xb) (xc, xd) = b := ⟨_, rfl⟩
      gi_wp2_with fail
      refine ⟨trivial, (CallsIn.inRound l (callsIn_wide.2 (impl_SegOk.calls _ _ _ _ _ _ (OkB.iSegOk_tells _ _ _ _)))).mono ?_⟩
      rw [hb]
      rintro e W1 ⟨rfl, hbc⟩
      clear cX0 cX1 cX2 cX3
      have hkb := (KeepsFrom.of_grownBy (B := W0.heap.size) (row := none) ⟨hbc.os, hbc.tape, hbc.output, hbc.size, fun k hk _ => hbc.block k hk⟩ (by simp))
      replace bR1 : Boxed W1 (w.heap.size + 1) 4 _ := (hbc.block _ bR1.lt).trans bR1
      replace bL1 : Boxed W1 w.heap.size 23 _ := (hbc.block _ bL1.lt).trans bL1
      have cR := bR1.cell
      have fR := bR1.frozen
      cases b
      · gi_wp2
        exact ⟨hkb.trans ((KeepsOthers.setCell _ _ _).from _), ⟨⟨rfl, by unfold impl_LoopOk.hit1; rw [List.all_append]; simp [impl_LoopOk.one, impl_LoopOk.a, impl_LoopOk.b, hb]⟩, bR1.set _⟩, (hB1.trans (hbc.mono hB1.size)).setCell (p := ⟨w.heap.size + 1, 0, none⟩) (by simp) _⟩
      · gi_wp2
        exact ⟨hkb, ⟨hbc.mono hB1.size, fun o e => blk_below e hbc⟩, ⟨⟨by unfold impl_LoopOk.off1 at ha ⊢; rw [List.all_append, ha]; simp [impl_LoopOk.one, impl_LoopOk.a, impl_LoopOk.b, hb], bR1⟩, bL1⟩, hB1.trans (hbc.mono hB1.size)⟩
    case done =>
      rintro D zs W hD rfl ⟨⟨⟨ha, bR1⟩, bL1⟩, hB1⟩ hK
      have cL := bL1.cell
      have cL' : ∀ o, (W.alloc o).cell? ⟨w.heap.size, 0, none⟩ = some (.slice A0 l0.length c0) := fun o => (bL1.alloc o).cell
      gi_wp2_with (first | (refine ⟨trivial, ?_⟩; gi_at_call 56; refine (all_in _ _ _ _ _).mono ?_; rintro e w2 ⟨rfl, rfl⟩))
      have hsW := hB1.size
      have bL3 := (bL1.alloc (.cells #[.int .i64 ((l0.length : Int) - 1)] 3)).alloc (.cells #[.slice A0 l0.length c0] 23)
      have bR3 := (bR1.alloc (.cells #[.int .i64 ((l0.length : Int) - 1)] 3)).alloc (.cells #[.slice A0 l0.length c0] 23)
      have bE3 := (Boxed.new W 3 (.int .i64 ((l0.length : Int) - 1))).alloc (.cells #[.slice A0 l0.length c0] 23)
      have bN3 := Boxed.new (W.alloc (.cells #[.int .i64 ((l0.length : Int) - 1)] 3)) 23 (.slice A0 l0.length c0)
      have hK3 : ((W.alloc (.cells #[.int .i64 ((l0.length : Int) - 1)] 3)).alloc (.cells #[.slice A0 l0.length c0] 23)).heap[D]? = some (.deferred (some [])) := by
        have hD := (Array.getElem?_eq_some_iff.1 hK).1
        exact (Below.heap_alloc _ _ _ (by simp; omega)).trans ((Below.heap_alloc _ _ _ hD).trans hK)
      have hB3 : Below w.heap.size w ((W.alloc (.cells #[.int .i64 ((l0.length : Int) - 1)] 3)).alloc (.cells #[.slice A0 l0.length c0] 23)) := (hB1.alloc hsW _).alloc (by simp; omega) _
      have hsz3 : W.heap.size + 2 ≤ ((W.alloc (.cells #[.int .i64 ((l0.length : Int) - 1)] 3)).alloc (.cells #[.slice A0 l0.length c0] 23)).heap.size := by simp
      have hDW : D < W.heap.size := (Array.getElem?_eq_some_iff.1 hK).1
      have hRW := bR1.lt
      simp only [World.size_alloc] at bN3
      obtain ⟨W3, hW3⟩ : ∃ W3, (W.alloc (.cells #[.int .i64 ((l0.length : Int) - 1)] 3)).alloc (.cells #[.slice A0 l0.length c0] 23) = W3 := ⟨_, rfl⟩
      rw [hW3] at bL3 bR3 bE3 bN3 hK3 hB3 hsz3 ⊢
      clear hW3
      refine wpIn_rangeFunc_ownH rfl (by decide) (gf := 84) (lb := #[.pointer (some ⟨W.heap.size + 1, 0, none⟩)]) rfl trivial (enters_of Try.func84 (by kernel_rfl) rfl)
        (all_stops 7 (by decide) (W.heap.size + 1) w.heap.size w A0 c0 l0 hr0 (Nat.le_refl _) W3 hB3 bN3) Kp_t (Kp_b (by omega) (by omega)) (Below.refl _ _) (fun _ => rfl)
        (fun pre W' => ((((impl_LoopOk.off2 l0 pre ∧ Boxed W' (w.heap.size + 1) 4 (.bool false)) ∧ Boxed W' w.heap.size 23 (.slice A0 l0.length c0)) ∧ Boxed W' W.heap.size 3 (.int .i64 ((l0.length : Int) - 1))) ∧ W'.heap[D]? = some (.deferred (some []))) ∧ Below w.heap.size w W')
        (fun c pre W' => (((c = .ret ∧ impl_LoopOk.hit2 l0 pre) ∧ Boxed W' (w.heap.size + 1) 4 (.bool false)) ∧ W'.heap[D]? = some (.deferred (some []))) ∧ Below w.heap.size w W')
        (OwnFrom.and (OwnFrom.and (OwnFrom.and (OwnFrom.and (OwnFrom.and (ownFrom_pure _ _) (Own.from (boxed_own _ _ _) _)) (Own.from (boxed_own _ _ _) _)) (Own.from (boxed_own _ _ _) _)) (old_own (by omega) _)) (ownFrom_below (Nat.le_refl _) (by omega)))
        (fun c => OwnFrom.and (OwnFrom.and (OwnFrom.and (ownFrom_pure _ _) (Own.from (boxed_own _ _ _) _)) (old_own (by omega) _)) (ownFrom_below (Nat.le_refl _) (by omega)))
        ⟨⟨⟨⟨⟨rfl, bR3⟩, bL3⟩, bE3⟩, hK3⟩, hB3⟩
        (fun x a' W' => ∃ Bi Bs, (W.heap.size < Bi ∧ W.heap.size < Bs) ∧ (Boxed W' Bi 3 (.int .i64 (x.1 : Int)) ∧ W'.heap[Bs]? = some (.cells (seg x.2.1 x.2.2) 35 (0, 0))) ∧ a' = { tmps := #[.slice A0 l0.length c0, .pointer (some ⟨w.heap.size, 0, none⟩), .pointer (some ⟨w.heap.size + 1, 0, none⟩), undef, undef, .pointer (some ⟨W.heap.size, 0, none⟩), .pointer (some ⟨Bi, 0, none⟩), .pointer (some ⟨Bs, 0, none⟩), undef, undef, undef, .slice A0 l0.length c0, .int .i64 (l0.length : Int), .bool (decide ((l0.length : Int) < 3)), .bool (decide ((l0.length : Int) < 3)), .slice A0 l0.length c0, .int .i64 (l0.length : Int), .bool (decide (8 < (l0.length : Int))), .bool (decide ((l0.length : Int) < 3) || decide (8 < (l0.length : Int))), .slice A0 l0.length c0, .func (.func 84) #[] #[.pointer (some ⟨w.heap.size + 1 + 1, 0, none⟩)], undef, undef, undef, undef, undef, .slice A0 l0.length c0, .int .i64 (l0.length : Int), .int .i64 ((l0.length : Int) - 1), .slice A0 l0.length c0, .func (.func 84) #[] #[.pointer (some ⟨W.heap.size + 1, 0, none⟩)], .int .i64 (x.1 : Int), .agg (seg x.2.1 x.2.2), undef, undef, undef, undef, undef, undef, undef, undef, undef, undef, undef, undef, undef, undef, undef, undef, undef, undef, undef, undef, undef, undef, undef, undef, undef, undef, undef, undef, undef, undef, undef, undef, undef], defers := [] })
        (fun x a' _ X Y row hs hg hr => by
          obtain ⟨Bi, Bs, h1, ⟨h2, h3⟩, h4⟩ := hs
          exact ⟨Bi, Bs, h1, ⟨boxed_own Bi 3 (fun (_ : Unit) => Value.int .i64 (x.1 : Int)) () X Y row h2 hg (fun r e => (hr r e).2), blk_own Bs 35 (fun (_ : Unit) => seg x.2.1 x.2.2) () X Y row h3 hg (fun r e => (hr r e).2)⟩, h4⟩)
        ?assign2 ?body2 ?done2 ?stop2
      case assign2 =>
        rintro l pre x W2 K ⟨⟨⟨⟨⟨ha2, bR2⟩, bL2⟩, bE2⟩, hK2⟩, hB2⟩ hK
        have hsB := hB2.size
        have hlE := bE2.lt
        have hlD := (Array.getElem?_eq_some_iff.1 hK2).1
        simp only [enc, seg]
        gi_wp2
        exact hK _ _ (((KeepsOthers.alloc _ _).trans (KeepsOthers.alloc _ _)).from _) ⟨((Below.refl _ W2).alloc hsB _).alloc (by simp; omega) _, fun o e => blk_alloc (blk_alloc e _) _⟩
          ⟨⟨⟨⟨⟨ha2, (bR2.alloc _).alloc _⟩, (bL2.alloc _).alloc _⟩, (bE2.alloc _).alloc _⟩, (Below.heap_alloc _ _ _ (by simp; omega)).trans ((Below.heap_alloc _ _ _ hlD).trans hK2)⟩, (hB2.alloc hsB _).alloc (by simp; omega) _⟩
          ⟨W2.heap.size, W2.heap.size + 1, ⟨hlE, by omega⟩, ⟨(Boxed.new W2 3 _).alloc _, by rw [← World.size_alloc W2]; exact World.alloc_heap_new _ _⟩, rfl⟩
      case body2 =>
        rintro l pre x a' W2 hl ⟨r2, hr2⟩ ⟨⟨⟨⟨⟨ha2, bR2⟩, bL2⟩, bE2⟩, hK2⟩, hB2⟩ ⟨Bi, Bs, ⟨hBi, hBs⟩, ⟨bI, bS⟩, rfl⟩ hlt
        obtain ⟨xi, ⟨xa, xb⟩, ⟨xc, xd⟩⟩ := x
        have h1' : 1 ≤ 8 - 1 - 1 := by decide
        have cL := bL2.cell
        gi_wp2_with (first | (refine ⟨trivial, ?_⟩; gi_at_call 56; refine (CallsIn.inRound l (all_in _ _ _ _ _)).mono ?_; rintro e w2 ⟨rfl, rfl⟩))
        have hsB := hB2.size
        have hlE := bE2.lt
        have hlD := (Array.getElem?_eq_some_iff.1 hK2).1
        have bN2 := Boxed.new W2 23 (.slice A0 l0.length c0)
        have hr' : (W2.alloc (.cells #[.slice A0 l0.length c0] 23)).heap[l]? = some (.loop r2) := (Below.heap_alloc W2 _ l (Array.getElem?_eq_some_iff.1 hr2).1).trans hr2
        refine wpIn_rangeFunc_ownN (l₀ := l) (r₀ := r2) rfl hr' (by decide) (gf := 84) (lb := #[.pointer (some ⟨W2.heap.size, 0, none⟩)]) rfl trivial (enters_of Try.func84 (by kernel_rfl) rfl)
          ((all_stops 5 (by decide) W2.heap.size w.heap.size w A0 c0 l0 hr0 (Nat.le_refl _) _ (hB2.alloc hsB _) bN2).inRound l) Kp_t (Kp_b (by simp; omega) (by simp)) (Below.refl _ _) (fun _ => rfl)
          (fun pre' W' => (((((((impl_LoopOk.off3 l0.length (xi, ⟨xa, xb⟩, ⟨xc, xd⟩) pre' ∧ Boxed W' (w.heap.size + 1) 4 (.bool false)) ∧ Boxed W' Bi 3 (.int .i64 (xi : Int))) ∧ W'.heap[Bs]? = some (.cells #[.int .i64 xa, .int .i64 xb, .int .i64 xc, .int .i64 xd] 35 (0, 0))) ∧ Boxed W' w.heap.size 23 (.slice A0 l0.length c0)) ∧ Boxed W' W.heap.size 3 (.int .i64 ((l0.length : Int) - 1))) ∧ W'.heap[D]? = some (.deferred (some []))) ∧ (Kp w.heap.size (W.heap.size + 1) W2 W' ∧ KeepsFrom W3.heap.size W2 W')))
          (fun c pre' W' => ((((c = .ret ∧ impl_LoopOk.hit3 l0.length (xi, ⟨xa, xb⟩, ⟨xc, xd⟩) pre') ∧ Boxed W' (w.heap.size + 1) 4 (.bool false)) ∧ W'.heap[D]? = some (.deferred (some []))) ∧ (Kp w.heap.size (W.heap.size + 1) W2 W' ∧ KeepsFrom W3.heap.size W2 W')))
          (OwnFrom.and (OwnFrom.and (OwnFrom.and (OwnFrom.and (OwnFrom.and (OwnFrom.and (OwnFrom.and (ownFrom_pure _ _) (Own.from (boxed_own _ _ _) _)) (Own.from (boxed_own _ _ _) _)) (Own.from (blk_own _ _ (fun _ => #[.int .i64 xa, .int .i64 xb, .int .i64 xc, .int .i64 xd])) _)) (Own.from (boxed_own _ _ _) _)) (Own.from (boxed_own _ _ _) _)) (old_own (by simp; omega) _)) (OwnFrom.and (Kp_own hsB (by simp; omega) (by simp; omega)) (ownFrom_keepsFrom (by simp))))
          (fun c => OwnFrom.and (OwnFrom.and (OwnFrom.and (ownFrom_pure _ _) (Own.from (boxed_own _ _ _) _)) (old_own (by simp; omega) _)) (OwnFrom.and (Kp_own hsB (by simp; omega) (by simp; omega)) (ownFrom_keepsFrom (by simp))))
          ⟨⟨⟨⟨⟨⟨⟨rfl, bR2.alloc _⟩, bI.alloc _⟩, blk_alloc bS _⟩, bL2.alloc _⟩, bE2.alloc _⟩, (Below.heap_alloc _ _ _ hlD).trans hK2⟩, ⟨(Below.refl _ W2).alloc hsB _, fun o e => blk_alloc e _⟩, (KeepsOthers.alloc _ _).from _⟩
          (fun y a'' W' => ∃ Bt, W'.heap[Bt]? = some (.cells (seg y.2.1 y.2.2) 35 (0, 0)) ∧ a'' = { tmps := #[.slice A0 l0.length c0, .pointer (some ⟨w.heap.size, 0, none⟩), .pointer (some ⟨w.heap.size + 1, 0, none⟩), undef, undef, .pointer (some ⟨W.heap.size, 0, none⟩), .pointer (some ⟨Bi, 0, none⟩), .pointer (some ⟨Bs, 0, none⟩), .int .i64 (y.1 : Int), .pointer (some ⟨Bt, 0, none⟩), undef, .slice A0 l0.length c0, .int .i64 (l0.length : Int), .bool (decide ((l0.length : Int) < 3)), .bool (decide ((l0.length : Int) < 3)), .slice A0 l0.length c0, .int .i64 (l0.length : Int), .bool (decide (8 < (l0.length : Int))), .bool (decide ((l0.length : Int) < 3) || decide (8 < (l0.length : Int))), .slice A0 l0.length c0, .func (.func 84) #[] #[.pointer (some ⟨w.heap.size + 1 + 1, 0, none⟩)], undef, undef, undef, undef, undef, .slice A0 l0.length c0, .int .i64 (l0.length : Int), .int .i64 ((l0.length : Int) - 1), .slice A0 l0.length c0, .func (.func 84) #[] #[.pointer (some ⟨W.heap.size + 1, 0, none⟩)], .int .i64 (xi : Int), .agg (seg ⟨xa, xb⟩ ⟨xc, xd⟩), .slice A0 l0.length c0, .func (.func 84) #[] #[.pointer (some ⟨W2.heap.size, 0, none⟩)], .int .i64 (y.1 : Int), .agg (seg y.2.1 y.2.2), undef, undef, undef, undef, undef, undef, undef, undef, undef, undef, undef, undef, undef, undef, undef, undef, undef, undef, undef, undef, undef, undef, undef, undef, undef, undef, undef, undef, undef], defers := [] })
          (fun y a'' _ X Y row hs hg hr => by obtain ⟨Bt, h2, h3⟩ := hs; exact ⟨Bt, blk_own Bt 35 (fun (_ : Unit) => seg y.2.1 y.2.2) () X Y row h2 hg (fun r e => (hr r e).2), h3⟩)
          ?assign3 ?body3 ?done3 ?stop3
        case assign3 =>
          rintro l2 pre' y W4 K ⟨⟨⟨⟨⟨⟨⟨hr3, bR4⟩, bI4⟩, bS4⟩, bL4⟩, bE4⟩, hK4⟩, hKp4, hKF4⟩ hK
          have hsB4 : w.heap.size ≤ W4.heap.size := Nat.le_trans hsB hKF4.size
          simp only [enc, seg]
          gi_wp2
          exact hK _ _ ((KeepsOthers.alloc _ _).from _) ⟨(Below.refl _ W4).alloc hsB4 _, fun o e => blk_alloc e _⟩
            ⟨⟨⟨⟨⟨⟨⟨hr3, bR4.alloc _⟩, bI4.alloc _⟩, blk_alloc bS4 _⟩, bL4.alloc _⟩, bE4.alloc _⟩, (Below.heap_alloc _ _ _ (Array.getElem?_eq_some_iff.1 hK4).1).trans hK4⟩, Kp_t hKp4 ⟨(Below.refl _ W4).alloc hsB4 _, fun o e => blk_alloc e _⟩, hKF4.trans ((KeepsOthers.alloc _ _).from _)⟩
            ⟨W4.heap.size, World.alloc_heap_new W4 _, rfl⟩
        case body3 =>
          rintro l2 pre' y a'' W4 _ _ ⟨⟨⟨⟨⟨⟨⟨hr3, bR4⟩, bI4⟩, bS4⟩, bL4⟩, bE4⟩, hK4⟩, hKp4, hKF4⟩ ⟨Bt, bT4, rfl⟩ _
          obtain ⟨yi, ⟨ya, yb⟩, ⟨yc, yd⟩⟩ := y
          have hsB4 : w.heap.size ≤ W4.heap.size := Nat.le_trans hsB hKF4.size
          have h2' : 1 ≤ 8 - 1 - 1 - 1 - 1 := by decide
          have cI := bI4.cell
          have cE := bE4.cell
          have cS0 : W4.cell? ⟨Bs, 0, none⟩ = some (.int .i64 xa) := blk_cell bS4 0
          have cS1 : W4.cell? ⟨Bs, 1, none⟩ = some (.int .i64 xb) := blk_cell bS4 1
          have cS2 : W4.cell? ⟨Bs, 2, none⟩ = some (.int .i64 xc) := blk_cell bS4 2
          have cS3 : W4.cell? ⟨Bs, 3, none⟩ = some (.int .i64 xd) := blk_cell bS4 3
          have cT0 : W4.cell? ⟨Bt, 0, none⟩ = some (.int .i64 ya) := blk_cell bT4 0
          have cT1 : W4.cell? ⟨Bt, 1, none⟩ = some (.int .i64 yb) := blk_cell bT4 1
          have cT2 : W4.cell? ⟨Bt, 2, none⟩ = some (.int .i64 yc) := blk_cell bT4 2
          have cT3 : W4.cell? ⟨Bt, 3, none⟩ = some (.int .i64 yd) := blk_cell bT4 3
          obtain ⟨b1, hb1⟩ : ∃ b, impl_joined.f 1 xa xb xc xd ya yb yc yd = some b := ⟨_, OkB.iJoined_tells 0 _ _ _ _ _ _ _ _⟩
          obtain ⟨b2, hb2⟩ : ∃ b, impl_joined.f 1 ya yb yc yd xa xb xc xd = some b := ⟨_, OkB.iJoined_tells 0 _ _ _ _ _ _ _ _⟩
          obtain ⟨b3, hb3⟩ : ∃ b, impl_SegMeet.f 3 xa xb xc xd ya yb yc yd = some b := ⟨_, OkB.iSegMeet_tells 0 _ _ _ _ _ _ _ _⟩
          gi_wp2_with fail
          · exact ⟨KeepsFrom.refl _ _, ⟨Below.refl _ _, fun o e => e⟩, ⟨⟨⟨⟨⟨⟨⟨by unfold impl_LoopOk.off3 at hr3 ⊢; rw [List.all_append, hr3, List.all_cons, List.all_nil, impl_LoopOk.right_le (by assumption)]; rfl, bR4⟩, bI4⟩, bS4⟩, bL4⟩, bE4⟩, hK4⟩, hKp4, hKF4⟩⟩
          · refine ⟨trivial, (CallsIn.inRound l2 (CallsIn.inRound l (callsIn_wide.2 (impl_joined.calls 1 _ _ _ _ _ _ _ _ _ _ hb1)))).mono ?_⟩
            rintro e W5 ⟨rfl, hbc⟩
            have hright : impl_LoopOk.right l0.length (xi, ⟨xa, xb⟩, ⟨xc, xd⟩) (yi, ⟨ya, yb⟩, ⟨yc, yd⟩) = b1 := by
              refine (impl_LoopOk.right_j1 (by assumption) (by assumption)).trans ?_
              exact Option.some.inj ((OkB.iJoined_tells 0 xa xb xc xd ya yb yc yd).symm.trans hb1)
            clear cI cE cS0 cS1 cS2 cS3 cT0 cT1 cT2 cT3
            have hkb : ∀ B, KeepsFrom B W4 W5 := fun B => KeepsFrom.of_grownBy (row := none) ⟨hbc.os, hbc.tape, hbc.output, hbc.size, fun k hk _ => hbc.block k hk⟩ (by simp)
            replace bR4 : Boxed W5 (w.heap.size + 1) 4 _ := (hbc.block _ bR4.lt).trans bR4
            have cR := bR4.cell
            have fR := bR4.frozen
            have hkp : ∀ B, Kp w.heap.size B W4 W5 := fun B => ⟨hbc.mono hsB4, fun o e => blk_below e hbc⟩
            have hD4 : W5.heap[D]? = some (.deferred (some [])) := (hbc.block _ (Array.getElem?_eq_some_iff.1 hK4).1).trans hK4
            have hZ : Below w.heap.size W5 (W5.setCell ⟨w.heap.size + 1, 0, none⟩ (.bool false)) := (Below.refl _ W5).setCell (p := ⟨w.heap.size + 1, 0, none⟩) (by simp) _
            cases b1
            · gi_wp2
              exact ⟨(hkb _).trans ((KeepsOthers.setCell _ _ _).from _), ⟨⟨⟨rfl, by unfold impl_LoopOk.hit3; rw [List.all_append]; simp [hright]⟩, bR4.set _⟩, (Below.heap_setCell _ _ _ _ (by simp; omega)).trans hD4⟩, Kp_t hKp4 (Kp_t (hkp _) ⟨hZ, fun o e => (Below.heap_setCell _ _ _ _ (by simp; omega)).trans e⟩), hKF4.trans ((hkb _).trans ((KeepsOthers.setCell _ _ _).from _))⟩
            · gi_wp2
              exact ⟨hkb _, hkp _, ⟨⟨⟨⟨⟨⟨⟨by unfold impl_LoopOk.off3 at hr3 ⊢; rw [List.all_append, hr3]; simp [hright], bR4⟩, (hbc.block _ bI4.lt).trans bI4⟩, blk_below bS4 hbc⟩, (hbc.block _ bL4.lt).trans bL4⟩, (hbc.block _ bE4.lt).trans bE4⟩, hD4⟩, Kp_t hKp4 (hkp _), hKF4.trans (hkb _)⟩⟩
          · refine ⟨trivial, (CallsIn.inRound l2 (CallsIn.inRound l (callsIn_wide.2 (impl_joined.calls 1 _ _ _ _ _ _ _ _ _ _ hb2)))).mono ?_⟩
            rintro e W5 ⟨rfl, hbc⟩
            have hright : impl_LoopOk.right l0.length (xi, ⟨xa, xb⟩, ⟨xc, xd⟩) (yi, ⟨ya, yb⟩, ⟨yc, yd⟩) = b2 := by
              refine (impl_LoopOk.right_j2 (by assumption) (by assumption) (by assumption) (by assumption)).trans ?_
              exact Option.some.inj ((OkB.iJoined_tells 0 ya yb yc yd xa xb xc xd).symm.trans hb2)
            clear cI cE cS0 cS1 cS2 cS3 cT0 cT1 cT2 cT3
            have hkb : ∀ B, KeepsFrom B W4 W5 := fun B => KeepsFrom.of_grownBy (row := none) ⟨hbc.os, hbc.tape, hbc.output, hbc.size, fun k hk _ => hbc.block k hk⟩ (by simp)
            replace bR4 : Boxed W5 (w.heap.size + 1) 4 _ := (hbc.block _ bR4.lt).trans bR4
            have cR := bR4.cell
            have fR := bR4.frozen
            have hkp : ∀ B, Kp w.heap.size B W4 W5 := fun B => ⟨hbc.mono hsB4, fun o e => blk_below e hbc⟩
            have hD4 : W5.heap[D]? = some (.deferred (some [])) := (hbc.block _ (Array.getElem?_eq_some_iff.1 hK4).1).trans hK4
            have hZ : Below w.heap.size W5 (W5.setCell ⟨w.heap.size + 1, 0, none⟩ (.bool false)) := (Below.refl _ W5).setCell (p := ⟨w.heap.size + 1, 0, none⟩) (by simp) _
            cases b2
            · gi_wp2
              exact ⟨(hkb _).trans ((KeepsOthers.setCell _ _ _).from _), ⟨⟨⟨rfl, by unfold impl_LoopOk.hit3; rw [List.all_append]; simp [hright]⟩, bR4.set _⟩, (Below.heap_setCell _ _ _ _ (by simp; omega)).trans hD4⟩, Kp_t hKp4 (Kp_t (hkp _) ⟨hZ, fun o e => (Below.heap_setCell _ _ _ _ (by simp; omega)).trans e⟩), hKF4.trans ((hkb _).trans ((KeepsOthers.setCell _ _ _).from _))⟩
            · gi_wp2
              exact ⟨hkb _, hkp _, ⟨⟨⟨⟨⟨⟨⟨by unfold impl_LoopOk.off3 at hr3 ⊢; rw [List.all_append, hr3]; simp [hright], bR4⟩, (hbc.block _ bI4.lt).trans bI4⟩, blk_below bS4 hbc⟩, (hbc.block _ bL4.lt).trans bL4⟩, (hbc.block _ bE4.lt).trans bE4⟩, hD4⟩, Kp_t hKp4 (hkp _), hKF4.trans (hkb _)⟩⟩
          · refine ⟨trivial, (CallsIn.inRound l2 (CallsIn.inRound l (callsIn_wide.2 (impl_SegMeet.calls 3 _ _ _ _ _ _ _ _ _ _ hb3)))).mono ?_⟩
            rintro e W5 ⟨rfl, hbc⟩
            have hright : impl_LoopOk.right l0.length (xi, ⟨xa, xb⟩, ⟨xc, xd⟩) (yi, ⟨ya, yb⟩, ⟨yc, yd⟩) = !b3 := by
              refine (impl_LoopOk.right_m1 (by assumption) (by assumption) (by assumption)).trans ?_
              exact congrArg (! ·) (Option.some.inj ((OkB.iSegMeet_tells 0 xa xb xc xd ya yb yc yd).symm.trans hb3))
            clear cI cE cS0 cS1 cS2 cS3 cT0 cT1 cT2 cT3
            have hkb : ∀ B, KeepsFrom B W4 W5 := fun B => KeepsFrom.of_grownBy (row := none) ⟨hbc.os, hbc.tape, hbc.output, hbc.size, fun k hk _ => hbc.block k hk⟩ (by simp)
            replace bR4 : Boxed W5 (w.heap.size + 1) 4 _ := (hbc.block _ bR4.lt).trans bR4
            have cR := bR4.cell
            have fR := bR4.frozen
            have hkp : ∀ B, Kp w.heap.size B W4 W5 := fun B => ⟨hbc.mono hsB4, fun o e => blk_below e hbc⟩
            have hD4 : W5.heap[D]? = some (.deferred (some [])) := (hbc.block _ (Array.getElem?_eq_some_iff.1 hK4).1).trans hK4
            have hZ : Below w.heap.size W5 (W5.setCell ⟨w.heap.size + 1, 0, none⟩ (.bool false)) := (Below.refl _ W5).setCell (p := ⟨w.heap.size + 1, 0, none⟩) (by simp) _
            cases b3
            · gi_wp2
              exact ⟨hkb _, hkp _, ⟨⟨⟨⟨⟨⟨⟨by unfold impl_LoopOk.off3 at hr3 ⊢; rw [List.all_append, hr3]; simp [hright], bR4⟩, (hbc.block _ bI4.lt).trans bI4⟩, blk_below bS4 hbc⟩, (hbc.block _ bL4.lt).trans bL4⟩, (hbc.block _ bE4.lt).trans bE4⟩, hD4⟩, Kp_t hKp4 (hkp _), hKF4.trans (hkb _)⟩⟩
            · gi_wp2
              exact ⟨(hkb _).trans ((KeepsOthers.setCell _ _ _).from _), ⟨⟨⟨rfl, by unfold impl_LoopOk.hit3; rw [List.all_append]; simp [hright]⟩, bR4.set _⟩, (Below.heap_setCell _ _ _ _ (by simp; omega)).trans hD4⟩, Kp_t hKp4 (Kp_t (hkp _) ⟨hZ, fun o e => (Below.heap_setCell _ _ _ _ (by simp; omega)).trans e⟩), hKF4.trans ((hkb _).trans ((KeepsOthers.setCell _ _ _).from _))⟩
          · refine ⟨trivial, (CallsIn.inRound l2 (CallsIn.inRound l (callsIn_wide.2 (impl_SegMeet.calls 3 _ _ _ _ _ _ _ _ _ _ hb3)))).mono ?_⟩
            rintro e W5 ⟨rfl, hbc⟩
            have hright : impl_LoopOk.right l0.length (xi, ⟨xa, xb⟩, ⟨xc, xd⟩) (yi, ⟨ya, yb⟩, ⟨yc, yd⟩) = !b3 := by
              refine (impl_LoopOk.right_m2 (by assumption) (by assumption) (by assumption)).trans ?_
              exact congrArg (! ·) (Option.some.inj ((OkB.iSegMeet_tells 0 xa xb xc xd ya yb yc yd).symm.trans hb3))
            clear cI cE cS0 cS1 cS2 cS3 cT0 cT1 cT2 cT3
            have hkb : ∀ B, KeepsFrom B W4 W5 := fun B => KeepsFrom.of_grownBy (row := none) ⟨hbc.os, hbc.tape, hbc.output, hbc.size, fun k hk _ => hbc.block k hk⟩ (by simp)
            replace bR4 : Boxed W5 (w.heap.size + 1) 4 _ := (hbc.block _ bR4.lt).trans bR4
            have cR := bR4.cell
            have fR := bR4.frozen
            have hkp : ∀ B, Kp w.heap.size B W4 W5 := fun B => ⟨hbc.mono hsB4, fun o e => blk_below e hbc⟩
            have hD4 : W5.heap[D]? = some (.deferred (some [])) := (hbc.block _ (Array.getElem?_eq_some_iff.1 hK4).1).trans hK4
            have hZ : Below w.heap.size W5 (W5.setCell ⟨w.heap.size + 1, 0, none⟩ (.bool false)) := (Below.refl _ W5).setCell (p := ⟨w.heap.size + 1, 0, none⟩) (by simp) _
            cases b3
            · gi_wp2
              exact ⟨hkb _, hkp _, ⟨⟨⟨⟨⟨⟨⟨by unfold impl_LoopOk.off3 at hr3 ⊢; rw [List.all_append, hr3]; simp [hright], bR4⟩, (hbc.block _ bI4.lt).trans bI4⟩, blk_below bS4 hbc⟩, (hbc.block _ bL4.lt).trans bL4⟩, (hbc.block _ bE4.lt).trans bE4⟩, hD4⟩, Kp_t hKp4 (hkp _), hKF4.trans (hkb _)⟩⟩
            · gi_wp2
              exact ⟨(hkb _).trans ((KeepsOthers.setCell _ _ _).from _), ⟨⟨⟨rfl, by unfold impl_LoopOk.hit3; rw [List.all_append]; simp [hright]⟩, bR4.set _⟩, (Below.heap_setCell _ _ _ _ (by simp; omega)).trans hD4⟩, Kp_t hKp4 (Kp_t (hkp _) ⟨hZ, fun o e => (Below.heap_setCell _ _ _ _ (by simp; omega)).trans e⟩), hKF4.trans ((hkb _).trans ((KeepsOthers.setCell _ _ _).from _))⟩
        case done3 =>
          rintro ys' W4 rfl ⟨⟨⟨⟨⟨⟨⟨hr3, bR4⟩, bI4⟩, bS4⟩, bL4⟩, bE4⟩, hK4⟩, hKp4, hKF4⟩
          gi_wp2
          exact ⟨hKF4, hKp4, ⟨⟨⟨⟨⟨by unfold impl_LoopOk.off2 at ha2 ⊢; rw [List.all_append, ha2]; simp [impl_LoopOk.row, show _ = true from hr3], bR4⟩, bL4⟩, bE4⟩, hK4⟩, hB2.trans hKp4.1⟩⟩
        case stop3 =>
          rintro c pre' W4 ⟨k, hk, rfl⟩ ⟨⟨⟨⟨rfl, hr3⟩, bR4⟩, hK4⟩, hKp4, hKF4⟩
          gi_wp2
          exact ⟨hKF4, ⟨⟨⟨rfl, by unfold impl_LoopOk.hit2; rw [List.all_append]; simp [impl_LoopOk.row, all_upto (show _ = false from hr3) hk]⟩, bR4⟩, hK4⟩, hB2.trans hKp4.1⟩
      case done2 =>
        rintro D2 zs W2 hD2 rfl ⟨⟨⟨⟨⟨ha2, bR2⟩, bL2⟩, bE2⟩, hK2⟩, hB2⟩ hKD
        have cR := bR2.cell
        have fR := bR2.frozen
        gi_wp2
        have hq2 := (KeepsOthers.setCell W2 ⟨w.heap.size + 1, 0, none⟩ (.bool true)).same D2 _ hKD rfl
        have hq1 := (KeepsOthers.setCell W2 ⟨w.heap.size + 1, 0, none⟩ (.bool true)).same D _ hK2 rfl
        refine ⟨by simp, .inl ⟨_, _, rfl, run_takeDeferred hq2, ?_⟩⟩
        have hq1' := (World.putObj_heap_other (o := .deferred none) (show D ≠ D2 by omega)).trans hq1
        refine ⟨by simp, .inl ⟨_, _, rfl, run_takeDeferred hq1', ?_⟩⟩
        have hc5 := cell_kept (bR2.set (.bool true)).cell (grownBy_putObj' _ D2 (.deferred none)) (fun r e => by cases e; exact ⟨_, hq2, rfl⟩)
        have hc6 := cell_kept hc5 (grownBy_putObj' _ D (.deferred none)) (fun r e => by cases e; exact ⟨_, hq1', rfl⟩)
        refine ⟨.bool true, ?_, ?_, ((hB2.setCell (p := ⟨w.heap.size + 1, 0, none⟩) (by simp) _).trans (belowK_b (w := w) (Nat.le_refl _) _ D2 _ _ (by omega) hq2 rfl rfl)).trans (belowK_b (w := w) (Nat.le_refl _) _ D _ _ (by omega) hq1' rfl rfl)⟩
        · simp [results, Try.f47, go_sem, hc6]
        · rw [← hres.out, impl_LoopOk.all, show _ = true from ha, show _ = true from ha2, decide_eq_true h3, decide_eq_true h8]; rfl
      case stop2 =>
        rintro D2 c pre W2 hD2 ⟨k, hk, rfl⟩ ⟨⟨⟨⟨rfl, ha2⟩, bR2⟩, hK2⟩, hB2⟩ hKD
        gi_wp2
        refine ⟨by simp, .inl ⟨_, _, rfl, run_takeDeferred hKD, ?_⟩⟩
        have hq1' := (World.putObj_heap_other (o := .deferred none) (show D ≠ D2 by omega)).trans hK2
        refine ⟨by simp, .inl ⟨_, _, rfl, run_takeDeferred hq1', ?_⟩⟩
        have hc5 := cell_kept bR2.cell (grownBy_putObj' _ D2 (.deferred none)) (fun r e => by cases e; exact ⟨_, hKD, rfl⟩)
        have hc6 := cell_kept hc5 (grownBy_putObj' _ D (.deferred none)) (fun r e => by cases e; exact ⟨_, hq1', rfl⟩)
        refine ⟨.bool false, ?_, ?_, (hB2.trans (belowK_b (w := w) (Nat.le_refl _) _ D2 _ _ (by omega) hKD rfl rfl)).trans (belowK_b (w := w) (Nat.le_refl _) _ D _ _ (by omega) hq1' rfl rfl)⟩
        · simp [results, Try.f47, go_sem, hc6]
        · rw [← hres.out, impl_LoopOk.all, all_upto (show _ = false from ha2) hk]; simp
    case stop =>
      rintro D c pre W hD ⟨k, hk, rfl⟩ ⟨⟨⟨rfl, ha⟩, bR1⟩, hB1⟩ hK
      gi_wp2
      refine ⟨by simp, .inl ⟨_, _, rfl, run_takeDeferred hK, ?_⟩⟩
      have hc5 := cell_kept bR1.cell (grownBy_putObj' _ D (.deferred none)) (fun r e => by cases e; exact ⟨_, hK, rfl⟩)
      refine ⟨.bool false, ?_, by rw [← hres.out, impl_LoopOk.all, all_upto ha hk]; simp, hB1.trans (belowK_b (w := w) (Nat.le_refl _) W D _ _ (by omega) hK rfl rfl)⟩
      simp [results, Try.f47, go_sem, hc5]
  · gi_wp2
    all_goals
      refine ⟨.bool false, ?_, ?_, ((Below.refl _ w).alloc (Nat.le_refl _) _).alloc (by simp) _⟩
      · simp [results, Try.f47, go_sem]
      · rw [← hres.out, impl_LoopOk.all]
        congr 2
        by_cases h3 : 3 ≤ l0.length
        · rw [decide_eq_false (show ¬ l0.length ≤ 8 from fun h8 => h38 ⟨h3, h8⟩)]; simp
        · rw [decide_eq_false h3]; rfl
end

end Go.Proofs.Ytehkklmacglelaa.PA
namespace Go.Proofs.Ytehkklmacglelaa.PA
open Go.RowKit Go.Proofs.YtehkklmacglelaaW.PrintWords Go.Proofs.YtehkklmacglelaaW.PrintLast Go.Proofs.YtehkklmacglelaaW.PrintMore
attribute [local go_sem] max2_int min2_int max_two min_two max_three min_three max_four min_four   -- for this text's walks alone
set_option linter.unusedVariables false
set_option linter.unusedSimpArgs false

/-! ### impl_LoopIn: function 14 -/
def impl_LoopIn.f (l0 : List (S25)) (a1_0 : Int) (a1_1 : Int) : Option (Int) := (impl_LoopOk.f l0).bind fun t248 => (if t248 = true then ((impl_PtOk.f a1_0 a1_1).bind fun t249 => (if t249 = true then ((impl_insideOf.f l0 a1_0 a1_1).bind fun t250 => (some t250)) else (some (-1)))) else (some (-1)))
set_option maxHeartbeats 8000000 in
set_option maxRecDepth 100000 in
theorem impl_LoopIn.calls (A0 : Option Addr) (c0 : Nat) (l0 : List (S25)) (a1_0 : Int) (a1_1 : Int) (r : Int) (w : World) (hr0 : Kd.C k25 w A0 l0.length l0) (hc0 : l0.length ≤ c0) (h : impl_LoopIn.f l0 a1_0 a1_1 = some r) :
  Calls Try.prog 14 #[.slice A0 l0.length c0, .agg #[.int .i64 a1_0, .int .i64 a1_1]] w fun e w' => e = .returned (.int .i64 r) ∧ Below w.heap.size w w' := by
 have hu25 := Try.underlying25; have HR0 := A_ hr0; have HC0 := A_ hc0; clear hr0 hc0; have HB := A_ (Below.refl w.heap.size w); have H : ((impl_LoopOk.f l0).bind fun t248 => (if t248 = true then ((impl_PtOk.f a1_0 a1_1).bind fun t249 => (if t249 = true then ((impl_insideOf.f l0 a1_0 a1_1).bind fun t250 => (some t250)) else (some (-1)))) else (some (-1)))) = some r := h; clear h; replace H := Option.bind_eq_some_iff.mp H; obtain ⟨t248, A30, H⟩ := H; (try dsimp only at H); have A3 := A_ A30; clear A30; by_cases c4 : t248 = true
 ·subst c4; have H1 : ((impl_PtOk.f a1_0 a1_1).bind fun t249 => (if t249 = true then ((impl_insideOf.f l0 a1_0 a1_1).bind fun t250 => (some t250)) else (some (-1)))) = some r := by rw [if_pos rfl] at H; exact H
  clear H; have H := H1; clear H1; replace H := Option.bind_eq_some_iff.mp H; obtain ⟨t249, A50, H⟩ := H; (try dsimp only at H); have A5 := A_ A50; clear A50; by_cases c6 : t249 = true
  ·subst c6; have H1 : ((impl_insideOf.f l0 a1_0 a1_1).bind fun t250 => (some t250)) = some r := by rw [if_pos rfl] at H; exact H
   clear H; have H := H1; clear H1; replace H := Option.bind_eq_some_iff.mp H; obtain ⟨t250, A70, H⟩ := H; (try dsimp only at H); have A7 := A_ A70; clear A70; obtain rfl := Option.some.inj H; go_enter Try.func14, Try.ntmps14
   go_wp2_with (first | ((with_reducible refine gate_dst (N := 3) rfl ?_); refine box_event ?hg (N := 3) ?hd (cs := #[.int .i64 a1_0, .int .i64 a1_1]) (t := 25) ?hr ?_; (case hd => rfl); (case hg => rfl); (case hr => first | (go_simp; done) | (go_simp; rfl)); intro gb247 hg w8 hbox hb; have n0_ := sb_ hb; have n1_ := A_ (hbox); have n2_ := lB_ hg; have n3_ := lB_ hg; clear HB; have HB := n0_; have BK247 := n1_; have GW247 := n2_; have GE247 := n3_; clear n0_ n1_ n2_ n3_; clear hb hbox hg) | ((with_reducible refine gate_callee (f := 47) rfl ?_); refine goesL_ (some 6) rfl rfl Try.func47 (by kernel_rfl) rfl #[.slice A0 l0.length c0] rfl ga_ ?_; (with_reducible refine (impl_LoopOk.calls _ _ l0 true _ ?side1 ?side2 A3.out).mono ?_); (case side1 => exact pC_ (Kd.C_below HR0.out HB.out)); (case side2 => exact HC0.out); rintro e w9 ⟨rfl, hb⟩; refine ⟨_, rfl, ?_⟩; have n0_ := bw_ BK247.out hb; have n1_ := sb_ hb; clear BK247 HB; revert n0_ n1_; intro BK247 HB; (try clear hb); obtain ⟨hcz10_0, hcz10_1, hfz10_0, hfz10_1⟩ := by2 BK247.out) | (go_at_call 48; (with_reducible refine (impl_PtOk.calls a1_0 a1_1 true _ A5.out).mono ?_); rintro e w11 ⟨rfl, hb⟩; have n0_ := bw_ BK247.out hb; have n1_ := sb_ hb; clear BK247 HB; revert n0_ n1_; intro BK247 HB; (try clear hb); obtain ⟨hcz12_0, hcz12_1, hfz12_0, hfz12_1⟩ := by2 BK247.out) | ((with_reducible refine gate_callee (f := 49) rfl ?_); refine goesL_ (some 15) rfl rfl Try.func49 (by kernel_rfl) rfl #[.slice A0 l0.length c0, .agg #[.int .i64 a1_0, .int .i64 a1_1]] rfl ga_ ?_; (with_reducible refine (impl_insideOf.calls _ _ l0 a1_0 a1_1 t250 _ ?side1 ?side2 A7.out).mono ?_); (case side1 => exact pC_ (Kd.C_below HR0.out HB.out)); (case side2 => exact HC0.out); rintro e w13 ⟨rfl, hb⟩; refine ⟨_, rfl, ?_⟩; have n0_ := bw_ BK247.out hb; have n1_ := sb_ hb; clear BK247 HB; revert n0_ n1_; intro BK247 HB; (try clear hb); (try clear hi)))
   go_ret
   exact ⟨by first | rfl | (simp [errW_none, errW_some] <;> rfl) | (simp [*, errW_none, errW_some] <;> rfl), hB_⟩
  ·replace c6 := Bool.eq_false_iff.mpr c6; subst c6; have H1 : (some (-1)) = some r := by rw [if_neg (show ¬ (false = true) by decide)] at H; exact H
   clear H; have H := H1; clear H1; obtain rfl := Option.some.inj H; go_enter Try.func14, Try.ntmps14
   go_wp2_with (first | ((with_reducible refine gate_dst (N := 3) rfl ?_); refine box_event ?hg (N := 3) ?hd (cs := #[.int .i64 a1_0, .int .i64 a1_1]) (t := 25) ?hr ?_; (case hd => rfl); (case hg => rfl); (case hr => first | (go_simp; done) | (go_simp; rfl)); intro gb247 hg w14 hbox hb; have n0_ := sb_ hb; have n1_ := A_ (hbox); have n2_ := lB_ hg; have n3_ := lB_ hg; clear HB; have HB := n0_; have BK247 := n1_; have GW247 := n2_; have GE247 := n3_; clear n0_ n1_ n2_ n3_; clear hb hbox hg) | ((with_reducible refine gate_callee (f := 47) rfl ?_); refine goesL_ (some 6) rfl rfl Try.func47 (by kernel_rfl) rfl #[.slice A0 l0.length c0] rfl ga_ ?_; (with_reducible refine (impl_LoopOk.calls _ _ l0 true _ ?side1 ?side2 A3.out).mono ?_); (case side1 => exact pC_ (Kd.C_below HR0.out HB.out)); (case side2 => exact HC0.out); rintro e w15 ⟨rfl, hb⟩; refine ⟨_, rfl, ?_⟩; have n0_ := bw_ BK247.out hb; have n1_ := sb_ hb; clear BK247 HB; revert n0_ n1_; intro BK247 HB; (try clear hb); obtain ⟨hcz16_0, hcz16_1, hfz16_0, hfz16_1⟩ := by2 BK247.out) | (go_at_call 48; (with_reducible refine (impl_PtOk.calls a1_0 a1_1 false _ A5.out).mono ?_); rintro e w17 ⟨rfl, hb⟩; have n0_ := bw_ BK247.out hb; have n1_ := sb_ hb; clear BK247 HB; revert n0_ n1_; intro BK247 HB; (try clear hb); (try clear hi)))
   go_ret
   exact ⟨by first | rfl | (simp [errW_none, errW_some] <;> rfl) | (simp [*, errW_none, errW_some] <;> rfl), hB_⟩
 ·replace c4 := Bool.eq_false_iff.mpr c4; subst c4; have H1 : (some (-1)) = some r := by rw [if_neg (show ¬ (false = true) by decide)] at H; exact H
  clear H; have H := H1; clear H1; obtain rfl := Option.some.inj H; go_enter Try.func14, Try.ntmps14
  go_wp2_with (first | ((with_reducible refine gate_dst (N := 3) rfl ?_); refine box_event ?hg (N := 3) ?hd (cs := #[.int .i64 a1_0, .int .i64 a1_1]) (t := 25) ?hr ?_; (case hd => rfl); (case hg => rfl); (case hr => first | (go_simp; done) | (go_simp; rfl)); intro gb247 hg w18 hbox hb; have n0_ := sb_ hb; have n1_ := A_ (hbox); have n2_ := lB_ hg; have n3_ := lB_ hg; clear HB; have HB := n0_; have BK247 := n1_; have GW247 := n2_; have GE247 := n3_; clear n0_ n1_ n2_ n3_; clear hb hbox hg) | ((with_reducible refine gate_callee (f := 47) rfl ?_); refine goesL_ (some 6) rfl rfl Try.func47 (by kernel_rfl) rfl #[.slice A0 l0.length c0] rfl ga_ ?_; (with_reducible refine (impl_LoopOk.calls _ _ l0 false _ ?side1 ?side2 A3.out).mono ?_); (case side1 => exact pC_ (Kd.C_below HR0.out HB.out)); (case side2 => exact HC0.out); rintro e w19 ⟨rfl, hb⟩; refine ⟨_, rfl, ?_⟩; have n0_ := bw_ BK247.out hb; have n1_ := sb_ hb; clear BK247 HB; revert n0_ n1_; intro BK247 HB; (try clear hb); (try clear hi)))
  go_ret
  exact ⟨by first | rfl | (simp [errW_none, errW_some] <;> rfl) | (simp [*, errW_none, errW_some] <;> rfl), hB_⟩

end Go.Proofs.Ytehkklmacglelaa.PA
namespace Go.Proofs.Ytehkklmacglelaa.PA
open Go.RowKit Go.Proofs.YtehkklmacglelaaW.PrintWords Go.Proofs.YtehkklmacglelaaW.PrintLast Go.Proofs.YtehkklmacglelaaW.PrintMore
attribute [local go_sem] max2_int min2_int max_two min_two max_three min_three max_four min_four   -- for this text's walks alone
set_option linter.unusedVariables false
set_option linter.unusedSimpArgs false

attribute [local go_sem high] eqA25
/-! ### spec_SegOk: function 53 -/
def spec_SegOk.f (a0_0 : Int) (a0_1 : Int) (a0_2 : Int) (a0_3 : Int) : Option (Bool) := (spec_PtOk.f a0_0 a0_1).bind fun t263 => (if t263 = true then ((spec_PtOk.f a0_2 a0_3).bind fun t264 => (if t264 = true then (some (!(a0_0 == a0_2) || (!(a0_1 == a0_3)))) else (some false))) else (some false))
set_option maxHeartbeats 8000000 in
set_option maxRecDepth 100000 in
theorem spec_SegOk.calls (a0_0 : Int) (a0_1 : Int) (a0_2 : Int) (a0_3 : Int) (r : Bool) (w : World) (h : spec_SegOk.f a0_0 a0_1 a0_2 a0_3 = some r) :
  Calls Try.prog 53 #[.agg #[.int .i64 a0_0, .int .i64 a0_1, .int .i64 a0_2, .int .i64 a0_3]] w fun e w' => e = .returned (.bool r) ∧ Below w.heap.size w w' := by
 have hu35 := Try.underlying35; have hu25 := Try.underlying25; have HB := A_ (Below.refl w.heap.size w); have H : ((spec_PtOk.f a0_0 a0_1).bind fun t263 => (if t263 = true then ((spec_PtOk.f a0_2 a0_3).bind fun t264 => (if t264 = true then (some (!(a0_0 == a0_2) || (!(a0_1 == a0_3)))) else (some false))) else (some false))) = some r := h; clear h; replace H := Option.bind_eq_some_iff.mp H; obtain ⟨t263, A20, H⟩ := H; (try dsimp only at H); have A2 := A_ A20; clear A20; by_cases c3 : t263 = true
 ·subst c3; have H1 : ((spec_PtOk.f a0_2 a0_3).bind fun t264 => (if t264 = true then (some (!(a0_0 == a0_2) || (!(a0_1 == a0_3)))) else (some false))) = some r := by rw [if_pos rfl] at H; exact H
  clear H; have H := H1; clear H1; replace H := Option.bind_eq_some_iff.mp H; obtain ⟨t264, A40, H⟩ := H; (try dsimp only at H); have A4 := A_ A40; clear A40; by_cases c5 : t264 = true
  ·subst c5; have H1 : (some (!(a0_0 == a0_2) || (!(a0_1 == a0_3)))) = some r := by rw [if_pos rfl] at H; exact H
   clear H; have H := H1; clear H1; obtain rfl := Option.some.inj H; go_enter Try.func53, Try.ntmps53
   go_wp2_with (first | ((with_reducible refine gate_dst (N := 1) rfl ?_); refine box_event ?hg (N := 1) ?hd (cs := #[.int .i64 a0_0, .int .i64 a0_1, .int .i64 a0_2, .int .i64 a0_3]) (t := 35) ?hr ?_; (case hd => rfl); (case hg => rfl); (case hr => first | (go_simp; done) | (go_simp; rfl)); intro gb262 hg w6 hbox hb; have n0_ := sb_ hb; have n1_ := A_ (hbox); have n2_ := lB_ hg; have n3_ := lB_ hg; clear HB; have HB := n0_; have BK262 := n1_; have GW262 := n2_; have GE262 := n3_; clear n0_ n1_ n2_ n3_; clear hb hbox hg; obtain ⟨hcz7_0, hcz7_1, hcz7_2, hcz7_3, hfz7_0, hfz7_1, hfz7_2, hfz7_3⟩ := by4 BK262.out) | ((with_reducible refine gate_callee (f := 17) rfl ?_); refine goesL_ (some 5) rfl rfl Try.func17 (by kernel_rfl) rfl #[.agg #[.int .i64 a0_0, .int .i64 a0_1]] rfl ga_ ?_; (with_reducible refine (spec_PtOk.calls a0_0 a0_1 true _ A2.out).mono ?_); rintro e w8 ⟨rfl, hb⟩; refine ⟨_, rfl, ?_⟩; have n0_ := bw_ BK262.out hb; have n1_ := sb_ hb; clear BK262 HB; revert n0_ n1_; intro BK262 HB; (try clear hb); obtain ⟨hcz9_0, hcz9_1, hcz9_2, hcz9_3, hfz9_0, hfz9_1, hfz9_2, hfz9_3⟩ := by4 BK262.out) | (go_at_call 17; (with_reducible refine (spec_PtOk.calls a0_2 a0_3 true _ A4.out).mono ?_); rintro e w10 ⟨rfl, hb⟩; have n0_ := bw_ BK262.out hb; have n1_ := sb_ hb; clear BK262 HB; revert n0_ n1_; intro BK262 HB; (try clear hb); obtain ⟨hcz11_0, hcz11_1, hcz11_2, hcz11_3, hfz11_0, hfz11_1, hfz11_2, hfz11_3⟩ := by4 BK262.out))
   go_ret
   exact ⟨by first | rfl | (simp [errW_none, errW_some] <;> rfl) | (simp [*, errW_none, errW_some] <;> rfl), hB_⟩
  ·replace c5 := Bool.eq_false_iff.mpr c5; subst c5; have H1 : (some false) = some r := by rw [if_neg (show ¬ (false = true) by decide)] at H; exact H
   clear H; have H := H1; clear H1; obtain rfl := Option.some.inj H; go_enter Try.func53, Try.ntmps53
   go_wp2_with (first | ((with_reducible refine gate_dst (N := 1) rfl ?_); refine box_event ?hg (N := 1) ?hd (cs := #[.int .i64 a0_0, .int .i64 a0_1, .int .i64 a0_2, .int .i64 a0_3]) (t := 35) ?hr ?_; (case hd => rfl); (case hg => rfl); (case hr => first | (go_simp; done) | (go_simp; rfl)); intro gb262 hg w12 hbox hb; have n0_ := sb_ hb; have n1_ := A_ (hbox); have n2_ := lB_ hg; have n3_ := lB_ hg; clear HB; have HB := n0_; have BK262 := n1_; have GW262 := n2_; have GE262 := n3_; clear n0_ n1_ n2_ n3_; clear hb hbox hg; obtain ⟨hcz13_0, hcz13_1, hcz13_2, hcz13_3, hfz13_0, hfz13_1, hfz13_2, hfz13_3⟩ := by4 BK262.out) | ((with_reducible refine gate_callee (f := 17) rfl ?_); refine goesL_ (some 5) rfl rfl Try.func17 (by kernel_rfl) rfl #[.agg #[.int .i64 a0_0, .int .i64 a0_1]] rfl ga_ ?_; (with_reducible refine (spec_PtOk.calls a0_0 a0_1 true _ A2.out).mono ?_); rintro e w14 ⟨rfl, hb⟩; refine ⟨_, rfl, ?_⟩; have n0_ := bw_ BK262.out hb; have n1_ := sb_ hb; clear BK262 HB; revert n0_ n1_; intro BK262 HB; (try clear hb); obtain ⟨hcz15_0, hcz15_1, hcz15_2, hcz15_3, hfz15_0, hfz15_1, hfz15_2, hfz15_3⟩ := by4 BK262.out) | (go_at_call 17; (with_reducible refine (spec_PtOk.calls a0_2 a0_3 false _ A4.out).mono ?_); rintro e w16 ⟨rfl, hb⟩; have n0_ := bw_ BK262.out hb; have n1_ := sb_ hb; clear BK262 HB; revert n0_ n1_; intro BK262 HB; (try clear hb); (try clear hi)))
   go_ret
   exact ⟨by first | rfl | (simp [errW_none, errW_some] <;> rfl) | (simp [*, errW_none, errW_some] <;> rfl), hB_⟩
 ·replace c3 := Bool.eq_false_iff.mpr c3; subst c3; have H1 : (some false) = some r := by rw [if_neg (show ¬ (false = true) by decide)] at H; exact H
  clear H; have H := H1; clear H1; obtain rfl := Option.some.inj H; go_enter Try.func53, Try.ntmps53
  go_wp2_with (first | ((with_reducible refine gate_dst (N := 1) rfl ?_); refine box_event ?hg (N := 1) ?hd (cs := #[.int .i64 a0_0, .int .i64 a0_1, .int .i64 a0_2, .int .i64 a0_3]) (t := 35) ?hr ?_; (case hd => rfl); (case hg => rfl); (case hr => first | (go_simp; done) | (go_simp; rfl)); intro gb262 hg w17 hbox hb; have n0_ := sb_ hb; have n1_ := A_ (hbox); have n2_ := lB_ hg; have n3_ := lB_ hg; clear HB; have HB := n0_; have BK262 := n1_; have GW262 := n2_; have GE262 := n3_; clear n0_ n1_ n2_ n3_; clear hb hbox hg; obtain ⟨hcz18_0, hcz18_1, hcz18_2, hcz18_3, hfz18_0, hfz18_1, hfz18_2, hfz18_3⟩ := by4 BK262.out) | ((with_reducible refine gate_callee (f := 17) rfl ?_); refine goesL_ (some 5) rfl rfl Try.func17 (by kernel_rfl) rfl #[.agg #[.int .i64 a0_0, .int .i64 a0_1]] rfl ga_ ?_; (with_reducible refine (spec_PtOk.calls a0_0 a0_1 false _ A2.out).mono ?_); rintro e w19 ⟨rfl, hb⟩; refine ⟨_, rfl, ?_⟩; have n0_ := bw_ BK262.out hb; have n1_ := sb_ hb; clear BK262 HB; revert n0_ n1_; intro BK262 HB; (try clear hb); (try clear hi)))
  go_ret
  exact ⟨by first | rfl | (simp [errW_none, errW_some] <;> rfl) | (simp [*, errW_none, errW_some] <;> rfl), hB_⟩

end Go.Proofs.Ytehkklmacglelaa.PA
namespace Go.Proofs.Ytehkklmacglelaa.PA
open Go.RowKit Go.Proofs.YtehkklmacglelaaW.PrintWords Go.Proofs.YtehkklmacglelaaW.PrintLast Go.Proofs.YtehkklmacglelaaW.PrintMore
attribute [local go_sem] max2_int min2_int max_two min_two max_three min_three max_four min_four   -- for this text's walks alone
set_option linter.unusedVariables false
set_option linter.unusedSimpArgs false

/-! ### spec_l3Edges: function 52 -/
def spec_l3Edges.l0 : Nat → List (S25) → List (S35) → Int → Option ((List (S35)))
 | 0, _, _, _ => none
 | k + 1, x0, x3, x4 => if x4 < (x0.length : Int) then (if 0 ≤ x4 then (if (x0.length : Int) = 0 then (none) else (if 0 ≤ (Int.tmod (wrap64 (x4 + 1)) (x0.length : Int)) then (if (Int.tmod (wrap64 (x4 + 1)) (x0.length : Int)) < (x0.length : Int) then (if x3.length < 4398046511104 then (spec_l3Edges.l0 k x0 (x3 ++ [(⟨(⟨(rd_T25 x0 x4).f0, (rd_T25 x0 x4).f1⟩ : S25), (⟨(rd_T25 x0 (Int.tmod (wrap64 (x4 + 1)) (x0.length : Int))).f0, (rd_T25 x0 (Int.tmod (wrap64 (x4 + 1)) (x0.length : Int))).f1⟩ : S25)⟩ : S35)]) (wrap64 (x4 + 1))) else (none)) else (none)) else (none))) else (none)) else (some x3)
def spec_l3Edges.f (k : Nat) (l0 : List (S25)) : Option ((List (S35))) := spec_l3Edges.l0 k l0 (([] : List (S35))) 0
theorem spec_l3Edges.mono_l : ∀ k, (∀ y0 y1 y2, LeO (spec_l3Edges.l0 k y0 y1 y2) (spec_l3Edges.l0 (k + 1) y0 y1 y2))
 | 0 => fun _ _ _ r h => by simp [spec_l3Edges.l0] at h
 | k + 1 => by
  have ih0 := spec_l3Edges.mono_l k
  ·intro y0 y1 y2; unfold spec_l3Edges.l0; repeat' first
   | (with_reducible exact ih0 _ _ _)
   | (with_reducible exact LeO.refl _)
   | (with_reducible exact LeO.none _)
   | (with_reducible refine LeO.ite ?_ ?_)
   | (with_reducible refine LeO.bind ?_ (fun _ => ?_))
   | exact ih0 _ _ _
   | exact LeO.none _
   | refine LeO.ite ?_ ?_
   | refine LeO.bind ?_ (fun _ => ?_)
theorem spec_l3Edges.mono : ∀ a0 k, LeO (spec_l3Edges.f k a0) (spec_l3Edges.f (k + 1) a0) := by
 intro a0 k; have ih0 := spec_l3Edges.mono_l k; unfold spec_l3Edges.f; repeat' first
   | (with_reducible exact ih0 _ _ _)
   | (with_reducible exact LeO.refl _)
   | (with_reducible exact LeO.none _)
   | (with_reducible refine LeO.ite ?_ ?_)
   | (with_reducible refine LeO.bind ?_ (fun _ => ?_))
   | exact ih0 _ _ _
   | exact LeO.none _
   | refine LeO.ite ?_ ?_
   | refine LeO.bind ?_ (fun _ => ?_)
def spec_l3Edges.T5 : Bool × List (List Nat × List Nat) := (true, [([], []), ([], []), ([], []), ([1, 2], [1, 2]), ([3], [3]), ([], []), ([], []), ([6], [6]), ([], []), ([8], [8]), ([7, 9], [7, 9]), ([5, 10], [5, 10]), ([11], [11]), ([4, 12], [4, 12]), ([13], [13]), ([0, 14], [0, 14]), ([15, 15, 0, 1, 2, 3, 4, 5, 6, 7, 8, 9, 10, 11, 12, 13, 14, 15], [0, 15])])
def spec_l3Edges.B5 : List Nat := [0, 0, 0, 6, 14, 0, 0, 64, 0, 256, 960, 2016, 4064, 8190, 16382, 32767, 65535]
theorem spec_l3Edges.tab5 : rtab .any (opsOf Try.f52 5) = spec_l3Edges.T5 := by kernel_rfl
theorem spec_l3Edges.bits5 : waitsOk spec_l3Edges.T5.2 spec_l3Edges.B5 = true := by kernel_rfl
set_option maxHeartbeats 8000000 in
set_option maxRecDepth 100000 in
theorem spec_l3Edges.calls (k : Nat) (A0 : Option Addr) (c0 : Nat) (l0 : List (S25)) (r : List (S35)) (w : World) (hr0 : Kd.C k25 w A0 l0.length l0) (hc0 : l0.length ≤ c0) (h : spec_l3Edges.f k l0 = some r) :
  Calls Try.prog 52 #[.slice A0 l0.length c0] w fun e w' => ∃ v0_ : Value, e = .returned (v0_) ∧ Kd.R k35 35 w' w.heap.size (fun _ => True) v0_ r ∧ Below w.heap.size w w' := by
 have hu25 := Try.underlying25; have hu35 := Try.underlying35; have HR0 := A_ hr0; have HC0 := A_ hc0; clear hr0 hc0; have HB := A_ (Below.refl w.heap.size w); have H : (spec_l3Edges.l0 k l0 (([] : List (S35))) 0) = some r := h; clear h; obtain ⟨y251, hy251⟩ : ∃ y_ : List (S35), y_ = (([] : List (S35))) := ⟨_, rfl⟩; replace H : (spec_l3Edges.l0 k l0 y251 0) = some r := by first | (rw [hy251]; with_reducible exact H) | (have H2_ := (Option.bind_some _ _).symm.trans H; rw [hy251]; with_reducible exact H2_) | (have H2_ := (Option.bind_some _ _).symm.trans H; with_reducible exact H2_) | with_reducible exact H | (rw [hy251]; exact H) | exact H
 have Ny251 := A_ hy251; clear hy251; have H' := A_ H; clear H; go_enter Try.func52, Try.ntmps52
 go_wp2_with (first | ((with_reducible refine gate_dst (N := 5) rfl ?_); refine Kd.R_lit k35 _ 35 ?hg (N := 5) ?hd (xs := ([] : List (S35))) (inner := []) (ok := fun _ => True) (okp := fun _ => True) ?hr ?hp (fun _ hk => hk) trivial (Below.refl _ _) (Nat.le_refl _) (by simp) ?_; (case hd => rfl); (case hg => rfl); (case hr => first | (go_simp; done) | (go_simp; rfl)); (case hp => exact (Reps.none _ _)); intro v252 w2 ho3 hb hg_ hnew_; clear hg_ hnew_; (first | rw [← Ny251.out] at ho3 | (simp only [Int.reduceToNat] at ho3; rw [← Ny251.out] at ho3)); have n0_ := A_ (Kd.R_lower ho3 (below_size hB_)); have n1_ := sb_ hb; clear HB; have HO253 := n0_; have HB := n1_; clear n0_ n1_; clear hb ho3))
 go_loopg [3, 4] k (fun kq v3 v4 w' => ∃ (x3_1 : List (S35)) (x4_1 : Int), v4 = .int .i64 x4_1 ∧ Aside0 (spec_l3Edges.l0 kq l0 x3_1 x4_1 = some r) ∧ Aside0 (kq ≤ k) ∧ Aside0 (Kd.R k35 35 w' w.heap.size (fun _ => True) v3 x3_1) ∧ Aside0 (Below w.heap.size w w'))
 case atStart => exact ⟨(y251), (0), (by first | rfl | (simp; done) | (simp [*]; done)), H', ⟨Nat.le_refl _⟩, ⟨by (with_reducible repeat (first | apply Kd.R_alloc | apply Kd.R_drewN | apply Kd.R_drew)); exact HO253.out⟩, ⟨hB_⟩⟩
 case round =>
  clear H'; try clear p2
  obtain ⟨x3_1, x4_1, rfl, HA, HK1, HO_3, HB⟩ := hrel; cases gk with
  | zero => exact absurd HA.out (by simp [spec_l3Edges.l0])
  | succ k1 =>
   have H := HA.out; clear HA; simp only [spec_l3Edges.l0] at H; by_cases c4 : x4_1 < (l0.length : Int)
   ·rw [if_pos c4] at H; have c4b0 : decide (x4_1 < (l0.length : Int)) = true := decide_eq_true c4; clear c4; by_cases c5 : 0 ≤ x4_1
    ·rw [if_pos c5] at H; have c5b0 : decide (0 ≤ x4_1) = true := decide_eq_true c5; clear c5; by_cases c6 : (l0.length : Int) = 0
     ·rw [if_pos c6] at H; exact absurd H (by simp)
     ·rw [if_neg c6] at H; have c6b0 : ((l0.length : Int) == 0) = false := beq_eq_false_iff_ne.mpr c6; have c6b1 : ((l0.length : Int) != 0) = true := bne_iff_ne.mpr c6; have c6b2 : ¬ (l0 = []) := fun h_ => c6 (by rw [h_]; rfl)
      obtain ⟨ji7, hji7⟩ : ∃ j_ : Int, (Int.tmod (wrap64 (x4_1 + 1)) (l0.length : Int)) = j_ := ⟨_, rfl⟩; replace H : (if 0 ≤ (ji7) then (if (ji7) < (l0.length : Int) then (if x3_1.length < 4398046511104 then (spec_l3Edges.l0 k1 l0 (x3_1 ++ [(⟨(⟨(rd_T25 l0 x4_1).f0, (rd_T25 l0 x4_1).f1⟩ : S25), (⟨(rd_T25 l0 (ji7)).f0, (rd_T25 l0 (ji7)).f1⟩ : S25)⟩ : S35)]) (wrap64 (x4_1 + 1))) else (none)) else (none)) else (none)) = some r := by first | (rw [hji7] at H; exact H) | (simp only [hji7] at H ⊢; exact H)
      by_cases c8 : 0 ≤ (ji7)
      ·rw [if_pos c8] at H; have c8b0 : decide (0 ≤ (ji7)) = true := decide_eq_true c8; clear c8; by_cases c9 : (ji7) < (l0.length : Int)
       ·rw [if_pos c9] at H; have c9b0 : decide ((ji7) < (l0.length : Int)) = true := decide_eq_true c9; clear c9; by_cases c10 : x3_1.length < 4398046511104
        ·rw [if_pos c10] at H; have LMc10 := A_ c10; clear c10; obtain ⟨y256, hy256⟩ : ∃ y_ : List (S35), y_ = (x3_1 ++ [(⟨(⟨(rd_T25 l0 x4_1).f0, (rd_T25 l0 x4_1).f1⟩ : S25), (⟨(rd_T25 l0 (ji7)).f0, (rd_T25 l0 (ji7)).f1⟩ : S25)⟩ : S35)]) := ⟨_, rfl⟩; replace H : (spec_l3Edges.l0 k1 l0 y256 (wrap64 (x4_1 + 1))) = some r := by first | (rw [hy256]; with_reducible exact H) | (have H2_ := (Option.bind_some _ _).symm.trans H; rw [hy256]; with_reducible exact H2_) | (have H2_ := (Option.bind_some _ _).symm.trans H; with_reducible exact H2_) | with_reducible exact H | (rw [hy256]; exact H) | exact H
         have Ny256 := A_ hy256; clear hy256; have H' := A_ H; clear H; try go_wp2
         have n0_ := A_ (Kd.R_drew HO_3.out); have n1_ := A_ (below_drew1 HB.out); clear HO_3 HB; revert n0_ n1_; intro HO_3 HB; have p254 : 0 ≤ (x4_1 : Int) := of_decide_eq_true (by first | (with_reducible assumption) | assumption); have q254 : x4_1 < (l0.length : Int) := of_decide_eq_true (by first | (with_reducible assumption) | assumption); obtain ⟨ad254, e254, hx254_0, hx254_1⟩ := at_T25 HR0.out x4_1 p254 q254; have hw254_1 := hx254_1; have hw254_0 := hx254_0; cases e254; replace hx254_0 := (HB.out.cell (World.block_lt_of_cell? w _ hx254_0)).trans hx254_0; replace hx254_1 := (HB.out.cell (World.block_lt_of_cell? w _ hx254_1)).trans hx254_1; replace p254 := eq_true p254; replace q254 := eq_true q254; have p255 : 0 ≤ ((ji7) : Int) := of_decide_eq_true (by first | (with_reducible assumption) | assumption); have q255 : (ji7) < (l0.length : Int) := of_decide_eq_true (by first | (with_reducible assumption) | assumption); obtain ⟨ad255, e255, hx255_0, hx255_1⟩ := at_T25 HR0.out (ji7) p255 q255; have hw255_1 := hx255_1; have hw255_0 := hx255_0; obtain rfl : ad254 = ad255 := (by injection e255); replace hx255_0 := (HB.out.cell (World.block_lt_of_cell? w _ hx255_0)).trans hx255_0; replace hx255_1 := (HB.out.cell (World.block_lt_of_cell? w _ hx255_1)).trans hx255_1; replace p255 := eq_true p255; replace q255 := eq_true q255; refine start_ (n := 17) (S := fun w' => w'.cell? (ad254.add ((x4_1).toNat * 2)) = some (.int .i64 ((rd_T25 l0 x4_1).f0)) ∧ w'.cell? ⟨(ad254.add ((x4_1).toNat * 2)).block, (ad254.add ((x4_1).toNat * 2)).off + 1, none⟩ = some (.int .i64 ((rd_T25 l0 x4_1).f1)) ∧ w'.cell? (ad254.add (((ji7)).toNat * 2)) = some (.int .i64 ((rd_T25 l0 (ji7)).f0)) ∧ w'.cell? ⟨(ad254.add (((ji7)).toNat * 2)).block, (ad254.add (((ji7)).toNat * 2)).off + 1, none⟩ = some (.int .i64 ((rd_T25 l0 (ji7)).f1))) (ds := []) #[false, false, false, false, false, false, false, false, false, false, false, false, false, false, false, false, false] (by kernel_rfl) rfl rfl ⟨((HB.out.cell (World.block_lt_of_cell? w _ hw254_0)).trans hw254_0), ((HB.out.cell (World.block_lt_of_cell? w _ hw254_1)).trans hw254_1), ((HB.out.cell (World.block_lt_of_cell? w _ hw255_0)).trans hw255_0), ((HB.out.cell (World.block_lt_of_cell? w _ hw255_1)).trans hw255_1)⟩ (fun hHeld => ?_); refine with_tabW spec_l3Edges.tab5 spec_l3Edges.bits5 (fun HT_ HW_ => ?_)
         generalize wr.drew = w11 at HO_3 HB hx254_0 hx254_1 hx255_0 hx255_1 hHeld ⊢
         refine pu_ HT_.out 0 12 {} ?_; refine pu_ HT_.out 1 13 {} ?_; refine pu_ HT_.out 2 14 {} ?_; refine pu_ HT_.out 3 15 {} ?_; refine pu_ HT_.out 5 17 {} ?_; refine pu_ HT_.out 6 18 {} ?_; refine pu_ HT_.out 7 19 {} ?_; refine pu_ HT_.out 8 20 {} ?_; refine pu_ HT_.out 9 21 {} ?_; refine pu_ HT_.out 10 22 {} ?_; refine pu_ HT_.out 11 23 {} ?_; refine tk_ HT_.out HW_.out 4 16 hHeld {} ?_; refine tk_ HT_.out HW_.out 12 24 hHeld {} ?_; refine pu_ HT_.out 13 25 {} ?_
         refine one_ (i := 14) (N := some 26) #[true, true, true, true, true, true, true, true, true, true, true, true, true, true, true, false, false] rfl rfl (one_of HT_.out (by kernel_rfl)) (by decide) (fun K hK => ?_); refine value_ (w1 := ?_) (v := ?_) (by rfl) rfl ?_ ?_; rotate_left 2
         ·go_simp; constructor
          ·rfl
          ·rfl
         refine hK.out _ _ ⟨(World.cell?_alloc_lt _ _ _ (World.block_lt_of_cell? _ _ (((HB.out.cell (World.block_lt_of_cell? w _ hw254_0)).trans hw254_0)))).trans (((HB.out.cell (World.block_lt_of_cell? w _ hw254_0)).trans hw254_0)), (World.cell?_alloc_lt _ _ _ (World.block_lt_of_cell? _ _ (((HB.out.cell (World.block_lt_of_cell? w _ hw254_1)).trans hw254_1)))).trans (((HB.out.cell (World.block_lt_of_cell? w _ hw254_1)).trans hw254_1)), (World.cell?_alloc_lt _ _ _ (World.block_lt_of_cell? _ _ (((HB.out.cell (World.block_lt_of_cell? w _ hw255_0)).trans hw255_0)))).trans (((HB.out.cell (World.block_lt_of_cell? w _ hw255_0)).trans hw255_0)), (World.cell?_alloc_lt _ _ _ (World.block_lt_of_cell? _ _ (((HB.out.cell (World.block_lt_of_cell? w _ hw255_1)).trans hw255_1)))).trans (((HB.out.cell (World.block_lt_of_cell? w _ hw255_1)).trans hw255_1))⟩ (fun hHeld => ?_); clear hK K; refine norm_ (a' := ?_) ?_ ?_; rotate_left; ·show Act.put _ (some 26) _ = _; simp only [Act.put, Geo.sa_, Geo.sb_, Geo.sc_, i64_w, i32_w]; rfl
         refine one_ (i := 15) (N := some 27) #[true, true, true, true, true, true, true, true, true, true, true, true, true, true, true, true, false] rfl rfl (one_of HT_.out (by kernel_rfl)) (by decide) (fun K hK => ?_); refine Kd.R_append_step k35 (w0 := w) w.heap.size (by rfl) (.tmp 12) (.tmp 26) 31 35 (.agg #[(.int .i64 0), (.int .i64 0), (.int .i64 0), (.int .i64 0)]) 32 rfl Try.underlying31 info35 rfl (by decide) (by omega) u3 x3_1 (⟨(⟨(rd_T25 l0 x4_1).f0, (rd_T25 l0 x4_1).f1⟩ : S25), (⟨(rd_T25 l0 (ji7)).f0, (rd_T25 l0 (ji7)).f1⟩ : S25)⟩ : S35) [.int .i64 ((rd_T25 l0 x4_1).f0), .int .i64 ((rd_T25 l0 x4_1).f1), .int .i64 ((rd_T25 l0 (ji7)).f0), .int .i64 ((rd_T25 l0 (ji7)).f1)] (fun _ => True) (fun _ => False) rfl rfl ?aP (fun _ hk => hk.elim) ?aF ?aO ?aB ?aS ?aL ?_; (case aP => exact k35_mkM _ _ _ (⟨(⟨(rd_T25 l0 x4_1).f0, (rd_T25 l0 x4_1).f1⟩ : S25), (⟨(rd_T25 l0 (ji7)).f0, (rd_T25 l0 (ji7)).f1⟩ : S25)⟩ : S35))
         (case aB => exact hB_)
         (case aF => exact (fun _ _ => trivial))
         (case aO => exact (pR_ HO_3.out))
         (case aS => exact (below_size hB_))
         (case aL => have := LMc10.out; omega)
         intro v257 w12 ho hb hg hat; rw [← Ny256.out] at ho; have n0_ := A_ (hb); have n1_ := A_ (ho); clear HB; clear HO_3; have HB := n0_; have HO258 := n1_; clear n0_ n1_; clear ho hb hg hat; refine hK.out _ _ ⟨((HB.out.cell (World.block_lt_of_cell? w _ hw254_0)).trans hw254_0), ((HB.out.cell (World.block_lt_of_cell? w _ hw254_1)).trans hw254_1), ((HB.out.cell (World.block_lt_of_cell? w _ hw255_0)).trans hw255_0), ((HB.out.cell (World.block_lt_of_cell? w _ hw255_1)).trans hw255_1)⟩ (fun hHeld => ?_); clear hK K; refine norm_ (a' := ?_) ?_ ?_; rotate_left; ·show Act.put _ (some 27) _ = _; simp only [Act.put, Geo.sa_, Geo.sb_, Geo.sc_, i64_w, i32_w]; rfl
         refine pu_ HT_.out 16 3 {} ?_
         refine done_ (done_of HT_.out (by kernel_rfl)) ?_; try go_wp2
         go_roundg k1
         case measure => have := HK1.out; omega
         case rel => exact ⟨(y256), (wrap64 (x4_1 + 1)), (by first | rfl | (simp; done) | (simp [*]; done)), H', ⟨by have := HK1.out; omega⟩, ⟨by (with_reducible repeat (first | apply Kd.R_alloc | apply Kd.R_drewN | apply Kd.R_drew)); exact HO258.out⟩, ⟨hB_⟩⟩
        ·rw [if_neg c10] at H; exact absurd H (by simp)
       ·rw [if_neg c9] at H; exact absurd H (by simp)
      ·rw [if_neg c8] at H; exact absurd H (by simp)
    ·rw [if_neg c5] at H; exact absurd H (by simp)
   ·rw [if_neg c4] at H; have c4b0 : decide (x4_1 < (l0.length : Int)) = false := decide_eq_false c4; clear c4; obtain rfl := Option.some.inj H; go_wp2
    go_ret
    exact ⟨_, by first | rfl | (simp [errW_none, errW_some] <;> rfl) | (simp [*, errW_none, errW_some] <;> rfl), by (with_reducible repeat (first | apply Kd.R_alloc | apply Kd.R_drewN | apply Kd.R_drew)); exact HO_3.out, hB_⟩

end Go.Proofs.Ytehkklmacglelaa.PA
namespace Go.Proofs.Ytehkklmacglelaa.PA
open Go.RowKit Go.Proofs.YtehkklmacglelaaW.PrintWords Go.Proofs.YtehkklmacglelaaW.PrintLast Go.Proofs.YtehkklmacglelaaW.PrintMore
attribute [local go_sem] max2_int min2_int max_two min_two max_three min_three max_four min_four   -- for this text's walks alone
set_option linter.unusedVariables false
set_option linter.unusedSimpArgs false

/-! ### spec_l2Cross: function 81 -/
def spec_l2Cross.f (a0_0 : Int) (a0_1 : Int) (a1_0 : Int) (a1_1 : Int) (a2_0 : Int) (a2_1 : Int) : Option (Int) := some (wrap64 ((wrap64 ((wrap64 (a1_0 - a0_0)) * (wrap64 (a2_1 - a0_1)))) - (wrap64 ((wrap64 (a1_1 - a0_1)) * (wrap64 (a2_0 - a0_0))))))
set_option maxHeartbeats 8000000 in
set_option maxRecDepth 100000 in
theorem spec_l2Cross.calls (a0_0 : Int) (a0_1 : Int) (a1_0 : Int) (a1_1 : Int) (a2_0 : Int) (a2_1 : Int) (r : Int) (w : World) (h : spec_l2Cross.f a0_0 a0_1 a1_0 a1_1 a2_0 a2_1 = some r) :
  Calls Try.prog 81 #[.agg #[.int .i64 a0_0, .int .i64 a0_1], .agg #[.int .i64 a1_0, .int .i64 a1_1], .agg #[.int .i64 a2_0, .int .i64 a2_1]] w fun e w' => e = .returned (.int .i64 r) ∧ Below w.heap.size w w' := by
 have hu25 := Try.underlying25; have HB := A_ (Below.refl w.heap.size w); have H : (some (wrap64 ((wrap64 ((wrap64 (a1_0 - a0_0)) * (wrap64 (a2_1 - a0_1)))) - (wrap64 ((wrap64 (a1_1 - a0_1)) * (wrap64 (a2_0 - a0_0))))))) = some r := h; clear h; obtain rfl := Option.some.inj H; go_enter Try.func81, Try.ntmps81
 go_wp2_with (first | ((with_reducible refine gate_dst (N := 3) rfl ?_); refine box_event ?hg (N := 3) ?hd (cs := #[.int .i64 a0_0, .int .i64 a0_1]) (t := 25) ?hr ?_; (case hd => rfl); (case hg => rfl); (case hr => first | (go_simp; done) | (go_simp; rfl)); intro gb265 hg w4 hbox hb; have n0_ := sb_ hb; have n1_ := A_ (hbox); have n2_ := lB_ hg; have n3_ := lB_ hg; clear HB; have HB := n0_; have BK265 := n1_; have GW265 := n2_; have GE265 := n3_; clear n0_ n1_ n2_ n3_; clear hb hbox hg) | ((with_reducible refine gate_dst (N := 4) rfl ?_); refine box_event ?hg (N := 4) ?hd (cs := #[.int .i64 a1_0, .int .i64 a1_1]) (t := 25) ?hr ?_; (case hd => rfl); (case hg => rfl); (case hr => first | (go_simp; done) | (go_simp; rfl)); intro gb266 hg w5 hbox hb; have n0_ := bw_ BK265.out hb; have n1_ := sb_ hb; have n2_ := A_ (hbox); have n3_ := lB_ hg; have n4_ := lB_ hg; have n5_ := nl_ BK265.out hg; have n6_ := ng_ BK265.out hg; clear BK265; clear HB; have BK265 := n0_; have HB := n1_; have BK266 := n2_; have GW266 := n3_; have GE266 := n4_; have NB265_266 := n5_; have NB266_265 := n6_; clear n0_ n1_ n2_ n3_ n4_ n5_ n6_; clear hb hbox hg) | ((with_reducible refine gate_dst (N := 5) rfl ?_); refine box_event ?hg (N := 5) ?hd (cs := #[.int .i64 a2_0, .int .i64 a2_1]) (t := 25) ?hr ?_; (case hd => rfl); (case hg => rfl); (case hr => first | (go_simp; done) | (go_simp; rfl)); intro gb267 hg w6 hbox hb; have n0_ := bw_ BK265.out hb; have n1_ := bw_ BK266.out hb; have n2_ := sb_ hb; have n3_ := A_ (hbox); have n4_ := lB_ hg; have n5_ := lB_ hg; have n6_ := nl_ BK265.out hg; have n7_ := ng_ BK265.out hg; have n8_ := nl_ BK266.out hg; have n9_ := ng_ BK266.out hg; clear BK265; clear BK266; clear HB; have BK265 := n0_; have BK266 := n1_; have HB := n2_; have BK267 := n3_; have GW267 := n4_; have GE267 := n5_; have NB265_267 := n6_; have NB267_265 := n7_; have NB266_267 := n8_; have NB267_266 := n9_; clear n0_ n1_ n2_ n3_ n4_ n5_ n6_ n7_ n8_ n9_; clear hb hbox hg; have hnb7 := NB266_265.out; have hnc7 := NB265_266.out; have hnb8 := NB266_267.out; have hnc8 := NB267_266.out; obtain ⟨hcz9_0, hcz9_1, hfz9_0, hfz9_1⟩ := by2 BK266.out; have hnb10 := NB265_267.out; have hnc10 := NB267_265.out; obtain ⟨hcz11_0, hcz11_1, hfz11_0, hfz11_1⟩ := by2 BK265.out; obtain ⟨hcz12_0, hcz12_1, hfz12_0, hfz12_1⟩ := by2 BK267.out))
 go_ret
 exact ⟨by first | rfl | (simp [errW_none, errW_some] <;> rfl) | (simp [*, errW_none, errW_some] <;> rfl), hB_⟩

end Go.Proofs.Ytehkklmacglelaa.PA
namespace Go.Proofs.Ytehkklmacglelaa.PA
open Go.RowKit Go.Proofs.YtehkklmacglelaaW.PrintWords Go.Proofs.YtehkklmacglelaaW.PrintLast Go.Proofs.YtehkklmacglelaaW.PrintMore
attribute [local go_sem] max2_int min2_int max_two min_two max_three min_three max_four min_four   -- for this text's walks alone
set_option linter.unusedVariables false
set_option linter.unusedSimpArgs false

/-! ### spec_l2Dot: function 82 -/
def spec_l2Dot.f (a0_0 : Int) (a0_1 : Int) (a1_0 : Int) (a1_1 : Int) (a2_0 : Int) (a2_1 : Int) : Option (Int) := some (wrap64 ((wrap64 ((wrap64 (a1_0 - a0_0)) * (wrap64 (a2_0 - a0_0)))) + (wrap64 ((wrap64 (a1_1 - a0_1)) * (wrap64 (a2_1 - a0_1))))))
set_option maxHeartbeats 8000000 in
set_option maxRecDepth 100000 in
theorem spec_l2Dot.calls (a0_0 : Int) (a0_1 : Int) (a1_0 : Int) (a1_1 : Int) (a2_0 : Int) (a2_1 : Int) (r : Int) (w : World) (h : spec_l2Dot.f a0_0 a0_1 a1_0 a1_1 a2_0 a2_1 = some r) :
  Calls Try.prog 82 #[.agg #[.int .i64 a0_0, .int .i64 a0_1], .agg #[.int .i64 a1_0, .int .i64 a1_1], .agg #[.int .i64 a2_0, .int .i64 a2_1]] w fun e w' => e = .returned (.int .i64 r) ∧ Below w.heap.size w w' := by
 have hu25 := Try.underlying25; have HB := A_ (Below.refl w.heap.size w); have H : (some (wrap64 ((wrap64 ((wrap64 (a1_0 - a0_0)) * (wrap64 (a2_0 - a0_0)))) + (wrap64 ((wrap64 (a1_1 - a0_1)) * (wrap64 (a2_1 - a0_1))))))) = some r := h; clear h; obtain rfl := Option.some.inj H; go_enter Try.func82, Try.ntmps82
 go_wp2_with (first | ((with_reducible refine gate_dst (N := 3) rfl ?_); refine box_event ?hg (N := 3) ?hd (cs := #[.int .i64 a0_0, .int .i64 a0_1]) (t := 25) ?hr ?_; (case hd => rfl); (case hg => rfl); (case hr => first | (go_simp; done) | (go_simp; rfl)); intro gb268 hg w4 hbox hb; have n0_ := sb_ hb; have n1_ := A_ (hbox); have n2_ := lB_ hg; have n3_ := lB_ hg; clear HB; have HB := n0_; have BK268 := n1_; have GW268 := n2_; have GE268 := n3_; clear n0_ n1_ n2_ n3_; clear hb hbox hg) | ((with_reducible refine gate_dst (N := 4) rfl ?_); refine box_event ?hg (N := 4) ?hd (cs := #[.int .i64 a1_0, .int .i64 a1_1]) (t := 25) ?hr ?_; (case hd => rfl); (case hg => rfl); (case hr => first | (go_simp; done) | (go_simp; rfl)); intro gb269 hg w5 hbox hb; have n0_ := bw_ BK268.out hb; have n1_ := sb_ hb; have n2_ := A_ (hbox); have n3_ := lB_ hg; have n4_ := lB_ hg; have n5_ := nl_ BK268.out hg; have n6_ := ng_ BK268.out hg; clear BK268; clear HB; have BK268 := n0_; have HB := n1_; have BK269 := n2_; have GW269 := n3_; have GE269 := n4_; have NB268_269 := n5_; have NB269_268 := n6_; clear n0_ n1_ n2_ n3_ n4_ n5_ n6_; clear hb hbox hg) | ((with_reducible refine gate_dst (N := 5) rfl ?_); refine box_event ?hg (N := 5) ?hd (cs := #[.int .i64 a2_0, .int .i64 a2_1]) (t := 25) ?hr ?_; (case hd => rfl); (case hg => rfl); (case hr => first | (go_simp; done) | (go_simp; rfl)); intro gb270 hg w6 hbox hb; have n0_ := bw_ BK268.out hb; have n1_ := bw_ BK269.out hb; have n2_ := sb_ hb; have n3_ := A_ (hbox); have n4_ := lB_ hg; have n5_ := lB_ hg; have n6_ := nl_ BK268.out hg; have n7_ := ng_ BK268.out hg; have n8_ := nl_ BK269.out hg; have n9_ := ng_ BK269.out hg; clear BK268; clear BK269; clear HB; have BK268 := n0_; have BK269 := n1_; have HB := n2_; have BK270 := n3_; have GW270 := n4_; have GE270 := n5_; have NB268_270 := n6_; have NB270_268 := n7_; have NB269_270 := n8_; have NB270_269 := n9_; clear n0_ n1_ n2_ n3_ n4_ n5_ n6_ n7_ n8_ n9_; clear hb hbox hg; have hnb7 := NB269_268.out; have hnc7 := NB268_269.out; have hnb8 := NB269_270.out; have hnc8 := NB270_269.out; obtain ⟨hcz9_0, hcz9_1, hfz9_0, hfz9_1⟩ := by2 BK269.out; have hnb10 := NB268_270.out; have hnc10 := NB270_268.out; obtain ⟨hcz11_0, hcz11_1, hfz11_0, hfz11_1⟩ := by2 BK268.out; obtain ⟨hcz12_0, hcz12_1, hfz12_0, hfz12_1⟩ := by2 BK270.out))
 go_ret
 exact ⟨by first | rfl | (simp [errW_none, errW_some] <;> rfl) | (simp [*, errW_none, errW_some] <;> rfl), hB_⟩

/-! ### spec_l2Sign: function 83 -/
def spec_l2Sign.f (a0 : Int) : Option (Int) := if a0 < 0 then (some (-1)) else (if a0 > 0 then (some 1) else (some 0))
set_option maxHeartbeats 8000000 in
set_option maxRecDepth 100000 in
theorem spec_l2Sign.calls (a0 : Int) (r : Int) (w : World) (h : spec_l2Sign.f a0 = some r) :
  Calls Try.prog 83 #[.int .i64 a0] w fun e w' => e = .returned (.int .i64 r) ∧ Drawn0 w w' := by
 have H : (if a0 < 0 then (some (-1)) else (if a0 > 0 then (some 1) else (some 0))) = some r := h; clear h; by_cases c2 : a0 < 0
 ·rw [if_pos c2] at H; have c2b0 : decide (a0 < 0) = true := decide_eq_true c2; clear c2; obtain rfl := Option.some.inj H; go_enter Try.func83, Try.ntmps83
  go_wp2
  go_ret
  exact ⟨by first | rfl | (simp; done) | (simp [*]; done), by repeat (first | exact Drawn0.refl _ | apply Drawn0.step)⟩
 ·rw [if_neg c2] at H; have c2b0 : decide (a0 < 0) = false := decide_eq_false c2; clear c2; by_cases c3 : a0 > 0
  ·rw [if_pos c3] at H; have c3b0 : decide (0 < a0) = true := decide_eq_true c3; clear c3; obtain rfl := Option.some.inj H; go_enter Try.func83, Try.ntmps83
   go_wp2
   go_ret
   exact ⟨by first | rfl | (simp; done) | (simp [*]; done), by repeat (first | exact Drawn0.refl _ | apply Drawn0.step)⟩
  ·rw [if_neg c3] at H; have c3b0 : decide (0 < a0) = false := decide_eq_false c3; clear c3; obtain rfl := Option.some.inj H; go_enter Try.func83, Try.ntmps83
   go_wp2
   go_ret
   exact ⟨by first | rfl | (simp; done) | (simp [*]; done), by repeat (first | exact Drawn0.refl _ | apply Drawn0.step)⟩

end Go.Proofs.Ytehkklmacglelaa.PA
namespace Go.Proofs.Ytehkklmacglelaa.PA
open Go.RowKit Go.Proofs.YtehkklmacglelaaW.PrintWords Go.Proofs.YtehkklmacglelaaW.PrintLast Go.Proofs.YtehkklmacglelaaW.PrintMore
attribute [local go_sem] max2_int min2_int max_two min_two max_three min_three max_four min_four   -- for this text's walks alone
set_option linter.unusedVariables false
set_option linter.unusedSimpArgs false

/-! ### spec_l2Has: function 54 -/
def spec_l2Has.f (a0_0 : Int) (a0_1 : Int) (a0_2 : Int) (a0_3 : Int) (a1_0 : Int) (a1_1 : Int) : Option (Bool) := (spec_l2Cross.f a0_0 a0_1 a0_2 a0_3 a1_0 a1_1).bind fun t273 => (if t273 = 0 then ((spec_l2Dot.f a0_0 a0_1 a0_2 a0_3 a1_0 a1_1).bind fun t274 => ((spec_l2Dot.f a0_0 a0_1 a0_2 a0_3 a0_2 a0_3).bind fun t275 => ((spec_l6In.f t274 0 t275).bind fun t276 => (some t276)))) else (some false))
def spec_l2Has.T1 : Bool × List (List Nat × List Nat) := (true, [([], []), ([0], [0]), ([], []), ([2], [2]), ([], []), ([1, 3, 4], [1, 3, 4]), ([5], [5]), ([6, 5], [6]), ([7], [7]), ([8, 7], [7, 8]), ([7], [7]), ([10, 7], [7, 10]), ([7], [7]), ([9, 11, 12, 7, 7], [7, 9, 11, 12]), ([7], [7]), ([14, 7], [7, 14]), ([7], [7]), ([16, 7], [7, 16]), ([7], [7]), ([18, 7], [7, 18]), ([15, 17, 19, 13, 7], [7, 15, 17, 19]), ([13, 20, 20, 7], [7, 13, 20]), ([7, 21], [7, 21]), ([22, 21, 0, 1, 2, 3, 4, 5, 6, 7, 8, 9, 10, 11, 12, 13, 14, 15, 16, 17, 18, 19, 20, 21, 22], [22])])
def spec_l2Has.B1 : List Nat := [0, 1, 0, 4, 0, 31, 63, 127, 255, 511, 255, 1279, 255, 8191, 255, 16639, 255, 65791, 255, 262399, 1048575, 2097151, 4194303, 8388607]
theorem spec_l2Has.tab1 : rtab .any (opsOf Try.f54 1) = spec_l2Has.T1 := by kernel_rfl
theorem spec_l2Has.bits1 : waitsOk spec_l2Has.T1.2 spec_l2Has.B1 = true := by kernel_rfl
set_option maxHeartbeats 8000000 in
set_option maxRecDepth 100000 in
theorem spec_l2Has.calls (a0_0 : Int) (a0_1 : Int) (a0_2 : Int) (a0_3 : Int) (a1_0 : Int) (a1_1 : Int) (r : Bool) (w : World) (h : spec_l2Has.f a0_0 a0_1 a0_2 a0_3 a1_0 a1_1 = some r) :
  Calls Try.prog 54 #[.agg #[.int .i64 a0_0, .int .i64 a0_1, .int .i64 a0_2, .int .i64 a0_3], .agg #[.int .i64 a1_0, .int .i64 a1_1]] w fun e w' => e = .returned (.bool r) ∧ Below w.heap.size w w' := by
 have hu35 := Try.underlying35; have hu25 := Try.underlying25; have HB := A_ (Below.refl w.heap.size w); have H : ((spec_l2Cross.f a0_0 a0_1 a0_2 a0_3 a1_0 a1_1).bind fun t273 => (if t273 = 0 then ((spec_l2Dot.f a0_0 a0_1 a0_2 a0_3 a1_0 a1_1).bind fun t274 => ((spec_l2Dot.f a0_0 a0_1 a0_2 a0_3 a0_2 a0_3).bind fun t275 => ((spec_l6In.f t274 0 t275).bind fun t276 => (some t276)))) else (some false))) = some r := h; clear h; replace H := Option.bind_eq_some_iff.mp H; obtain ⟨t273, A30, H⟩ := H; (try dsimp only at H); have A3 := A_ A30; clear A30; by_cases c4 : t273 = 0
 ·rw [if_pos c4] at H; have c4b0 : (t273 == 0) = true := beq_iff_eq.mpr c4; have c4b1 : (t273 != 0) = false := bne_eq_false_iff_eq.mpr c4; clear c4; replace H := Option.bind_eq_some_iff.mp H; obtain ⟨t274, A50, H⟩ := H; (try dsimp only at H); have A5 := A_ A50; clear A50; replace H := Option.bind_eq_some_iff.mp H; obtain ⟨t275, A60, H⟩ := H; (try dsimp only at H); have A6 := A_ A60; clear A60; replace H := Option.bind_eq_some_iff.mp H; obtain ⟨t276, A70, H⟩ := H; (try dsimp only at H); have A7 := A_ A70; clear A70; obtain rfl := Option.some.inj H; go_enter Try.func54, Try.ntmps54
  try go_wp2_with (first | ((with_reducible refine gate_dst (N := 2) rfl ?_); refine box_event ?hg (N := 2) ?hd (cs := #[.int .i64 a0_0, .int .i64 a0_1, .int .i64 a0_2, .int .i64 a0_3]) (t := 35) ?hr ?_; (case hd => rfl); (case hg => rfl); (case hr => first | (go_simp; done) | (go_simp; rfl)); intro gb271 hg w8 hbox hb; have n0_ := sb_ hb; have n1_ := A_ (hbox); have n2_ := lB_ hg; have n3_ := lB_ hg; clear HB; have HB := n0_; have BK271 := n1_; have GW271 := n2_; have GE271 := n3_; clear n0_ n1_ n2_ n3_; clear hb hbox hg) | ((with_reducible refine gate_dst (N := 3) rfl ?_); refine box_event ?hg (N := 3) ?hd (cs := #[.int .i64 a1_0, .int .i64 a1_1]) (t := 25) ?hr ?_; (case hd => rfl); (case hg => rfl); (case hr => first | (go_simp; done) | (go_simp; rfl)); intro gb272 hg w9 hbox hb; have n0_ := bw_ BK271.out hb; have n1_ := sb_ hb; have n2_ := A_ (hbox); have n3_ := lB_ hg; have n4_ := lB_ hg; have n5_ := nl_ BK271.out hg; have n6_ := ng_ BK271.out hg; clear BK271; clear HB; have BK271 := n0_; have HB := n1_; have BK272 := n2_; have GW272 := n3_; have GE272 := n4_; have NB271_272 := n5_; have NB272_271 := n6_; clear n0_ n1_ n2_ n3_ n4_ n5_ n6_; clear hb hbox hg))
  have n0_ := A_ (blk_drew BK271.out); have n1_ := A_ (blk_drew BK272.out); have n2_ := A_ (below_drew1 HB.out); clear BK271 BK272 HB; revert n0_ n1_ n2_; intro BK271 BK272 HB; refine start_ (n := 24) (S := fun w' => w'.cell? ⟨gb271, 0, none⟩ = some (.int .i64 a0_0) ∧ w'.cell? ⟨gb271, 1, none⟩ = some (.int .i64 a0_1) ∧ w'.cell? ⟨gb271, 2, none⟩ = some (.int .i64 a0_2) ∧ w'.cell? ⟨gb271, 3, none⟩ = some (.int .i64 a0_3) ∧ w'.cell? ⟨gb272, 0, none⟩ = some (.int .i64 a1_0) ∧ w'.cell? ⟨gb272, 1, none⟩ = some (.int .i64 a1_1)) (ds := []) #[false, false, false, false, false, false, false, false, false, false, false, false, false, false, false, false, false, false, false, false, false, false, false, false] (by kernel_rfl) rfl rfl ⟨(blk_cell BK271.out 0).trans rfl, (blk_cell BK271.out 1).trans rfl, (blk_cell BK271.out 2).trans rfl, (blk_cell BK271.out 3).trans rfl, (blk_cell BK272.out 0).trans rfl, (blk_cell BK272.out 1).trans rfl⟩ (fun hHeld => ?_); refine with_tabW spec_l2Has.tab1 spec_l2Has.bits1 (fun HT_ HW_ => ?_)
  generalize w9.drew = w10 at BK271 BK272 HB hHeld ⊢
  refine pu_ HT_.out 0 5 {} ?_; refine pu_ HT_.out 2 7 {} ?_; refine tk_ HT_.out HW_.out 1 6 hHeld {} ?_; refine tk_ HT_.out HW_.out 3 8 hHeld {} ?_; refine tk_ HT_.out HW_.out 4 9 hHeld {} ?_
  refine one_ (i := 5) (N := some 10) #[true, true, true, true, true, true, false, false, false, false, false, false, false, false, false, false, false, false, false, false, false, false, false, false] rfl rfl (one_of HT_.out (by kernel_rfl)) (by decide) (fun K hK => ?_); refine goes_ Try.func81 (by kernel_rfl) rfl #[.agg #[.int .i64 a0_0, .int .i64 a0_1], .agg #[.int .i64 a0_2, .int .i64 a0_3], .agg #[.int .i64 a1_0, .int .i64 a1_1]] (by rfl) rfl rfl ga_ ?_; with_reducible refine (spec_l2Cross.calls a0_0 a0_1 a0_2 a0_3 a1_0 a1_1 t273 _ A3.out).mono ?_
  rintro e w11 ⟨rfl, hb⟩; refine ⟨_, rfl, ?_⟩; have n0_ := bw_ BK271.out hb; have n1_ := bw_ BK272.out hb; have n2_ := sb_ hb; clear BK271 BK272 HB; revert n0_ n1_ n2_; intro BK271 BK272 HB; (try clear hb); refine hK.out _ _ ⟨(blk_cell BK271.out 0).trans rfl, (blk_cell BK271.out 1).trans rfl, (blk_cell BK271.out 2).trans rfl, (blk_cell BK271.out 3).trans rfl, (blk_cell BK272.out 0).trans rfl, (blk_cell BK272.out 1).trans rfl⟩ (fun hHeld => ?_); clear hK K; refine norm_ (a' := ?_) ?_ ?_; rotate_left; ·show Act.put _ (some 10) _ = _; simp only [Act.put, Geo.sa_, Geo.sb_, Geo.sc_, i64_w, i32_w]; rfl
  refine pu_ HT_.out 6 11 {} ?_; refine pu_ HT_.out 7 12 {} ?_; refine pu_ HT_.out 8 13 {} ?_; refine pu_ HT_.out 10 15 {} ?_; refine pu_ HT_.out 14 19 {} ?_; refine pu_ HT_.out 16 21 {} ?_; refine pu_ HT_.out 18 23 {} ?_; refine tk_ HT_.out HW_.out 9 14 hHeld {} ?_; refine tk_ HT_.out HW_.out 11 16 hHeld {} ?_; refine tk_ HT_.out HW_.out 12 17 hHeld {} ?_; refine tk_ HT_.out HW_.out 15 20 hHeld {} ?_; refine tk_ HT_.out HW_.out 17 22 hHeld {} ?_; refine tk_ HT_.out HW_.out 19 24 hHeld {} ?_
  refine one_ (i := 13) (N := some 18) #[true, true, true, true, true, true, true, true, true, true, true, true, true, true, true, true, true, true, true, true, false, false, false, false] rfl rfl (one_of HT_.out (by kernel_rfl)) (by decide) (fun K hK => ?_); refine goes_ Try.func82 (by kernel_rfl) rfl #[.agg #[.int .i64 a0_0, .int .i64 a0_1], .agg #[.int .i64 a0_2, .int .i64 a0_3], .agg #[.int .i64 a1_0, .int .i64 a1_1]] (by rfl) rfl rfl ga_ ?_; with_reducible refine (spec_l2Dot.calls a0_0 a0_1 a0_2 a0_3 a1_0 a1_1 t274 _ A5.out).mono ?_
  rintro e w12 ⟨rfl, hb⟩; refine ⟨_, rfl, ?_⟩; have n0_ := bw_ BK271.out hb; have n1_ := bw_ BK272.out hb; have n2_ := sb_ hb; clear BK271 BK272 HB; revert n0_ n1_ n2_; intro BK271 BK272 HB; (try clear hb); refine hK.out _ _ ⟨(blk_cell BK271.out 0).trans rfl, (blk_cell BK271.out 1).trans rfl, (blk_cell BK271.out 2).trans rfl, (blk_cell BK271.out 3).trans rfl, (blk_cell BK272.out 0).trans rfl, (blk_cell BK272.out 1).trans rfl⟩ (fun hHeld => ?_); clear hK K; refine norm_ (a' := ?_) ?_ ?_; rotate_left; ·show Act.put _ (some 18) _ = _; simp only [Act.put, Geo.sa_, Geo.sb_, Geo.sc_, i64_w, i32_w]; rfl
  refine one_ (i := 20) (N := some 25) #[true, true, true, true, true, true, true, true, true, true, true, true, true, true, true, true, true, true, true, true, true, false, false, false] rfl rfl (one_of HT_.out (by kernel_rfl)) (by decide) (fun K hK => ?_); refine goes_ Try.func82 (by kernel_rfl) rfl #[.agg #[.int .i64 a0_0, .int .i64 a0_1], .agg #[.int .i64 a0_2, .int .i64 a0_3], .agg #[.int .i64 a0_2, .int .i64 a0_3]] (by rfl) rfl rfl ga_ ?_; with_reducible refine (spec_l2Dot.calls a0_0 a0_1 a0_2 a0_3 a0_2 a0_3 t275 _ A6.out).mono ?_
  rintro e w13 ⟨rfl, hb⟩; refine ⟨_, rfl, ?_⟩; have n0_ := bw_ BK271.out hb; have n1_ := bw_ BK272.out hb; have n2_ := sb_ hb; clear BK271 BK272 HB; revert n0_ n1_ n2_; intro BK271 BK272 HB; (try clear hb); refine hK.out _ _ ⟨(blk_cell BK271.out 0).trans rfl, (blk_cell BK271.out 1).trans rfl, (blk_cell BK271.out 2).trans rfl, (blk_cell BK271.out 3).trans rfl, (blk_cell BK272.out 0).trans rfl, (blk_cell BK272.out 1).trans rfl⟩ (fun hHeld => ?_); clear hK K; refine norm_ (a' := ?_) ?_ ?_; rotate_left; ·show Act.put _ (some 25) _ = _; simp only [Act.put, Geo.sa_, Geo.sb_, Geo.sc_, i64_w, i32_w]; rfl
  refine one_ (i := 21) (N := some 26) #[true, true, true, true, true, true, true, true, true, true, true, true, true, true, true, true, true, true, true, true, true, true, false, false] rfl rfl (one_of HT_.out (by kernel_rfl)) (by decide) (fun K hK => ?_); refine goes_ Try.func51 (by kernel_rfl) rfl #[.int .i64 t274, .int .i64 0, .int .i64 t275] (by rfl) rfl rfl ga_ ?_; with_reducible refine (spec_l6In.calls t274 0 t275 t276 _ A7.out).mono ?_
  rintro e w' ⟨rfl, ⟨nd, rfl⟩⟩; refine ⟨_, rfl, ?_⟩; refine hK.out _ _ ⟨(blk_cell BK271.out 0).trans rfl, (blk_cell BK271.out 1).trans rfl, (blk_cell BK271.out 2).trans rfl, (blk_cell BK271.out 3).trans rfl, (blk_cell BK272.out 0).trans rfl, (blk_cell BK272.out 1).trans rfl⟩ (fun hHeld => ?_); clear hK K; refine norm_ (a' := ?_) ?_ ?_; rotate_left; ·show Act.put _ (some 26) _ = _; simp only [Act.put, Geo.sa_, Geo.sb_, Geo.sc_, i64_w, i32_w]; rfl
  refine pu_ HT_.out 22 27 {} ?_; refine pu_ HT_.out 23 4 {} ?_
  refine done_ (done_of HT_.out (by kernel_rfl)) ?_; try go_wp2
  go_ret
  exact ⟨by first | rfl | (simp [errW_none, errW_some] <;> rfl) | (simp [*, errW_none, errW_some] <;> rfl), hB_⟩
 ·rw [if_neg c4] at H; have c4b0 : (t273 == 0) = false := beq_eq_false_iff_ne.mpr c4; have c4b1 : (t273 != 0) = true := bne_iff_ne.mpr c4; obtain rfl := Option.some.inj H; go_enter Try.func54, Try.ntmps54
  try go_wp2_with (first | ((with_reducible refine gate_dst (N := 2) rfl ?_); refine box_event ?hg (N := 2) ?hd (cs := #[.int .i64 a0_0, .int .i64 a0_1, .int .i64 a0_2, .int .i64 a0_3]) (t := 35) ?hr ?_; (case hd => rfl); (case hg => rfl); (case hr => first | (go_simp; done) | (go_simp; rfl)); intro gb271 hg w14 hbox hb; have n0_ := sb_ hb; have n1_ := A_ (hbox); have n2_ := lB_ hg; have n3_ := lB_ hg; clear HB; have HB := n0_; have BK271 := n1_; have GW271 := n2_; have GE271 := n3_; clear n0_ n1_ n2_ n3_; clear hb hbox hg) | ((with_reducible refine gate_dst (N := 3) rfl ?_); refine box_event ?hg (N := 3) ?hd (cs := #[.int .i64 a1_0, .int .i64 a1_1]) (t := 25) ?hr ?_; (case hd => rfl); (case hg => rfl); (case hr => first | (go_simp; done) | (go_simp; rfl)); intro gb272 hg w15 hbox hb; have n0_ := bw_ BK271.out hb; have n1_ := sb_ hb; have n2_ := A_ (hbox); have n3_ := lB_ hg; have n4_ := lB_ hg; have n5_ := nl_ BK271.out hg; have n6_ := ng_ BK271.out hg; clear BK271; clear HB; have BK271 := n0_; have HB := n1_; have BK272 := n2_; have GW272 := n3_; have GE272 := n4_; have NB271_272 := n5_; have NB272_271 := n6_; clear n0_ n1_ n2_ n3_ n4_ n5_ n6_; clear hb hbox hg))
  have n0_ := A_ (blk_drew BK271.out); have n1_ := A_ (blk_drew BK272.out); have n2_ := A_ (below_drew1 HB.out); clear BK271 BK272 HB; revert n0_ n1_ n2_; intro BK271 BK272 HB; refine start_ (n := 24) (S := fun w' => w'.cell? ⟨gb271, 0, none⟩ = some (.int .i64 a0_0) ∧ w'.cell? ⟨gb271, 1, none⟩ = some (.int .i64 a0_1) ∧ w'.cell? ⟨gb271, 2, none⟩ = some (.int .i64 a0_2) ∧ w'.cell? ⟨gb271, 3, none⟩ = some (.int .i64 a0_3) ∧ w'.cell? ⟨gb272, 0, none⟩ = some (.int .i64 a1_0) ∧ w'.cell? ⟨gb272, 1, none⟩ = some (.int .i64 a1_1)) (ds := []) #[false, false, false, false, false, false, false, false, false, false, false, false, false, false, false, false, false, false, false, false, false, false, false, false] (by kernel_rfl) rfl rfl ⟨(blk_cell BK271.out 0).trans rfl, (blk_cell BK271.out 1).trans rfl, (blk_cell BK271.out 2).trans rfl, (blk_cell BK271.out 3).trans rfl, (blk_cell BK272.out 0).trans rfl, (blk_cell BK272.out 1).trans rfl⟩ (fun hHeld => ?_); refine with_tabW spec_l2Has.tab1 spec_l2Has.bits1 (fun HT_ HW_ => ?_)
  generalize w15.drew = w16 at BK271 BK272 HB hHeld ⊢
  refine pu_ HT_.out 0 5 {} ?_; refine pu_ HT_.out 2 7 {} ?_; refine tk_ HT_.out HW_.out 1 6 hHeld {} ?_; refine tk_ HT_.out HW_.out 3 8 hHeld {} ?_; refine tk_ HT_.out HW_.out 4 9 hHeld {} ?_
  refine one_ (i := 5) (N := some 10) #[true, true, true, true, true, true, false, false, false, false, false, false, false, false, false, false, false, false, false, false, false, false, false, false] rfl rfl (one_of HT_.out (by kernel_rfl)) (by decide) (fun K hK => ?_); refine goes_ Try.func81 (by kernel_rfl) rfl #[.agg #[.int .i64 a0_0, .int .i64 a0_1], .agg #[.int .i64 a0_2, .int .i64 a0_3], .agg #[.int .i64 a1_0, .int .i64 a1_1]] (by rfl) rfl rfl ga_ ?_; with_reducible refine (spec_l2Cross.calls a0_0 a0_1 a0_2 a0_3 a1_0 a1_1 t273 _ A3.out).mono ?_
  rintro e w17 ⟨rfl, hb⟩; refine ⟨_, rfl, ?_⟩; have n0_ := bw_ BK271.out hb; have n1_ := bw_ BK272.out hb; have n2_ := sb_ hb; clear BK271 BK272 HB; revert n0_ n1_ n2_; intro BK271 BK272 HB; (try clear hb); refine hK.out _ _ ⟨(blk_cell BK271.out 0).trans rfl, (blk_cell BK271.out 1).trans rfl, (blk_cell BK271.out 2).trans rfl, (blk_cell BK271.out 3).trans rfl, (blk_cell BK272.out 0).trans rfl, (blk_cell BK272.out 1).trans rfl⟩ (fun hHeld => ?_); clear hK K; refine norm_ (a' := ?_) ?_ ?_; rotate_left; ·show Act.put _ (some 10) _ = _; simp only [Act.put, Geo.sa_, Geo.sb_, Geo.sc_, i64_w, i32_w]; rfl
  refine pu_ HT_.out 6 11 {} ?_; refine pu_ HT_.out 7 12 {} ?_; refine pv_ HT_.out 8 13 {} ?_; refine pv_ HT_.out 9 14 {} ?_; refine pv_ HT_.out 10 15 {} ?_; refine pv_ HT_.out 11 16 {} ?_; refine pv_ HT_.out 12 17 {} ?_; refine pv_ HT_.out 13 18 {} ?_; refine pv_ HT_.out 14 19 {} ?_; refine pv_ HT_.out 15 20 {} ?_; refine pv_ HT_.out 16 21 {} ?_; refine pv_ HT_.out 17 22 {} ?_; refine pv_ HT_.out 18 23 {} ?_; refine pv_ HT_.out 19 24 {} ?_; refine pv_ HT_.out 20 25 {} ?_; refine pv_ HT_.out 21 26 {} ?_; refine pu_ HT_.out 22 27 {} ?_; refine pu_ HT_.out 23 4 {} ?_
  refine done_ (done_of HT_.out (by kernel_rfl)) ?_; try go_wp2
  go_ret
  exact ⟨by first | rfl | (simp [errW_none, errW_some] <;> rfl) | (simp [*, errW_none, errW_some] <;> rfl), hB_⟩

end Go.Proofs.Ytehkklmacglelaa.PA
