/-
  Contracts of the functions that the law reaches, and what they compute, on lists (part B). No condition.
-/
import Derived.Test.YtgdolholioccdaaDoorMA
namespace Go.Proofs.YtgdolholioccdaaDoor.PX
open Go.RowKit Go.Proofs.YtgdolholioccdaaDoorW.PrintWords Go.Proofs.YtgdolholioccdaaDoorW.PrintLast Go.Proofs.YtgdolholioccdaaDoorW.PrintMore
attribute [local go_sem] max2_int min2_int max_two min_two max_three min_three max_four min_four   -- for this text's walks alone
set_option linter.unusedVariables false
set_option linter.unusedSimpArgs false
/-! ### fleuronref1_node: function 29 -/
mutual
def fleuronref1_node.l0 : Nat → List (S49) → Int → Int → ByteArray → Int → ByteArray → Int → Bool → Bool → Bool → List (S51) → Option (Int × ByteArray × Int × Bool × Bool × Bool × (List (S51)) × Int)
  | 0, _, _, _, _, _, _, _, _, _, _, _ => none
  | k + 1, x0, x1, x2, x9, x107000, x107001, x107002, x107003, x107004, x107005, x107006 => if x1 < (x0.length : Int) then (if 0 ≤ x1 then (if ((rd_T49 x0 x1).f0) = 20 then (fleuronref1_node.j1 k x0 x1 x2 x9 (((rd_T49 x0 x1).f1).toList == x9.toList) x107000 x107001 x107002 x107003 x107004 x107005 x107006) else (fleuronref1_node.j1 k x0 x1 x2 x9 false x107000 x107001 x107002 x107003 x107004 x107005 x107006)) else (none)) else (some (x107000, x107001, x107002, x107003, x107004, x107005, x107006, x1))
def fleuronref1_node.j1 : Nat → List (S49) → Int → Int → ByteArray → Bool → Int → ByteArray → Int → Bool → Bool → Bool → List (S51) → Option (Int × ByteArray × Int × Bool × Bool × Bool × (List (S51)) × Int)
  | 0, _, _, _, _, _, _, _, _, _, _, _, _ => none
  | k + 1, x0, x1, x2, x9, x46, x107000, x107001, x107002, x107003, x107004, x107005, x107006 => if x46 = true then (some (x107000, x107001, x107002, x107003, x107004, x107005, x107006, wrap64 (x1 + 1))) else ((fleuronref1_node.f k x0 x1 (wrap64 (x2 + 1))).bind fun bt111 => (if x2 < 32 then (if x107006.length < 2199023255552 then (fleuronref1_node.l0 k x0 bt111.2.2.2.2.2.2.2 x2 x9 x107000 x107001 x107002 x107003 x107004 x107005 (x107006 ++ [(⟨(⟨bt111.1, bt111.2.1, bt111.2.2.1, bt111.2.2.2.1, bt111.2.2.2.2.1, bt111.2.2.2.2.2.1⟩ : S49), bt111.2.2.2.2.2.2.1⟩ : S51)])) else (none)) else (fleuronref1_node.l0 k x0 bt111.2.2.2.2.2.2.2 x2 x9 x107000 x107001 x107002 x107003 x107004 x107005 x107006)))
def fleuronref1_node.f : Nat → List (S49) → Int → Int → Option (Int × ByteArray × Int × Bool × Bool × Bool × (List (S51)) × Int)
  | 0, _, _, _ => none
  | k + 1, l0, a1, a2 => if 0 ≤ a1 then (if a1 < (l0.length : Int) then ((fleuronref1_closes.f k ((rd_T49 l0 a1).f0) ((rd_T49 l0 a1).f1) ((rd_T49 l0 a1).f2) ((rd_T49 l0 a1).f3) ((rd_T49 l0 a1).f4) ((rd_T49 l0 a1).f5)).bind fun t108 => (if t108.toList = ([] : List UInt8) then (some ((rd_T49 l0 a1).f0, (rd_T49 l0 a1).f1, (rd_T49 l0 a1).f2, (rd_T49 l0 a1).f3, (rd_T49 l0 a1).f4, (rd_T49 l0 a1).f5, ([] : List (S51)), wrap64 (a1 + 1))) else (fleuronref1_node.l0 k l0 (wrap64 (a1 + 1)) a2 t108 ((rd_T49 l0 a1).f0) ((rd_T49 l0 a1).f1) ((rd_T49 l0 a1).f2) ((rd_T49 l0 a1).f3) ((rd_T49 l0 a1).f4) ((rd_T49 l0 a1).f5) ([] : List (S51))))) else (none)) else (none)
end
set_option maxHeartbeats 8000000 in
set_option maxRecDepth 100000 in
theorem fleuronref1_node.calls (k : Nat) : ∀ (A0 : Option Addr) (c0 : Nat) (l0 : List (S49)) (a1 : Int) (a2 : Int) (r1 : Int) (r2 : ByteArray) (r3 : Int) (r4 : Bool) (r5 : Bool) (r6 : Bool) (r7 : List (S51)) (r8 : Int) (w : World) (hr0 : Kd.C k49 w A0 l0.length l0) (hc0 : l0.length ≤ c0) (h : fleuronref1_node.f k l0 a1 a2 = some (r1, r2, r3, r4, r5, r6, r7, r8)),
    Calls Tryd.prog 29 #[.slice A0 l0.length c0, .int .i64 a1, .int .i64 a2] w fun e w' => ∃ v6_ : Value, e = .returned (.tuple #[.agg #[.int .i64 r1, .string r2, .int .i64 r3, .bool r4, .bool r5, .bool r6, v6_], .int .i64 r8]) ∧ Kd.R k51 51 w' w.heap.size (fun _ => True) v6_ r7 ∧ Below w.heap.size w w' := by
  induction k using Nat.strongRecOn with
  | _ k ih =>
  intro A0 c0 l0 a1 a2 r1 r2 r3 r4 r5 r6 r7 r8 w hr0 hc0 h
  cases k with
  | zero => exact absurd h (by simp [fleuronref1_node.f])
  | succ k =>
  simp only [fleuronref1_node.f] at h
  have hu51 := Tryd.underlying51
  have hu49 := Tryd.underlying49
  have HR0 := Aside0.mk hr0
  have HC0 := Aside0.mk hc0
  clear hr0 hc0
  have HB := Aside0.mk (Below.refl w.heap.size w)
  have H : (if 0 ≤ a1 then (if a1 < (l0.length : Int) then ((fleuronref1_closes.f k ((rd_T49 l0 a1).f0) ((rd_T49 l0 a1).f1) ((rd_T49 l0 a1).f2) ((rd_T49 l0 a1).f3) ((rd_T49 l0 a1).f4) ((rd_T49 l0 a1).f5)).bind fun t108 => (if t108.toList = ([] : List UInt8) then (some ((rd_T49 l0 a1).f0, (rd_T49 l0 a1).f1, (rd_T49 l0 a1).f2, (rd_T49 l0 a1).f3, (rd_T49 l0 a1).f4, (rd_T49 l0 a1).f5, ([] : List (S51)), wrap64 (a1 + 1))) else (fleuronref1_node.l0 k l0 (wrap64 (a1 + 1)) a2 t108 ((rd_T49 l0 a1).f0) ((rd_T49 l0 a1).f1) ((rd_T49 l0 a1).f2) ((rd_T49 l0 a1).f3) ((rd_T49 l0 a1).f4) ((rd_T49 l0 a1).f5) ([] : List (S51))))) else (none)) else (none)) = some (r1, r2, r3, r4, r5, r6, r7, r8) := h
  clear h
  by_cases c4 : 0 ≤ a1
  · rw [if_pos c4] at H
    have c4b0 : decide (0 ≤ a1) = true := decide_eq_true c4
    clear c4
    by_cases c5 : a1 < (l0.length : Int)
    · rw [if_pos c5] at H
      have c5b0 : decide (a1 < (l0.length : Int)) = true := decide_eq_true c5
      clear c5
      replace H := Option.bind_eq_some_iff.mp H
      obtain ⟨t108, A60, H⟩ := H
      replace H : (if t108.toList = ([] : List UInt8) then (some ((rd_T49 l0 a1).f0, (rd_T49 l0 a1).f1, (rd_T49 l0 a1).f2, (rd_T49 l0 a1).f3, (rd_T49 l0 a1).f4, (rd_T49 l0 a1).f5, ([] : List (S51)), wrap64 (a1 + 1))) else (fleuronref1_node.l0 k l0 (wrap64 (a1 + 1)) a2 t108 ((rd_T49 l0 a1).f0) ((rd_T49 l0 a1).f1) ((rd_T49 l0 a1).f2) ((rd_T49 l0 a1).f3) ((rd_T49 l0 a1).f4) ((rd_T49 l0 a1).f5) ([] : List (S51)))) = some (r1, r2, r3, r4, r5, r6, r7, r8) := H
      have A6 := Aside0.mk A60
      clear A60
      by_cases c7 : t108.toList = ([] : List UInt8)
      · rw [if_pos c7] at H
        have c7b0 : (t108.toList == ([] : List UInt8)) = true := beq_iff_eq.mpr c7
        have c7b1 : (t108.toList != ([] : List UInt8)) = false := bne_eq_false_iff_eq.mpr c7
        clear c7
        simp only [Option.some.injEq, Prod.mk.injEq] at H
        obtain ⟨rfl, rfl, rfl, rfl, rfl, rfl, rfl, rfl⟩ := H
        go_enter Tryd.func29, Tryd.ntmps29
        go_wp2_with (first | ((with_reducible refine gate_dst (N := 6) rfl ?_); refine box_event ?hg (N := 6) ?hd (cs := #[.int .i64 0, .string (⟨#[]⟩ : ByteArray), .int .i64 0, .bool false, .bool false, .bool false, .slice none 0 0]) (t := 51) ?hr ?_; (case hd => rfl); (case hg => rfl); (case hr => first | (go_simp; done) | (go_simp; rfl)); intro gb104 hg w8 hbox hb; have n0_ := Aside0.mk (below_step (by repeat (first | (with_reducible first | exact HB.out | apply below_alloc | apply pw_below_drewN | apply below_drew1) | exact HB.out)) hb); have n1_ := Aside0.mk (hbox); have n2_ := Aside0.mk ((by rw [hg]; exact (below_size (by repeat (first | (with_reducible first | exact HB.out | apply below_alloc | apply pw_below_drewN | apply below_drew1) | exact HB.out))) : w.heap.size ≤ gb104)); have n3_ := Aside0.mk ((by rw [hg]; exact (below_size (by repeat (first | (with_reducible first | exact HB.out | apply below_alloc | apply pw_below_drewN | apply below_drew1) | exact HB.out))) : w.heap.size ≤ gb104)); clear HB; have HB := n0_; have BK104 := n1_; have GW104 := n2_; have GE104 := n3_; clear n0_ n1_ n2_ n3_; clear hb hbox hg; have p105 : 0 ≤ (a1 : Int) := of_decide_eq_true (by first | (with_reducible assumption) | assumption); have q105 : a1 < (l0.length : Int) := of_decide_eq_true (by first | (with_reducible assumption) | assumption); obtain ⟨ad105, e105, hx105_0, hx105_1, hx105_2, hx105_3, hx105_4, hx105_5⟩ := at_T49 HR0.out a1 p105 q105; cases e105; replace hx105_0 := (HB.out.cell (World.block_lt_of_cell? w _ hx105_0)).trans hx105_0; replace hx105_1 := (HB.out.cell (World.block_lt_of_cell? w _ hx105_1)).trans hx105_1; replace hx105_2 := (HB.out.cell (World.block_lt_of_cell? w _ hx105_2)).trans hx105_2; replace hx105_3 := (HB.out.cell (World.block_lt_of_cell? w _ hx105_3)).trans hx105_3; replace hx105_4 := (HB.out.cell (World.block_lt_of_cell? w _ hx105_4)).trans hx105_4; replace hx105_5 := (HB.out.cell (World.block_lt_of_cell? w _ hx105_5)).trans hx105_5; replace p105 := eq_true p105; replace q105 := eq_true q105) | ((with_reducible refine gate_dst (N := 8) rfl ?_); refine box_event ?hg (N := 8) ?hd (cs := #[.int .i64 0, .string (⟨#[]⟩ : ByteArray), .int .i64 0, .bool false, .bool false, .bool false, .slice none 0 0]) (t := 51) ?hr ?_; (case hd => rfl); (case hg => rfl); (case hr => first | (go_simp; done) | (go_simp; rfl)); intro gb106 hg w9 hbox hb; have n0_ := Aside0.mk (blk_below (g := gb104) (o := .cells #[.int .i64 0, .string (⟨#[]⟩ : ByteArray), .int .i64 0, .bool false, .bool false, .bool false, .slice none 0 0] 51 (0, 0)) (by (with_reducible repeat (first | refine blk_drewN ?_ _ | refine blk_drew ?_ | refine blk_alloc ?_ _)); exact BK104.out) hb); have n1_ := Aside0.mk (below_step (by repeat (first | (with_reducible first | exact HB.out | apply below_alloc | apply pw_below_drewN | apply below_drew1 | refine below_set ?_ GE104.out) | exact HB.out)) hb); have n2_ := Aside0.mk (hbox); have n3_ := Aside0.mk ((by rw [hg]; exact (below_size (by repeat (first | (with_reducible first | exact HB.out | apply below_alloc | apply pw_below_drewN | apply below_drew1 | refine below_set ?_ GE104.out) | exact HB.out))) : w.heap.size ≤ gb106)); have n4_ := Aside0.mk ((by rw [hg]; exact (below_size (by repeat (first | (with_reducible first | exact HB.out | apply below_alloc | apply pw_below_drewN | apply below_drew1 | refine below_set ?_ GE104.out) | exact HB.out))) : w.heap.size ≤ gb106)); have n5_ := Aside0.mk ((by rw [hg]; exact Nat.ne_of_lt (blk_lt (g := gb104) (o := .cells #[.int .i64 0, .string (⟨#[]⟩ : ByteArray), .int .i64 0, .bool false, .bool false, .bool false, .slice none 0 0] 51 (0, 0)) (by (with_reducible repeat (first | refine blk_drewN ?_ _ | refine blk_drew ?_ | refine blk_alloc ?_ _)); exact BK104.out)) : gb104 ≠ gb106)); have n6_ := Aside0.mk ((by rw [hg]; exact Nat.ne_of_gt (blk_lt (g := gb104) (o := .cells #[.int .i64 0, .string (⟨#[]⟩ : ByteArray), .int .i64 0, .bool false, .bool false, .bool false, .slice none 0 0] 51 (0, 0)) (by (with_reducible repeat (first | refine blk_drewN ?_ _ | refine blk_drew ?_ | refine blk_alloc ?_ _)); exact BK104.out)) : gb106 ≠ gb104)); clear BK104; clear HB; have BK104 := n0_; have HB := n1_; have BK106 := n2_; have GW106 := n3_; have GE106 := n4_; have NB104_106 := n5_; have NB106_104 := n6_; clear n0_ n1_ n2_ n3_ n4_ n5_ n6_; clear hb hbox hg; have hnb10 := NB106_104.out; have hnc10 := NB104_106.out; have hcz11_0 : w9.cell? ⟨gb106, 0, none⟩ = some (.int .i64 0) := (blk_cell BK106.out 0).trans rfl; have hcz11_1 : w9.cell? ⟨gb106, 1, none⟩ = some (.string (⟨#[]⟩ : ByteArray)) := (blk_cell BK106.out 1).trans rfl; have hcz11_2 : w9.cell? ⟨gb106, 2, none⟩ = some (.int .i64 0) := (blk_cell BK106.out 2).trans rfl; have hcz11_3 : w9.cell? ⟨gb106, 3, none⟩ = some (.bool false) := (blk_cell BK106.out 3).trans rfl; have hcz11_4 : w9.cell? ⟨gb106, 4, none⟩ = some (.bool false) := (blk_cell BK106.out 4).trans rfl; have hcz11_5 : w9.cell? ⟨gb106, 5, none⟩ = some (.bool false) := (blk_cell BK106.out 5).trans rfl; have hcz11_6 : w9.cell? ⟨gb106, 6, none⟩ = some (.slice none 0 0) := (blk_cell BK106.out 6).trans rfl; have hfz11_0 := blk_frozen BK106.out 0; have hfz11_1 := blk_frozen BK106.out 1; have hfz11_2 := blk_frozen BK106.out 2; have hfz11_3 := blk_frozen BK106.out 3; have hfz11_4 := blk_frozen BK106.out 4; have hfz11_5 := blk_frozen BK106.out 5; have hfz11_6 := blk_frozen BK106.out 6; have p107 : 0 ≤ (a1 : Int) := of_decide_eq_true (by first | (with_reducible assumption) | assumption); have q107 : a1 < (l0.length : Int) := of_decide_eq_true (by first | (with_reducible assumption) | assumption); obtain ⟨ad107, e107, hx107_0, hx107_1, hx107_2, hx107_3, hx107_4, hx107_5⟩ := at_T49 HR0.out a1 p107 q107; obtain rfl : ad105 = ad107 := (by injection e107); have hn107_0 : ad105.block ≠ gb106 := Nat.ne_of_lt (Nat.lt_of_lt_of_le (by have := World.block_lt_of_cell? _ _ hx107_0; first | rwa [add_block] at this | exact this) GW106.out); have hn107_1 : ad105.block ≠ gb106 := Nat.ne_of_lt (Nat.lt_of_lt_of_le (by have := World.block_lt_of_cell? _ _ hx107_0; first | rwa [add_block] at this | exact this) GW106.out); have hn107_2 : ad105.block ≠ gb106 := Nat.ne_of_lt (Nat.lt_of_lt_of_le (by have := World.block_lt_of_cell? _ _ hx107_0; first | rwa [add_block] at this | exact this) GW106.out); have hn107_3 : ad105.block ≠ gb106 := Nat.ne_of_lt (Nat.lt_of_lt_of_le (by have := World.block_lt_of_cell? _ _ hx107_0; first | rwa [add_block] at this | exact this) GW106.out); have hn107_4 : ad105.block ≠ gb106 := Nat.ne_of_lt (Nat.lt_of_lt_of_le (by have := World.block_lt_of_cell? _ _ hx107_0; first | rwa [add_block] at this | exact this) GW106.out); have hn107_5 : ad105.block ≠ gb106 := Nat.ne_of_lt (Nat.lt_of_lt_of_le (by have := World.block_lt_of_cell? _ _ hx107_0; first | rwa [add_block] at this | exact this) GW106.out); have hn107_6 : ad105.block ≠ gb106 := Nat.ne_of_lt (Nat.lt_of_lt_of_le (by have := World.block_lt_of_cell? _ _ hx107_0; first | rwa [add_block] at this | exact this) GW106.out); replace hx107_0 := (HB.out.cell (World.block_lt_of_cell? w _ hx107_0)).trans hx107_0; replace hx107_1 := (HB.out.cell (World.block_lt_of_cell? w _ hx107_1)).trans hx107_1; replace hx107_2 := (HB.out.cell (World.block_lt_of_cell? w _ hx107_2)).trans hx107_2; replace hx107_3 := (HB.out.cell (World.block_lt_of_cell? w _ hx107_3)).trans hx107_3; replace hx107_4 := (HB.out.cell (World.block_lt_of_cell? w _ hx107_4)).trans hx107_4; replace hx107_5 := (HB.out.cell (World.block_lt_of_cell? w _ hx107_5)).trans hx107_5; replace hx107_0 := (cell_far (p := ⟨gb106, 0, none⟩) (by first | (rw [add_block]; exact hn107_0) | (show (Addr.add _ _).block ≠ _; rw [add_block]; exact hn107_0) | exact hn107_0) (.int .i64 ((rd_T49 l0 a1).f0))).trans hx107_0; replace hx107_1 := (cell_far (p := ⟨gb106, 0, none⟩) (by first | (rw [add_block]; exact hn107_0) | (show (Addr.add _ _).block ≠ _; rw [add_block]; exact hn107_0) | exact hn107_0) (.int .i64 ((rd_T49 l0 a1).f0))).trans hx107_1; replace hx107_2 := (cell_far (p := ⟨gb106, 0, none⟩) (by first | (rw [add_block]; exact hn107_0) | (show (Addr.add _ _).block ≠ _; rw [add_block]; exact hn107_0) | exact hn107_0) (.int .i64 ((rd_T49 l0 a1).f0))).trans hx107_2; replace hx107_3 := (cell_far (p := ⟨gb106, 0, none⟩) (by first | (rw [add_block]; exact hn107_0) | (show (Addr.add _ _).block ≠ _; rw [add_block]; exact hn107_0) | exact hn107_0) (.int .i64 ((rd_T49 l0 a1).f0))).trans hx107_3; replace hx107_4 := (cell_far (p := ⟨gb106, 0, none⟩) (by first | (rw [add_block]; exact hn107_0) | (show (Addr.add _ _).block ≠ _; rw [add_block]; exact hn107_0) | exact hn107_0) (.int .i64 ((rd_T49 l0 a1).f0))).trans hx107_4; replace hx107_5 := (cell_far (p := ⟨gb106, 0, none⟩) (by first | (rw [add_block]; exact hn107_0) | (show (Addr.add _ _).block ≠ _; rw [add_block]; exact hn107_0) | exact hn107_0) (.int .i64 ((rd_T49 l0 a1).f0))).trans hx107_5; replace hx107_0 := (cell_far (p := ⟨gb106, 1, none⟩) (by first | (rw [add_block]; exact hn107_1) | (show (Addr.add _ _).block ≠ _; rw [add_block]; exact hn107_1) | exact hn107_1) (.string ((rd_T49 l0 a1).f1))).trans hx107_0; replace hx107_1 := (cell_far (p := ⟨gb106, 1, none⟩) (by first | (rw [add_block]; exact hn107_1) | (show (Addr.add _ _).block ≠ _; rw [add_block]; exact hn107_1) | exact hn107_1) (.string ((rd_T49 l0 a1).f1))).trans hx107_1; replace hx107_2 := (cell_far (p := ⟨gb106, 1, none⟩) (by first | (rw [add_block]; exact hn107_1) | (show (Addr.add _ _).block ≠ _; rw [add_block]; exact hn107_1) | exact hn107_1) (.string ((rd_T49 l0 a1).f1))).trans hx107_2; replace hx107_3 := (cell_far (p := ⟨gb106, 1, none⟩) (by first | (rw [add_block]; exact hn107_1) | (show (Addr.add _ _).block ≠ _; rw [add_block]; exact hn107_1) | exact hn107_1) (.string ((rd_T49 l0 a1).f1))).trans hx107_3; replace hx107_4 := (cell_far (p := ⟨gb106, 1, none⟩) (by first | (rw [add_block]; exact hn107_1) | (show (Addr.add _ _).block ≠ _; rw [add_block]; exact hn107_1) | exact hn107_1) (.string ((rd_T49 l0 a1).f1))).trans hx107_4; replace hx107_5 := (cell_far (p := ⟨gb106, 1, none⟩) (by first | (rw [add_block]; exact hn107_1) | (show (Addr.add _ _).block ≠ _; rw [add_block]; exact hn107_1) | exact hn107_1) (.string ((rd_T49 l0 a1).f1))).trans hx107_5; replace hx107_0 := (cell_far (p := ⟨gb106, 2, none⟩) (by first | (rw [add_block]; exact hn107_2) | (show (Addr.add _ _).block ≠ _; rw [add_block]; exact hn107_2) | exact hn107_2) (.int .i64 ((rd_T49 l0 a1).f2))).trans hx107_0; replace hx107_1 := (cell_far (p := ⟨gb106, 2, none⟩) (by first | (rw [add_block]; exact hn107_2) | (show (Addr.add _ _).block ≠ _; rw [add_block]; exact hn107_2) | exact hn107_2) (.int .i64 ((rd_T49 l0 a1).f2))).trans hx107_1; replace hx107_2 := (cell_far (p := ⟨gb106, 2, none⟩) (by first | (rw [add_block]; exact hn107_2) | (show (Addr.add _ _).block ≠ _; rw [add_block]; exact hn107_2) | exact hn107_2) (.int .i64 ((rd_T49 l0 a1).f2))).trans hx107_2; replace hx107_3 := (cell_far (p := ⟨gb106, 2, none⟩) (by first | (rw [add_block]; exact hn107_2) | (show (Addr.add _ _).block ≠ _; rw [add_block]; exact hn107_2) | exact hn107_2) (.int .i64 ((rd_T49 l0 a1).f2))).trans hx107_3; replace hx107_4 := (cell_far (p := ⟨gb106, 2, none⟩) (by first | (rw [add_block]; exact hn107_2) | (show (Addr.add _ _).block ≠ _; rw [add_block]; exact hn107_2) | exact hn107_2) (.int .i64 ((rd_T49 l0 a1).f2))).trans hx107_4; replace hx107_5 := (cell_far (p := ⟨gb106, 2, none⟩) (by first | (rw [add_block]; exact hn107_2) | (show (Addr.add _ _).block ≠ _; rw [add_block]; exact hn107_2) | exact hn107_2) (.int .i64 ((rd_T49 l0 a1).f2))).trans hx107_5; replace hx107_0 := (cell_far (p := ⟨gb106, 3, none⟩) (by first | (rw [add_block]; exact hn107_3) | (show (Addr.add _ _).block ≠ _; rw [add_block]; exact hn107_3) | exact hn107_3) (.bool ((rd_T49 l0 a1).f3))).trans hx107_0; replace hx107_1 := (cell_far (p := ⟨gb106, 3, none⟩) (by first | (rw [add_block]; exact hn107_3) | (show (Addr.add _ _).block ≠ _; rw [add_block]; exact hn107_3) | exact hn107_3) (.bool ((rd_T49 l0 a1).f3))).trans hx107_1; replace hx107_2 := (cell_far (p := ⟨gb106, 3, none⟩) (by first | (rw [add_block]; exact hn107_3) | (show (Addr.add _ _).block ≠ _; rw [add_block]; exact hn107_3) | exact hn107_3) (.bool ((rd_T49 l0 a1).f3))).trans hx107_2; replace hx107_3 := (cell_far (p := ⟨gb106, 3, none⟩) (by first | (rw [add_block]; exact hn107_3) | (show (Addr.add _ _).block ≠ _; rw [add_block]; exact hn107_3) | exact hn107_3) (.bool ((rd_T49 l0 a1).f3))).trans hx107_3; replace hx107_4 := (cell_far (p := ⟨gb106, 3, none⟩) (by first | (rw [add_block]; exact hn107_3) | (show (Addr.add _ _).block ≠ _; rw [add_block]; exact hn107_3) | exact hn107_3) (.bool ((rd_T49 l0 a1).f3))).trans hx107_4; replace hx107_5 := (cell_far (p := ⟨gb106, 3, none⟩) (by first | (rw [add_block]; exact hn107_3) | (show (Addr.add _ _).block ≠ _; rw [add_block]; exact hn107_3) | exact hn107_3) (.bool ((rd_T49 l0 a1).f3))).trans hx107_5; replace hx107_0 := (cell_far (p := ⟨gb106, 4, none⟩) (by first | (rw [add_block]; exact hn107_4) | (show (Addr.add _ _).block ≠ _; rw [add_block]; exact hn107_4) | exact hn107_4) (.bool ((rd_T49 l0 a1).f4))).trans hx107_0; replace hx107_1 := (cell_far (p := ⟨gb106, 4, none⟩) (by first | (rw [add_block]; exact hn107_4) | (show (Addr.add _ _).block ≠ _; rw [add_block]; exact hn107_4) | exact hn107_4) (.bool ((rd_T49 l0 a1).f4))).trans hx107_1; replace hx107_2 := (cell_far (p := ⟨gb106, 4, none⟩) (by first | (rw [add_block]; exact hn107_4) | (show (Addr.add _ _).block ≠ _; rw [add_block]; exact hn107_4) | exact hn107_4) (.bool ((rd_T49 l0 a1).f4))).trans hx107_2; replace hx107_3 := (cell_far (p := ⟨gb106, 4, none⟩) (by first | (rw [add_block]; exact hn107_4) | (show (Addr.add _ _).block ≠ _; rw [add_block]; exact hn107_4) | exact hn107_4) (.bool ((rd_T49 l0 a1).f4))).trans hx107_3; replace hx107_4 := (cell_far (p := ⟨gb106, 4, none⟩) (by first | (rw [add_block]; exact hn107_4) | (show (Addr.add _ _).block ≠ _; rw [add_block]; exact hn107_4) | exact hn107_4) (.bool ((rd_T49 l0 a1).f4))).trans hx107_4; replace hx107_5 := (cell_far (p := ⟨gb106, 4, none⟩) (by first | (rw [add_block]; exact hn107_4) | (show (Addr.add _ _).block ≠ _; rw [add_block]; exact hn107_4) | exact hn107_4) (.bool ((rd_T49 l0 a1).f4))).trans hx107_5; replace hx107_0 := (cell_far (p := ⟨gb106, 5, none⟩) (by first | (rw [add_block]; exact hn107_5) | (show (Addr.add _ _).block ≠ _; rw [add_block]; exact hn107_5) | exact hn107_5) (.bool ((rd_T49 l0 a1).f5))).trans hx107_0; replace hx107_1 := (cell_far (p := ⟨gb106, 5, none⟩) (by first | (rw [add_block]; exact hn107_5) | (show (Addr.add _ _).block ≠ _; rw [add_block]; exact hn107_5) | exact hn107_5) (.bool ((rd_T49 l0 a1).f5))).trans hx107_1; replace hx107_2 := (cell_far (p := ⟨gb106, 5, none⟩) (by first | (rw [add_block]; exact hn107_5) | (show (Addr.add _ _).block ≠ _; rw [add_block]; exact hn107_5) | exact hn107_5) (.bool ((rd_T49 l0 a1).f5))).trans hx107_2; replace hx107_3 := (cell_far (p := ⟨gb106, 5, none⟩) (by first | (rw [add_block]; exact hn107_5) | (show (Addr.add _ _).block ≠ _; rw [add_block]; exact hn107_5) | exact hn107_5) (.bool ((rd_T49 l0 a1).f5))).trans hx107_3; replace hx107_4 := (cell_far (p := ⟨gb106, 5, none⟩) (by first | (rw [add_block]; exact hn107_5) | (show (Addr.add _ _).block ≠ _; rw [add_block]; exact hn107_5) | exact hn107_5) (.bool ((rd_T49 l0 a1).f5))).trans hx107_4; replace hx107_5 := (cell_far (p := ⟨gb106, 5, none⟩) (by first | (rw [add_block]; exact hn107_5) | (show (Addr.add _ _).block ≠ _; rw [add_block]; exact hn107_5) | exact hn107_5) (.bool ((rd_T49 l0 a1).f5))).trans hx107_5; replace hx107_0 := (cell_far (p := ⟨gb106, 6, none⟩) (by first | (rw [add_block]; exact hn107_6) | (show (Addr.add _ _).block ≠ _; rw [add_block]; exact hn107_6) | exact hn107_6) (.slice none 0 0)).trans hx107_0; replace hx107_1 := (cell_far (p := ⟨gb106, 6, none⟩) (by first | (rw [add_block]; exact hn107_6) | (show (Addr.add _ _).block ≠ _; rw [add_block]; exact hn107_6) | exact hn107_6) (.slice none 0 0)).trans hx107_1; replace hx107_2 := (cell_far (p := ⟨gb106, 6, none⟩) (by first | (rw [add_block]; exact hn107_6) | (show (Addr.add _ _).block ≠ _; rw [add_block]; exact hn107_6) | exact hn107_6) (.slice none 0 0)).trans hx107_2; replace hx107_3 := (cell_far (p := ⟨gb106, 6, none⟩) (by first | (rw [add_block]; exact hn107_6) | (show (Addr.add _ _).block ≠ _; rw [add_block]; exact hn107_6) | exact hn107_6) (.slice none 0 0)).trans hx107_3; replace hx107_4 := (cell_far (p := ⟨gb106, 6, none⟩) (by first | (rw [add_block]; exact hn107_6) | (show (Addr.add _ _).block ≠ _; rw [add_block]; exact hn107_6) | exact hn107_6) (.slice none 0 0)).trans hx107_4; replace hx107_5 := (cell_far (p := ⟨gb106, 6, none⟩) (by first | (rw [add_block]; exact hn107_6) | (show (Addr.add _ _).block ≠ _; rw [add_block]; exact hn107_6) | exact hn107_6) (.slice none 0 0)).trans hx107_5; clear hn107_0; clear hn107_1; clear hn107_2; clear hn107_3; clear hn107_4; clear hn107_5; clear hn107_6; replace p107 := eq_true p107; replace q107 := eq_true q107) | ((with_reducible refine gate_callee (f := 43) rfl ?_); refine goesL_ (some 21) rfl rfl Tryd.func43 (by kernel_rfl) rfl #[.agg #[.int .i64 ((rd_T49 l0 a1).f0), .string ((rd_T49 l0 a1).f1), .int .i64 ((rd_T49 l0 a1).f2), .bool ((rd_T49 l0 a1).f3), .bool ((rd_T49 l0 a1).f4), .bool ((rd_T49 l0 a1).f5)]] rfl (by (try simp only [List.map_toArray, List.map_cons, List.map_nil]); first | done | rfl | (simp only [List.length_drop, List.length_take]; rfl)) ?_; (with_reducible refine (fleuronref1_closes.calls k ((rd_T49 l0 a1).f0) ((rd_T49 l0 a1).f1) ((rd_T49 l0 a1).f2) ((rd_T49 l0 a1).f3) ((rd_T49 l0 a1).f4) ((rd_T49 l0 a1).f5) t108 _ A6.out).mono ?_); rintro e w12 ⟨rfl, hb⟩; refine ⟨_, rfl, ?_⟩; have n0_ := Aside0.mk (blk_below (g := gb104) (o := .cells #[.int .i64 0, .string (⟨#[]⟩ : ByteArray), .int .i64 0, .bool false, .bool false, .bool false, .slice none 0 0] 51 (0, 0)) (by (with_reducible repeat (first | refine blk_drewN ?_ _ | refine blk_drew ?_ | refine blk_alloc ?_ _)); refine blk_far ?_ NB104_106.out _; (with_reducible repeat (first | refine blk_drewN ?_ _ | refine blk_drew ?_ | refine blk_alloc ?_ _)); refine blk_far ?_ NB104_106.out _; (with_reducible repeat (first | refine blk_drewN ?_ _ | refine blk_drew ?_ | refine blk_alloc ?_ _)); refine blk_far ?_ NB104_106.out _; (with_reducible repeat (first | refine blk_drewN ?_ _ | refine blk_drew ?_ | refine blk_alloc ?_ _)); refine blk_far ?_ NB104_106.out _; (with_reducible repeat (first | refine blk_drewN ?_ _ | refine blk_drew ?_ | refine blk_alloc ?_ _)); refine blk_far ?_ NB104_106.out _; (with_reducible repeat (first | refine blk_drewN ?_ _ | refine blk_drew ?_ | refine blk_alloc ?_ _)); refine blk_far ?_ NB104_106.out _; (with_reducible repeat (first | refine blk_drewN ?_ _ | refine blk_drew ?_ | refine blk_alloc ?_ _)); refine blk_far ?_ NB104_106.out _; (with_reducible repeat (first | refine blk_drewN ?_ _ | refine blk_drew ?_ | refine blk_alloc ?_ _)); exact BK104.out) hb); have n1_ := Aside0.mk (blk_below (g := gb106) (o := .cells #[.int .i64 ((rd_T49 l0 a1).f0), .string ((rd_T49 l0 a1).f1), .int .i64 ((rd_T49 l0 a1).f2), .bool ((rd_T49 l0 a1).f3), .bool ((rd_T49 l0 a1).f4), .bool ((rd_T49 l0 a1).f5), .slice none 0 0] 51 (0, 0)) (by (with_reducible repeat (first | refine blk_drewN ?_ _ | refine blk_drew ?_ | refine blk_alloc ?_ _)); refine blk_put (cs := #[.int .i64 ((rd_T49 l0 a1).f0), .string ((rd_T49 l0 a1).f1), .int .i64 ((rd_T49 l0 a1).f2), .bool ((rd_T49 l0 a1).f3), .bool ((rd_T49 l0 a1).f4), .bool ((rd_T49 l0 a1).f5), .slice none 0 0]) ?_ 6 _ rfl; (with_reducible repeat (first | refine blk_drewN ?_ _ | refine blk_drew ?_ | refine blk_alloc ?_ _)); refine blk_put (cs := #[.int .i64 ((rd_T49 l0 a1).f0), .string ((rd_T49 l0 a1).f1), .int .i64 ((rd_T49 l0 a1).f2), .bool ((rd_T49 l0 a1).f3), .bool ((rd_T49 l0 a1).f4), .bool false, .slice none 0 0]) ?_ 5 _ rfl; (with_reducible repeat (first | refine blk_drewN ?_ _ | refine blk_drew ?_ | refine blk_alloc ?_ _)); refine blk_put (cs := #[.int .i64 ((rd_T49 l0 a1).f0), .string ((rd_T49 l0 a1).f1), .int .i64 ((rd_T49 l0 a1).f2), .bool ((rd_T49 l0 a1).f3), .bool false, .bool false, .slice none 0 0]) ?_ 4 _ rfl; (with_reducible repeat (first | refine blk_drewN ?_ _ | refine blk_drew ?_ | refine blk_alloc ?_ _)); refine blk_put (cs := #[.int .i64 ((rd_T49 l0 a1).f0), .string ((rd_T49 l0 a1).f1), .int .i64 ((rd_T49 l0 a1).f2), .bool false, .bool false, .bool false, .slice none 0 0]) ?_ 3 _ rfl; (with_reducible repeat (first | refine blk_drewN ?_ _ | refine blk_drew ?_ | refine blk_alloc ?_ _)); refine blk_put (cs := #[.int .i64 ((rd_T49 l0 a1).f0), .string ((rd_T49 l0 a1).f1), .int .i64 0, .bool false, .bool false, .bool false, .slice none 0 0]) ?_ 2 _ rfl; (with_reducible repeat (first | refine blk_drewN ?_ _ | refine blk_drew ?_ | refine blk_alloc ?_ _)); refine blk_put (cs := #[.int .i64 ((rd_T49 l0 a1).f0), .string (⟨#[]⟩ : ByteArray), .int .i64 0, .bool false, .bool false, .bool false, .slice none 0 0]) ?_ 1 _ rfl; (with_reducible repeat (first | refine blk_drewN ?_ _ | refine blk_drew ?_ | refine blk_alloc ?_ _)); refine blk_put (cs := #[.int .i64 0, .string (⟨#[]⟩ : ByteArray), .int .i64 0, .bool false, .bool false, .bool false, .slice none 0 0]) ?_ 0 _ rfl; (with_reducible repeat (first | refine blk_drewN ?_ _ | refine blk_drew ?_ | refine blk_alloc ?_ _)); exact BK106.out) hb); have n2_ := Aside0.mk (below_step (by repeat (first | (with_reducible first | exact HB.out | apply below_alloc | apply pw_below_drewN | apply below_drew1 | refine below_set ?_ GE104.out | refine below_set ?_ GE106.out) | exact HB.out)) hb); clear BK104; clear BK106; clear HB; have BK104 := n0_; have BK106 := n1_; have HB := n2_; clear n0_ n1_ n2_; (try clear hb); (try clear hb2); (try clear hk); (try clear hi); have hcz13_0 : w12.cell? ⟨gb106, 0, none⟩ = some (.int .i64 ((rd_T49 l0 a1).f0)) := (blk_cell BK106.out 0).trans rfl; have hcz13_1 : w12.cell? ⟨gb106, 1, none⟩ = some (.string ((rd_T49 l0 a1).f1)) := (blk_cell BK106.out 1).trans rfl; have hcz13_2 : w12.cell? ⟨gb106, 2, none⟩ = some (.int .i64 ((rd_T49 l0 a1).f2)) := (blk_cell BK106.out 2).trans rfl; have hcz13_3 : w12.cell? ⟨gb106, 3, none⟩ = some (.bool ((rd_T49 l0 a1).f3)) := (blk_cell BK106.out 3).trans rfl; have hcz13_4 : w12.cell? ⟨gb106, 4, none⟩ = some (.bool ((rd_T49 l0 a1).f4)) := (blk_cell BK106.out 4).trans rfl; have hcz13_5 : w12.cell? ⟨gb106, 5, none⟩ = some (.bool ((rd_T49 l0 a1).f5)) := (blk_cell BK106.out 5).trans rfl; have hcz13_6 : w12.cell? ⟨gb106, 6, none⟩ = some (.slice none 0 0) := (blk_cell BK106.out 6).trans rfl; have hfz13_0 := blk_frozen BK106.out 0; have hfz13_1 := blk_frozen BK106.out 1; have hfz13_2 := blk_frozen BK106.out 2; have hfz13_3 := blk_frozen BK106.out 3; have hfz13_4 := blk_frozen BK106.out 4; have hfz13_5 := blk_frozen BK106.out 5; have hfz13_6 := blk_frozen BK106.out 6; have hcz14_0 : w12.cell? ⟨gb104, 0, none⟩ = some (.int .i64 0) := (blk_cell BK104.out 0).trans rfl; have hcz14_1 : w12.cell? ⟨gb104, 1, none⟩ = some (.string (⟨#[]⟩ : ByteArray)) := (blk_cell BK104.out 1).trans rfl; have hcz14_2 : w12.cell? ⟨gb104, 2, none⟩ = some (.int .i64 0) := (blk_cell BK104.out 2).trans rfl; have hcz14_3 : w12.cell? ⟨gb104, 3, none⟩ = some (.bool false) := (blk_cell BK104.out 3).trans rfl; have hcz14_4 : w12.cell? ⟨gb104, 4, none⟩ = some (.bool false) := (blk_cell BK104.out 4).trans rfl; have hcz14_5 : w12.cell? ⟨gb104, 5, none⟩ = some (.bool false) := (blk_cell BK104.out 5).trans rfl; have hcz14_6 : w12.cell? ⟨gb104, 6, none⟩ = some (.slice none 0 0) := (blk_cell BK104.out 6).trans rfl; have hfz14_0 := blk_frozen BK104.out 0; have hfz14_1 := blk_frozen BK104.out 1; have hfz14_2 := blk_frozen BK104.out 2; have hfz14_3 := blk_frozen BK104.out 3; have hfz14_4 := blk_frozen BK104.out 4; have hfz14_5 := blk_frozen BK104.out 5; have hfz14_6 := blk_frozen BK104.out 6))
        refine bodyPost_ret (results_ct rfl _ _ gb104 51 #[.int .i64 ((rd_T49 l0 a1).f0), .string ((rd_T49 l0 a1).f1), .int .i64 ((rd_T49 l0 a1).f2), .bool ((rd_T49 l0 a1).f3), .bool ((rd_T49 l0 a1).f4), .bool ((rd_T49 l0 a1).f5), .slice none 0 0] (0, 0) _ rfl (by (with_reducible repeat (first | refine blk_drewN ?_ _ | refine blk_drew ?_ | refine blk_alloc ?_ _)); refine blk_put (cs := #[.int .i64 ((rd_T49 l0 a1).f0), .string ((rd_T49 l0 a1).f1), .int .i64 ((rd_T49 l0 a1).f2), .bool ((rd_T49 l0 a1).f3), .bool ((rd_T49 l0 a1).f4), .bool ((rd_T49 l0 a1).f5), .slice none 0 0]) ?_ 6 _ rfl; (with_reducible repeat (first | refine blk_drewN ?_ _ | refine blk_drew ?_ | refine blk_alloc ?_ _)); refine blk_put (cs := #[.int .i64 ((rd_T49 l0 a1).f0), .string ((rd_T49 l0 a1).f1), .int .i64 ((rd_T49 l0 a1).f2), .bool ((rd_T49 l0 a1).f3), .bool ((rd_T49 l0 a1).f4), .bool false, .slice none 0 0]) ?_ 5 _ rfl; (with_reducible repeat (first | refine blk_drewN ?_ _ | refine blk_drew ?_ | refine blk_alloc ?_ _)); refine blk_put (cs := #[.int .i64 ((rd_T49 l0 a1).f0), .string ((rd_T49 l0 a1).f1), .int .i64 ((rd_T49 l0 a1).f2), .bool ((rd_T49 l0 a1).f3), .bool false, .bool false, .slice none 0 0]) ?_ 4 _ rfl; (with_reducible repeat (first | refine blk_drewN ?_ _ | refine blk_drew ?_ | refine blk_alloc ?_ _)); refine blk_put (cs := #[.int .i64 ((rd_T49 l0 a1).f0), .string ((rd_T49 l0 a1).f1), .int .i64 ((rd_T49 l0 a1).f2), .bool false, .bool false, .bool false, .slice none 0 0]) ?_ 3 _ rfl; (with_reducible repeat (first | refine blk_drewN ?_ _ | refine blk_drew ?_ | refine blk_alloc ?_ _)); refine blk_put (cs := #[.int .i64 ((rd_T49 l0 a1).f0), .string ((rd_T49 l0 a1).f1), .int .i64 0, .bool false, .bool false, .bool false, .slice none 0 0]) ?_ 2 _ rfl; (with_reducible repeat (first | refine blk_drewN ?_ _ | refine blk_drew ?_ | refine blk_alloc ?_ _)); refine blk_put (cs := #[.int .i64 ((rd_T49 l0 a1).f0), .string (⟨#[]⟩ : ByteArray), .int .i64 0, .bool false, .bool false, .bool false, .slice none 0 0]) ?_ 1 _ rfl; (with_reducible repeat (first | refine blk_drewN ?_ _ | refine blk_drew ?_ | refine blk_alloc ?_ _)); refine blk_put (cs := #[.int .i64 0, .string (⟨#[]⟩ : ByteArray), .int .i64 0, .bool false, .bool false, .bool false, .slice none 0 0]) ?_ 0 _ rfl; (with_reducible repeat (first | refine blk_drewN ?_ _ | refine blk_drew ?_ | refine blk_alloc ?_ _)); exact BK104.out) Tryd.underlying51 rfl (by kernel_rfl)) rfl ?_
        exact ⟨_, by first | rfl | (simp [errW_none, errW_some] <;> rfl) | (simp [*, errW_none, errW_some] <;> rfl), by first | exact Kd.R_nil _ _ _ _ _ | exact Kd.N_nil _ _ _ _ _ | exact Kd.V_nil _ _ _ _ _ | exact Kd.Q_nil _ _ _ _ _ | exact Kd.S_nil _ _ _ _ _, by repeat (first | (with_reducible first | exact HB.out | apply below_alloc | apply pw_below_drewN | apply below_drew1 | refine below_set ?_ GE104.out | refine below_set ?_ GE106.out) | exact HB.out)⟩
      · rw [if_neg c7] at H
        have c7b0 : (t108.toList == ([] : List UInt8)) = false := beq_eq_false_iff_ne.mpr c7
        have c7b1 : (t108.toList != ([] : List UInt8)) = true := bne_iff_ne.mpr c7
        have H' := Aside0.mk H
        clear H
        go_enter Tryd.func29, Tryd.ntmps29
        go_wp2_with (first | ((with_reducible refine gate_dst (N := 6) rfl ?_); refine box_event ?hg (N := 6) ?hd (cs := #[.int .i64 0, .string (⟨#[]⟩ : ByteArray), .int .i64 0, .bool false, .bool false, .bool false, .slice none 0 0]) (t := 51) ?hr ?_; (case hd => rfl); (case hg => rfl); (case hr => first | (go_simp; done) | (go_simp; rfl)); intro gb104 hg w15 hbox hb; have n0_ := Aside0.mk (below_step (by repeat (first | (with_reducible first | exact HB.out | apply below_alloc | apply pw_below_drewN | apply below_drew1) | exact HB.out)) hb); have n1_ := Aside0.mk (hbox); have n2_ := Aside0.mk ((by rw [hg]; exact (below_size (by repeat (first | (with_reducible first | exact HB.out | apply below_alloc | apply pw_below_drewN | apply below_drew1) | exact HB.out))) : w.heap.size ≤ gb104)); have n3_ := Aside0.mk ((by rw [hg]; exact (below_size (by repeat (first | (with_reducible first | exact HB.out | apply below_alloc | apply pw_below_drewN | apply below_drew1) | exact HB.out))) : w.heap.size ≤ gb104)); clear HB; have HB := n0_; have BK104 := n1_; have GW104 := n2_; have GE104 := n3_; clear n0_ n1_ n2_ n3_; clear hb hbox hg; have p105 : 0 ≤ (a1 : Int) := of_decide_eq_true (by first | (with_reducible assumption) | assumption); have q105 : a1 < (l0.length : Int) := of_decide_eq_true (by first | (with_reducible assumption) | assumption); obtain ⟨ad105, e105, hx105_0, hx105_1, hx105_2, hx105_3, hx105_4, hx105_5⟩ := at_T49 HR0.out a1 p105 q105; cases e105; replace hx105_0 := (HB.out.cell (World.block_lt_of_cell? w _ hx105_0)).trans hx105_0; replace hx105_1 := (HB.out.cell (World.block_lt_of_cell? w _ hx105_1)).trans hx105_1; replace hx105_2 := (HB.out.cell (World.block_lt_of_cell? w _ hx105_2)).trans hx105_2; replace hx105_3 := (HB.out.cell (World.block_lt_of_cell? w _ hx105_3)).trans hx105_3; replace hx105_4 := (HB.out.cell (World.block_lt_of_cell? w _ hx105_4)).trans hx105_4; replace hx105_5 := (HB.out.cell (World.block_lt_of_cell? w _ hx105_5)).trans hx105_5; replace p105 := eq_true p105; replace q105 := eq_true q105) | ((with_reducible refine gate_dst (N := 8) rfl ?_); refine box_event ?hg (N := 8) ?hd (cs := #[.int .i64 0, .string (⟨#[]⟩ : ByteArray), .int .i64 0, .bool false, .bool false, .bool false, .slice none 0 0]) (t := 51) ?hr ?_; (case hd => rfl); (case hg => rfl); (case hr => first | (go_simp; done) | (go_simp; rfl)); intro gb106 hg w16 hbox hb; have n0_ := Aside0.mk (blk_below (g := gb104) (o := .cells #[.int .i64 0, .string (⟨#[]⟩ : ByteArray), .int .i64 0, .bool false, .bool false, .bool false, .slice none 0 0] 51 (0, 0)) (by (with_reducible repeat (first | refine blk_drewN ?_ _ | refine blk_drew ?_ | refine blk_alloc ?_ _)); exact BK104.out) hb); have n1_ := Aside0.mk (below_step (by repeat (first | (with_reducible first | exact HB.out | apply below_alloc | apply pw_below_drewN | apply below_drew1 | refine below_set ?_ GE104.out) | exact HB.out)) hb); have n2_ := Aside0.mk (hbox); have n3_ := Aside0.mk ((by rw [hg]; exact (below_size (by repeat (first | (with_reducible first | exact HB.out | apply below_alloc | apply pw_below_drewN | apply below_drew1 | refine below_set ?_ GE104.out) | exact HB.out))) : w.heap.size ≤ gb106)); have n4_ := Aside0.mk ((by rw [hg]; exact (below_size (by repeat (first | (with_reducible first | exact HB.out | apply below_alloc | apply pw_below_drewN | apply below_drew1 | refine below_set ?_ GE104.out) | exact HB.out))) : w.heap.size ≤ gb106)); have n5_ := Aside0.mk ((by rw [hg]; exact Nat.ne_of_lt (blk_lt (g := gb104) (o := .cells #[.int .i64 0, .string (⟨#[]⟩ : ByteArray), .int .i64 0, .bool false, .bool false, .bool false, .slice none 0 0] 51 (0, 0)) (by (with_reducible repeat (first | refine blk_drewN ?_ _ | refine blk_drew ?_ | refine blk_alloc ?_ _)); exact BK104.out)) : gb104 ≠ gb106)); have n6_ := Aside0.mk ((by rw [hg]; exact Nat.ne_of_gt (blk_lt (g := gb104) (o := .cells #[.int .i64 0, .string (⟨#[]⟩ : ByteArray), .int .i64 0, .bool false, .bool false, .bool false, .slice none 0 0] 51 (0, 0)) (by (with_reducible repeat (first | refine blk_drewN ?_ _ | refine blk_drew ?_ | refine blk_alloc ?_ _)); exact BK104.out)) : gb106 ≠ gb104)); clear BK104; clear HB; have BK104 := n0_; have HB := n1_; have BK106 := n2_; have GW106 := n3_; have GE106 := n4_; have NB104_106 := n5_; have NB106_104 := n6_; clear n0_ n1_ n2_ n3_ n4_ n5_ n6_; clear hb hbox hg; have hnb17 := NB106_104.out; have hnc17 := NB104_106.out; have hcz18_0 : w16.cell? ⟨gb106, 0, none⟩ = some (.int .i64 0) := (blk_cell BK106.out 0).trans rfl; have hcz18_1 : w16.cell? ⟨gb106, 1, none⟩ = some (.string (⟨#[]⟩ : ByteArray)) := (blk_cell BK106.out 1).trans rfl; have hcz18_2 : w16.cell? ⟨gb106, 2, none⟩ = some (.int .i64 0) := (blk_cell BK106.out 2).trans rfl; have hcz18_3 : w16.cell? ⟨gb106, 3, none⟩ = some (.bool false) := (blk_cell BK106.out 3).trans rfl; have hcz18_4 : w16.cell? ⟨gb106, 4, none⟩ = some (.bool false) := (blk_cell BK106.out 4).trans rfl; have hcz18_5 : w16.cell? ⟨gb106, 5, none⟩ = some (.bool false) := (blk_cell BK106.out 5).trans rfl; have hcz18_6 : w16.cell? ⟨gb106, 6, none⟩ = some (.slice none 0 0) := (blk_cell BK106.out 6).trans rfl; have hfz18_0 := blk_frozen BK106.out 0; have hfz18_1 := blk_frozen BK106.out 1; have hfz18_2 := blk_frozen BK106.out 2; have hfz18_3 := blk_frozen BK106.out 3; have hfz18_4 := blk_frozen BK106.out 4; have hfz18_5 := blk_frozen BK106.out 5; have hfz18_6 := blk_frozen BK106.out 6; have p107 : 0 ≤ (a1 : Int) := of_decide_eq_true (by first | (with_reducible assumption) | assumption); have q107 : a1 < (l0.length : Int) := of_decide_eq_true (by first | (with_reducible assumption) | assumption); obtain ⟨ad107, e107, hx107_0, hx107_1, hx107_2, hx107_3, hx107_4, hx107_5⟩ := at_T49 HR0.out a1 p107 q107; obtain rfl : ad105 = ad107 := (by injection e107); have hn107_0 : ad105.block ≠ gb106 := Nat.ne_of_lt (Nat.lt_of_lt_of_le (by have := World.block_lt_of_cell? _ _ hx107_0; first | rwa [add_block] at this | exact this) GW106.out); have hn107_1 : ad105.block ≠ gb106 := Nat.ne_of_lt (Nat.lt_of_lt_of_le (by have := World.block_lt_of_cell? _ _ hx107_0; first | rwa [add_block] at this | exact this) GW106.out); have hn107_2 : ad105.block ≠ gb106 := Nat.ne_of_lt (Nat.lt_of_lt_of_le (by have := World.block_lt_of_cell? _ _ hx107_0; first | rwa [add_block] at this | exact this) GW106.out); have hn107_3 : ad105.block ≠ gb106 := Nat.ne_of_lt (Nat.lt_of_lt_of_le (by have := World.block_lt_of_cell? _ _ hx107_0; first | rwa [add_block] at this | exact this) GW106.out); have hn107_4 : ad105.block ≠ gb106 := Nat.ne_of_lt (Nat.lt_of_lt_of_le (by have := World.block_lt_of_cell? _ _ hx107_0; first | rwa [add_block] at this | exact this) GW106.out); have hn107_5 : ad105.block ≠ gb106 := Nat.ne_of_lt (Nat.lt_of_lt_of_le (by have := World.block_lt_of_cell? _ _ hx107_0; first | rwa [add_block] at this | exact this) GW106.out); have hn107_6 : ad105.block ≠ gb106 := Nat.ne_of_lt (Nat.lt_of_lt_of_le (by have := World.block_lt_of_cell? _ _ hx107_0; first | rwa [add_block] at this | exact this) GW106.out); replace hx107_0 := (HB.out.cell (World.block_lt_of_cell? w _ hx107_0)).trans hx107_0; replace hx107_1 := (HB.out.cell (World.block_lt_of_cell? w _ hx107_1)).trans hx107_1; replace hx107_2 := (HB.out.cell (World.block_lt_of_cell? w _ hx107_2)).trans hx107_2; replace hx107_3 := (HB.out.cell (World.block_lt_of_cell? w _ hx107_3)).trans hx107_3; replace hx107_4 := (HB.out.cell (World.block_lt_of_cell? w _ hx107_4)).trans hx107_4; replace hx107_5 := (HB.out.cell (World.block_lt_of_cell? w _ hx107_5)).trans hx107_5; replace hx107_0 := (cell_far (p := ⟨gb106, 0, none⟩) (by first | (rw [add_block]; exact hn107_0) | (show (Addr.add _ _).block ≠ _; rw [add_block]; exact hn107_0) | exact hn107_0) (.int .i64 ((rd_T49 l0 a1).f0))).trans hx107_0; replace hx107_1 := (cell_far (p := ⟨gb106, 0, none⟩) (by first | (rw [add_block]; exact hn107_0) | (show (Addr.add _ _).block ≠ _; rw [add_block]; exact hn107_0) | exact hn107_0) (.int .i64 ((rd_T49 l0 a1).f0))).trans hx107_1; replace hx107_2 := (cell_far (p := ⟨gb106, 0, none⟩) (by first | (rw [add_block]; exact hn107_0) | (show (Addr.add _ _).block ≠ _; rw [add_block]; exact hn107_0) | exact hn107_0) (.int .i64 ((rd_T49 l0 a1).f0))).trans hx107_2; replace hx107_3 := (cell_far (p := ⟨gb106, 0, none⟩) (by first | (rw [add_block]; exact hn107_0) | (show (Addr.add _ _).block ≠ _; rw [add_block]; exact hn107_0) | exact hn107_0) (.int .i64 ((rd_T49 l0 a1).f0))).trans hx107_3; replace hx107_4 := (cell_far (p := ⟨gb106, 0, none⟩) (by first | (rw [add_block]; exact hn107_0) | (show (Addr.add _ _).block ≠ _; rw [add_block]; exact hn107_0) | exact hn107_0) (.int .i64 ((rd_T49 l0 a1).f0))).trans hx107_4; replace hx107_5 := (cell_far (p := ⟨gb106, 0, none⟩) (by first | (rw [add_block]; exact hn107_0) | (show (Addr.add _ _).block ≠ _; rw [add_block]; exact hn107_0) | exact hn107_0) (.int .i64 ((rd_T49 l0 a1).f0))).trans hx107_5; replace hx107_0 := (cell_far (p := ⟨gb106, 1, none⟩) (by first | (rw [add_block]; exact hn107_1) | (show (Addr.add _ _).block ≠ _; rw [add_block]; exact hn107_1) | exact hn107_1) (.string ((rd_T49 l0 a1).f1))).trans hx107_0; replace hx107_1 := (cell_far (p := ⟨gb106, 1, none⟩) (by first | (rw [add_block]; exact hn107_1) | (show (Addr.add _ _).block ≠ _; rw [add_block]; exact hn107_1) | exact hn107_1) (.string ((rd_T49 l0 a1).f1))).trans hx107_1; replace hx107_2 := (cell_far (p := ⟨gb106, 1, none⟩) (by first | (rw [add_block]; exact hn107_1) | (show (Addr.add _ _).block ≠ _; rw [add_block]; exact hn107_1) | exact hn107_1) (.string ((rd_T49 l0 a1).f1))).trans hx107_2; replace hx107_3 := (cell_far (p := ⟨gb106, 1, none⟩) (by first | (rw [add_block]; exact hn107_1) | (show (Addr.add _ _).block ≠ _; rw [add_block]; exact hn107_1) | exact hn107_1) (.string ((rd_T49 l0 a1).f1))).trans hx107_3; replace hx107_4 := (cell_far (p := ⟨gb106, 1, none⟩) (by first | (rw [add_block]; exact hn107_1) | (show (Addr.add _ _).block ≠ _; rw [add_block]; exact hn107_1) | exact hn107_1) (.string ((rd_T49 l0 a1).f1))).trans hx107_4; replace hx107_5 := (cell_far (p := ⟨gb106, 1, none⟩) (by first | (rw [add_block]; exact hn107_1) | (show (Addr.add _ _).block ≠ _; rw [add_block]; exact hn107_1) | exact hn107_1) (.string ((rd_T49 l0 a1).f1))).trans hx107_5; replace hx107_0 := (cell_far (p := ⟨gb106, 2, none⟩) (by first | (rw [add_block]; exact hn107_2) | (show (Addr.add _ _).block ≠ _; rw [add_block]; exact hn107_2) | exact hn107_2) (.int .i64 ((rd_T49 l0 a1).f2))).trans hx107_0; replace hx107_1 := (cell_far (p := ⟨gb106, 2, none⟩) (by first | (rw [add_block]; exact hn107_2) | (show (Addr.add _ _).block ≠ _; rw [add_block]; exact hn107_2) | exact hn107_2) (.int .i64 ((rd_T49 l0 a1).f2))).trans hx107_1; replace hx107_2 := (cell_far (p := ⟨gb106, 2, none⟩) (by first | (rw [add_block]; exact hn107_2) | (show (Addr.add _ _).block ≠ _; rw [add_block]; exact hn107_2) | exact hn107_2) (.int .i64 ((rd_T49 l0 a1).f2))).trans hx107_2; replace hx107_3 := (cell_far (p := ⟨gb106, 2, none⟩) (by first | (rw [add_block]; exact hn107_2) | (show (Addr.add _ _).block ≠ _; rw [add_block]; exact hn107_2) | exact hn107_2) (.int .i64 ((rd_T49 l0 a1).f2))).trans hx107_3; replace hx107_4 := (cell_far (p := ⟨gb106, 2, none⟩) (by first | (rw [add_block]; exact hn107_2) | (show (Addr.add _ _).block ≠ _; rw [add_block]; exact hn107_2) | exact hn107_2) (.int .i64 ((rd_T49 l0 a1).f2))).trans hx107_4; replace hx107_5 := (cell_far (p := ⟨gb106, 2, none⟩) (by first | (rw [add_block]; exact hn107_2) | (show (Addr.add _ _).block ≠ _; rw [add_block]; exact hn107_2) | exact hn107_2) (.int .i64 ((rd_T49 l0 a1).f2))).trans hx107_5; replace hx107_0 := (cell_far (p := ⟨gb106, 3, none⟩) (by first | (rw [add_block]; exact hn107_3) | (show (Addr.add _ _).block ≠ _; rw [add_block]; exact hn107_3) | exact hn107_3) (.bool ((rd_T49 l0 a1).f3))).trans hx107_0; replace hx107_1 := (cell_far (p := ⟨gb106, 3, none⟩) (by first | (rw [add_block]; exact hn107_3) | (show (Addr.add _ _).block ≠ _; rw [add_block]; exact hn107_3) | exact hn107_3) (.bool ((rd_T49 l0 a1).f3))).trans hx107_1; replace hx107_2 := (cell_far (p := ⟨gb106, 3, none⟩) (by first | (rw [add_block]; exact hn107_3) | (show (Addr.add _ _).block ≠ _; rw [add_block]; exact hn107_3) | exact hn107_3) (.bool ((rd_T49 l0 a1).f3))).trans hx107_2; replace hx107_3 := (cell_far (p := ⟨gb106, 3, none⟩) (by first | (rw [add_block]; exact hn107_3) | (show (Addr.add _ _).block ≠ _; rw [add_block]; exact hn107_3) | exact hn107_3) (.bool ((rd_T49 l0 a1).f3))).trans hx107_3; replace hx107_4 := (cell_far (p := ⟨gb106, 3, none⟩) (by first | (rw [add_block]; exact hn107_3) | (show (Addr.add _ _).block ≠ _; rw [add_block]; exact hn107_3) | exact hn107_3) (.bool ((rd_T49 l0 a1).f3))).trans hx107_4; replace hx107_5 := (cell_far (p := ⟨gb106, 3, none⟩) (by first | (rw [add_block]; exact hn107_3) | (show (Addr.add _ _).block ≠ _; rw [add_block]; exact hn107_3) | exact hn107_3) (.bool ((rd_T49 l0 a1).f3))).trans hx107_5; replace hx107_0 := (cell_far (p := ⟨gb106, 4, none⟩) (by first | (rw [add_block]; exact hn107_4) | (show (Addr.add _ _).block ≠ _; rw [add_block]; exact hn107_4) | exact hn107_4) (.bool ((rd_T49 l0 a1).f4))).trans hx107_0; replace hx107_1 := (cell_far (p := ⟨gb106, 4, none⟩) (by first | (rw [add_block]; exact hn107_4) | (show (Addr.add _ _).block ≠ _; rw [add_block]; exact hn107_4) | exact hn107_4) (.bool ((rd_T49 l0 a1).f4))).trans hx107_1; replace hx107_2 := (cell_far (p := ⟨gb106, 4, none⟩) (by first | (rw [add_block]; exact hn107_4) | (show (Addr.add _ _).block ≠ _; rw [add_block]; exact hn107_4) | exact hn107_4) (.bool ((rd_T49 l0 a1).f4))).trans hx107_2; replace hx107_3 := (cell_far (p := ⟨gb106, 4, none⟩) (by first | (rw [add_block]; exact hn107_4) | (show (Addr.add _ _).block ≠ _; rw [add_block]; exact hn107_4) | exact hn107_4) (.bool ((rd_T49 l0 a1).f4))).trans hx107_3; replace hx107_4 := (cell_far (p := ⟨gb106, 4, none⟩) (by first | (rw [add_block]; exact hn107_4) | (show (Addr.add _ _).block ≠ _; rw [add_block]; exact hn107_4) | exact hn107_4) (.bool ((rd_T49 l0 a1).f4))).trans hx107_4; replace hx107_5 := (cell_far (p := ⟨gb106, 4, none⟩) (by first | (rw [add_block]; exact hn107_4) | (show (Addr.add _ _).block ≠ _; rw [add_block]; exact hn107_4) | exact hn107_4) (.bool ((rd_T49 l0 a1).f4))).trans hx107_5; replace hx107_0 := (cell_far (p := ⟨gb106, 5, none⟩) (by first | (rw [add_block]; exact hn107_5) | (show (Addr.add _ _).block ≠ _; rw [add_block]; exact hn107_5) | exact hn107_5) (.bool ((rd_T49 l0 a1).f5))).trans hx107_0; replace hx107_1 := (cell_far (p := ⟨gb106, 5, none⟩) (by first | (rw [add_block]; exact hn107_5) | (show (Addr.add _ _).block ≠ _; rw [add_block]; exact hn107_5) | exact hn107_5) (.bool ((rd_T49 l0 a1).f5))).trans hx107_1; replace hx107_2 := (cell_far (p := ⟨gb106, 5, none⟩) (by first | (rw [add_block]; exact hn107_5) | (show (Addr.add _ _).block ≠ _; rw [add_block]; exact hn107_5) | exact hn107_5) (.bool ((rd_T49 l0 a1).f5))).trans hx107_2; replace hx107_3 := (cell_far (p := ⟨gb106, 5, none⟩) (by first | (rw [add_block]; exact hn107_5) | (show (Addr.add _ _).block ≠ _; rw [add_block]; exact hn107_5) | exact hn107_5) (.bool ((rd_T49 l0 a1).f5))).trans hx107_3; replace hx107_4 := (cell_far (p := ⟨gb106, 5, none⟩) (by first | (rw [add_block]; exact hn107_5) | (show (Addr.add _ _).block ≠ _; rw [add_block]; exact hn107_5) | exact hn107_5) (.bool ((rd_T49 l0 a1).f5))).trans hx107_4; replace hx107_5 := (cell_far (p := ⟨gb106, 5, none⟩) (by first | (rw [add_block]; exact hn107_5) | (show (Addr.add _ _).block ≠ _; rw [add_block]; exact hn107_5) | exact hn107_5) (.bool ((rd_T49 l0 a1).f5))).trans hx107_5; replace hx107_0 := (cell_far (p := ⟨gb106, 6, none⟩) (by first | (rw [add_block]; exact hn107_6) | (show (Addr.add _ _).block ≠ _; rw [add_block]; exact hn107_6) | exact hn107_6) (.slice none 0 0)).trans hx107_0; replace hx107_1 := (cell_far (p := ⟨gb106, 6, none⟩) (by first | (rw [add_block]; exact hn107_6) | (show (Addr.add _ _).block ≠ _; rw [add_block]; exact hn107_6) | exact hn107_6) (.slice none 0 0)).trans hx107_1; replace hx107_2 := (cell_far (p := ⟨gb106, 6, none⟩) (by first | (rw [add_block]; exact hn107_6) | (show (Addr.add _ _).block ≠ _; rw [add_block]; exact hn107_6) | exact hn107_6) (.slice none 0 0)).trans hx107_2; replace hx107_3 := (cell_far (p := ⟨gb106, 6, none⟩) (by first | (rw [add_block]; exact hn107_6) | (show (Addr.add _ _).block ≠ _; rw [add_block]; exact hn107_6) | exact hn107_6) (.slice none 0 0)).trans hx107_3; replace hx107_4 := (cell_far (p := ⟨gb106, 6, none⟩) (by first | (rw [add_block]; exact hn107_6) | (show (Addr.add _ _).block ≠ _; rw [add_block]; exact hn107_6) | exact hn107_6) (.slice none 0 0)).trans hx107_4; replace hx107_5 := (cell_far (p := ⟨gb106, 6, none⟩) (by first | (rw [add_block]; exact hn107_6) | (show (Addr.add _ _).block ≠ _; rw [add_block]; exact hn107_6) | exact hn107_6) (.slice none 0 0)).trans hx107_5; clear hn107_0; clear hn107_1; clear hn107_2; clear hn107_3; clear hn107_4; clear hn107_5; clear hn107_6; replace p107 := eq_true p107; replace q107 := eq_true q107) | ((with_reducible refine gate_callee (f := 43) rfl ?_); refine goesL_ (some 21) rfl rfl Tryd.func43 (by kernel_rfl) rfl #[.agg #[.int .i64 ((rd_T49 l0 a1).f0), .string ((rd_T49 l0 a1).f1), .int .i64 ((rd_T49 l0 a1).f2), .bool ((rd_T49 l0 a1).f3), .bool ((rd_T49 l0 a1).f4), .bool ((rd_T49 l0 a1).f5)]] rfl (by (try simp only [List.map_toArray, List.map_cons, List.map_nil]); first | done | rfl | (simp only [List.length_drop, List.length_take]; rfl)) ?_; (with_reducible refine (fleuronref1_closes.calls k ((rd_T49 l0 a1).f0) ((rd_T49 l0 a1).f1) ((rd_T49 l0 a1).f2) ((rd_T49 l0 a1).f3) ((rd_T49 l0 a1).f4) ((rd_T49 l0 a1).f5) t108 _ A6.out).mono ?_); rintro e w19 ⟨rfl, hb⟩; refine ⟨_, rfl, ?_⟩; have n0_ := Aside0.mk (blk_below (g := gb104) (o := .cells #[.int .i64 0, .string (⟨#[]⟩ : ByteArray), .int .i64 0, .bool false, .bool false, .bool false, .slice none 0 0] 51 (0, 0)) (by (with_reducible repeat (first | refine blk_drewN ?_ _ | refine blk_drew ?_ | refine blk_alloc ?_ _)); refine blk_far ?_ NB104_106.out _; (with_reducible repeat (first | refine blk_drewN ?_ _ | refine blk_drew ?_ | refine blk_alloc ?_ _)); refine blk_far ?_ NB104_106.out _; (with_reducible repeat (first | refine blk_drewN ?_ _ | refine blk_drew ?_ | refine blk_alloc ?_ _)); refine blk_far ?_ NB104_106.out _; (with_reducible repeat (first | refine blk_drewN ?_ _ | refine blk_drew ?_ | refine blk_alloc ?_ _)); refine blk_far ?_ NB104_106.out _; (with_reducible repeat (first | refine blk_drewN ?_ _ | refine blk_drew ?_ | refine blk_alloc ?_ _)); refine blk_far ?_ NB104_106.out _; (with_reducible repeat (first | refine blk_drewN ?_ _ | refine blk_drew ?_ | refine blk_alloc ?_ _)); refine blk_far ?_ NB104_106.out _; (with_reducible repeat (first | refine blk_drewN ?_ _ | refine blk_drew ?_ | refine blk_alloc ?_ _)); refine blk_far ?_ NB104_106.out _; (with_reducible repeat (first | refine blk_drewN ?_ _ | refine blk_drew ?_ | refine blk_alloc ?_ _)); exact BK104.out) hb); have n1_ := Aside0.mk (blk_below (g := gb106) (o := .cells #[.int .i64 ((rd_T49 l0 a1).f0), .string ((rd_T49 l0 a1).f1), .int .i64 ((rd_T49 l0 a1).f2), .bool ((rd_T49 l0 a1).f3), .bool ((rd_T49 l0 a1).f4), .bool ((rd_T49 l0 a1).f5), .slice none 0 0] 51 (0, 0)) (by (with_reducible repeat (first | refine blk_drewN ?_ _ | refine blk_drew ?_ | refine blk_alloc ?_ _)); refine blk_put (cs := #[.int .i64 ((rd_T49 l0 a1).f0), .string ((rd_T49 l0 a1).f1), .int .i64 ((rd_T49 l0 a1).f2), .bool ((rd_T49 l0 a1).f3), .bool ((rd_T49 l0 a1).f4), .bool ((rd_T49 l0 a1).f5), .slice none 0 0]) ?_ 6 _ rfl; (with_reducible repeat (first | refine blk_drewN ?_ _ | refine blk_drew ?_ | refine blk_alloc ?_ _)); refine blk_put (cs := #[.int .i64 ((rd_T49 l0 a1).f0), .string ((rd_T49 l0 a1).f1), .int .i64 ((rd_T49 l0 a1).f2), .bool ((rd_T49 l0 a1).f3), .bool ((rd_T49 l0 a1).f4), .bool false, .slice none 0 0]) ?_ 5 _ rfl; (with_reducible repeat (first | refine blk_drewN ?_ _ | refine blk_drew ?_ | refine blk_alloc ?_ _)); refine blk_put (cs := #[.int .i64 ((rd_T49 l0 a1).f0), .string ((rd_T49 l0 a1).f1), .int .i64 ((rd_T49 l0 a1).f2), .bool ((rd_T49 l0 a1).f3), .bool false, .bool false, .slice none 0 0]) ?_ 4 _ rfl; (with_reducible repeat (first | refine blk_drewN ?_ _ | refine blk_drew ?_ | refine blk_alloc ?_ _)); refine blk_put (cs := #[.int .i64 ((rd_T49 l0 a1).f0), .string ((rd_T49 l0 a1).f1), .int .i64 ((rd_T49 l0 a1).f2), .bool false, .bool false, .bool false, .slice none 0 0]) ?_ 3 _ rfl; (with_reducible repeat (first | refine blk_drewN ?_ _ | refine blk_drew ?_ | refine blk_alloc ?_ _)); refine blk_put (cs := #[.int .i64 ((rd_T49 l0 a1).f0), .string ((rd_T49 l0 a1).f1), .int .i64 0, .bool false, .bool false, .bool false, .slice none 0 0]) ?_ 2 _ rfl; (with_reducible repeat (first | refine blk_drewN ?_ _ | refine blk_drew ?_ | refine blk_alloc ?_ _)); refine blk_put (cs := #[.int .i64 ((rd_T49 l0 a1).f0), .string (⟨#[]⟩ : ByteArray), .int .i64 0, .bool false, .bool false, .bool false, .slice none 0 0]) ?_ 1 _ rfl; (with_reducible repeat (first | refine blk_drewN ?_ _ | refine blk_drew ?_ | refine blk_alloc ?_ _)); refine blk_put (cs := #[.int .i64 0, .string (⟨#[]⟩ : ByteArray), .int .i64 0, .bool false, .bool false, .bool false, .slice none 0 0]) ?_ 0 _ rfl; (with_reducible repeat (first | refine blk_drewN ?_ _ | refine blk_drew ?_ | refine blk_alloc ?_ _)); exact BK106.out) hb); have n2_ := Aside0.mk (below_step (by repeat (first | (with_reducible first | exact HB.out | apply below_alloc | apply pw_below_drewN | apply below_drew1 | refine below_set ?_ GE104.out | refine below_set ?_ GE106.out) | exact HB.out)) hb); clear BK104; clear BK106; clear HB; have BK104 := n0_; have BK106 := n1_; have HB := n2_; clear n0_ n1_ n2_; (try clear hb); (try clear hb2); (try clear hk); (try clear hi)))
        go_loopg [1] k (fun kq v1 w' => ∃ (x1_1 : Int) (x105000_1 : Int) (x105001_1 : ByteArray) (x105002_1 : Int) (x105003_1 : Bool) (x105004_1 : Bool) (x105005_1 : Bool) (x107006_1 : List (S51)) (u107006 : Value), v1 = .int .i64 x1_1 ∧ Aside0 (fleuronref1_node.l0 kq l0 x1_1 a2 t108 ((rd_T49 l0 a1).f0) ((rd_T49 l0 a1).f1) ((rd_T49 l0 a1).f2) ((rd_T49 l0 a1).f3) ((rd_T49 l0 a1).f4) ((rd_T49 l0 a1).f5) x107006_1 = some (r1, r2, r3, r4, r5, r6, r7, r8)) ∧ Aside0 (kq ≤ k) ∧ Aside0 (Kd.R k51 51 w' w.heap.size (fun k_ => k_ ≠ gb104 ∧ k_ ≠ gb106) u107006 x107006_1) ∧ Aside0 (w'.heap[gb104]? = some (.cells #[.int .i64 x105000_1, .string x105001_1, .int .i64 x105002_1, .bool x105003_1, .bool x105004_1, .bool x105005_1, (.slice none 0 0)] 51 (0, 0))) ∧ Aside0 (w'.heap[gb106]? = some (.cells #[.int .i64 ((rd_T49 l0 a1).f0), .string ((rd_T49 l0 a1).f1), .int .i64 ((rd_T49 l0 a1).f2), .bool ((rd_T49 l0 a1).f3), .bool ((rd_T49 l0 a1).f4), .bool ((rd_T49 l0 a1).f5), u107006] 51 (0, 0))) ∧ Aside0 (Below w.heap.size w w'))
        case atStart => exact ⟨(wrap64 (a1 + 1)), (0), ((⟨#[]⟩ : ByteArray)), (0), (false), (false), (false), (([] : List (S51))), (.slice none 0 0), (by first | rfl | (simp; done) | (simp [*]; done)), H', ⟨Nat.le_refl _⟩, ⟨by first | exact Kd.R_nil _ _ _ _ _ | exact Kd.N_nil _ _ _ _ _ | exact Kd.V_nil _ _ _ _ _ | exact Kd.Q_nil _ _ _ _ _ | exact Kd.S_nil _ _ _ _ _⟩, ⟨by (with_reducible repeat (first | refine blk_drewN ?_ _ | refine blk_drew ?_ | refine blk_alloc ?_ _)); exact BK104.out⟩, ⟨by (with_reducible repeat (first | refine blk_drewN ?_ _ | refine blk_drew ?_ | refine blk_alloc ?_ _)); exact BK106.out⟩, ⟨by repeat (first | (with_reducible first | exact HB.out | apply below_alloc | apply pw_below_drewN | apply below_drew1 | refine below_set ?_ GE104.out | refine below_set ?_ GE106.out) | exact HB.out)⟩⟩
        case round =>
          clear H'
          try clear c1
          try clear p1
          try clear q1
          try clear hx1
          try clear c2
          try clear p2
          try clear c4
          try clear c4b0
          try clear c5
          try clear c5b0
          try clear p6
          try clear c7
          try clear c7b0
          try clear c7b1
          try clear c10
          try clear p10
          try clear q10
          try clear hx10
          try clear c17
          try clear hcz11_0
          try clear hcz11_1
          try clear hcz11_2
          try clear hcz11_3
          try clear hcz11_4
          try clear hcz11_5
          try clear hcz11_6
          try clear hcz13_0
          try clear hcz13_1
          try clear hcz13_2
          try clear hcz13_3
          try clear hcz13_4
          try clear hcz13_5
          try clear hcz13_6
          try clear hcz14_0
          try clear hcz14_1
          try clear hcz14_2
          try clear hcz14_3
          try clear hcz14_4
          try clear hcz14_5
          try clear hcz14_6
          try clear hcz18_0
          try clear hcz18_1
          try clear hcz18_2
          try clear hcz18_3
          try clear hcz18_4
          try clear hcz18_5
          try clear hcz18_6
          try clear hfz11_0
          try clear hfz11_1
          try clear hfz11_2
          try clear hfz11_3
          try clear hfz11_4
          try clear hfz11_5
          try clear hfz11_6
          try clear hfz13_0
          try clear hfz13_1
          try clear hfz13_2
          try clear hfz13_3
          try clear hfz13_4
          try clear hfz13_5
          try clear hfz13_6
          try clear hfz14_0
          try clear hfz14_1
          try clear hfz14_2
          try clear hfz14_3
          try clear hfz14_4
          try clear hfz14_5
          try clear hfz14_6
          try clear hfz18_0
          try clear hfz18_1
          try clear hfz18_2
          try clear hfz18_3
          try clear hfz18_4
          try clear hfz18_5
          try clear hfz18_6
          try clear hx105_0
          try clear hx105_1
          try clear hx105_2
          try clear hx105_3
          try clear hx105_4
          try clear hx105_5
          try clear hx107_0
          try clear hx107_1
          try clear hx107_2
          try clear hx107_3
          try clear hx107_4
          try clear hx107_5
          try clear p105
          try clear p107
          try clear q105
          try clear q107
          obtain ⟨x1_1, x105000_1, x105001_1, x105002_1, x105003_1, x105004_1, x105005_1, x107006_1, u107006, rfl, HA, HK1, HO_107006, BK104, BK106, HB⟩ := hrel
          cases gk with
          | zero => exact absurd HA.out (by simp [fleuronref1_node.l0])
          | succ k1 =>
            have H := HA.out
            clear HA
            simp only [fleuronref1_node.l0] at H
            by_cases c20 : x1_1 < (l0.length : Int)
            · rw [if_pos c20] at H
              have c20b0 : decide (x1_1 < (l0.length : Int)) = true := decide_eq_true c20
              clear c20
              have HC21 := Aside0.mk H
              clear H
              go_upto_region 7 with (fail)
              go_cut [46] (fun v46 wc => ∃ (kq : Nat) (x46_20 : Bool), v46 = .bool x46_20 ∧ Aside0 (fleuronref1_node.j1 kq l0 x1_1 a2 t108 x46_20 ((rd_T49 l0 a1).f0) ((rd_T49 l0 a1).f1) ((rd_T49 l0 a1).f2) ((rd_T49 l0 a1).f3) ((rd_T49 l0 a1).f4) ((rd_T49 l0 a1).f5) x107006_1 = some (r1, r2, r3, r4, r5, r6, r7, r8)) ∧ Aside0 (kq ≤ k1) ∧ Aside0 (Kd.R k51 51 wc w.heap.size (fun k_ => k_ ≠ gb104 ∧ k_ ≠ gb106) u107006 x107006_1) ∧ Aside0 (wc.heap[gb104]? = some (.cells #[.int .i64 x105000_1, .string x105001_1, .int .i64 x105002_1, .bool x105003_1, .bool x105004_1, .bool x105005_1, (.slice none 0 0)] 51 (0, 0))) ∧ Aside0 (wc.heap[gb106]? = some (.cells #[.int .i64 ((rd_T49 l0 a1).f0), .string ((rd_T49 l0 a1).f1), .int .i64 ((rd_T49 l0 a1).f2), .bool ((rd_T49 l0 a1).f3), .bool ((rd_T49 l0 a1).f4), .bool ((rd_T49 l0 a1).f5), u107006] 51 (0, 0))) ∧ Aside0 (Below w.heap.size w wc))
              case first =>
                have H := HC21.out
                clear HC21
                by_cases c22 : 0 ≤ x1_1
                · rw [if_pos c22] at H
                  have c22b0 : decide (0 ≤ x1_1) = true := decide_eq_true c22
                  clear c22
                  (first | rw [c22b0] | (simp only [i64_w, i32_w]; rw [c22b0]) | skip)
                  by_cases c23 : ((rd_T49 l0 x1_1).f0) = 20
                  · rw [if_pos c23] at H
                    have c23b0 : (((rd_T49 l0 x1_1).f0) == 20) = true := beq_iff_eq.mpr c23
                    have c23b1 : (((rd_T49 l0 x1_1).f0) != 20) = false := bne_eq_false_iff_eq.mpr c23
                    clear c23
                    have H' := Aside0.mk H
                    clear H
                    have p109 : 0 ≤ (x1_1 : Int) := of_decide_eq_true (by first | (with_reducible assumption) | assumption)
                    have q109 : x1_1 < (l0.length : Int) := of_decide_eq_true (by first | (with_reducible assumption) | assumption)
                    obtain ⟨ad109, e109, hx109_0, hx109_1, hx109_2, hx109_3, hx109_4, hx109_5⟩ := at_T49 HR0.out x1_1 p109 q109
                    obtain rfl : ad105 = ad109 := (by injection e109)
                    replace hx109_0 := (HB.out.cell (World.block_lt_of_cell? w _ hx109_0)).trans hx109_0
                    replace hx109_1 := (HB.out.cell (World.block_lt_of_cell? w _ hx109_1)).trans hx109_1
                    replace hx109_2 := (HB.out.cell (World.block_lt_of_cell? w _ hx109_2)).trans hx109_2
                    replace hx109_3 := (HB.out.cell (World.block_lt_of_cell? w _ hx109_3)).trans hx109_3
                    replace hx109_4 := (HB.out.cell (World.block_lt_of_cell? w _ hx109_4)).trans hx109_4
                    replace hx109_5 := (HB.out.cell (World.block_lt_of_cell? w _ hx109_5)).trans hx109_5
                    replace p109 := eq_true p109
                    replace q109 := eq_true q109
                    have p110 : 0 ≤ (x1_1 : Int) := of_decide_eq_true (by first | (with_reducible assumption) | assumption)
                    have q110 : x1_1 < (l0.length : Int) := of_decide_eq_true (by first | (with_reducible assumption) | assumption)
                    obtain ⟨ad110, e110, hx110_0, hx110_1, hx110_2, hx110_3, hx110_4, hx110_5⟩ := at_T49 HR0.out x1_1 p110 q110
                    obtain rfl : ad105 = ad110 := (by injection e110)
                    replace hx110_0 := (HB.out.cell (World.block_lt_of_cell? w _ hx110_0)).trans hx110_0
                    replace hx110_1 := (HB.out.cell (World.block_lt_of_cell? w _ hx110_1)).trans hx110_1
                    replace hx110_2 := (HB.out.cell (World.block_lt_of_cell? w _ hx110_2)).trans hx110_2
                    replace hx110_3 := (HB.out.cell (World.block_lt_of_cell? w _ hx110_3)).trans hx110_3
                    replace hx110_4 := (HB.out.cell (World.block_lt_of_cell? w _ hx110_4)).trans hx110_4
                    replace hx110_5 := (HB.out.cell (World.block_lt_of_cell? w _ hx110_5)).trans hx110_5
                    replace p110 := eq_true p110
                    replace q110 := eq_true q110
                    go_wp2
                    go_meet
                    case rel => exact ⟨_, ((((rd_T49 l0 x1_1).f1).toList == t108.toList)), (by first | rfl | (simp; done) | (simp [*]; done)), H', ⟨by have := HK1.out; first | omega | exact Nat.le_refl _⟩, ⟨by (with_reducible repeat (first | apply Kd.R_alloc | apply Kd.R_drewN | apply Kd.R_drew)); exact HO_107006.out⟩, ⟨by (with_reducible repeat (first | refine blk_drewN ?_ _ | refine blk_drew ?_ | refine blk_alloc ?_ _)); exact BK104.out⟩, ⟨by (with_reducible repeat (first | refine blk_drewN ?_ _ | refine blk_drew ?_ | refine blk_alloc ?_ _)); exact BK106.out⟩, ⟨by repeat (first | (with_reducible first | exact HB.out | apply below_alloc | apply pw_below_drewN | apply below_drew1 | refine below_set ?_ GE104.out | refine below_set ?_ GE106.out) | exact HB.out)⟩⟩
                  · rw [if_neg c23] at H
                    have c23b0 : (((rd_T49 l0 x1_1).f0) == 20) = false := beq_eq_false_iff_ne.mpr c23
                    have c23b1 : (((rd_T49 l0 x1_1).f0) != 20) = true := bne_iff_ne.mpr c23
                    have H' := Aside0.mk H
                    clear H
                    have p109 : 0 ≤ (x1_1 : Int) := of_decide_eq_true (by first | (with_reducible assumption) | assumption)
                    have q109 : x1_1 < (l0.length : Int) := of_decide_eq_true (by first | (with_reducible assumption) | assumption)
                    obtain ⟨ad109, e109, hx109_0, hx109_1, hx109_2, hx109_3, hx109_4, hx109_5⟩ := at_T49 HR0.out x1_1 p109 q109
                    obtain rfl : ad105 = ad109 := (by injection e109)
                    replace hx109_0 := (HB.out.cell (World.block_lt_of_cell? w _ hx109_0)).trans hx109_0
                    replace hx109_1 := (HB.out.cell (World.block_lt_of_cell? w _ hx109_1)).trans hx109_1
                    replace hx109_2 := (HB.out.cell (World.block_lt_of_cell? w _ hx109_2)).trans hx109_2
                    replace hx109_3 := (HB.out.cell (World.block_lt_of_cell? w _ hx109_3)).trans hx109_3
                    replace hx109_4 := (HB.out.cell (World.block_lt_of_cell? w _ hx109_4)).trans hx109_4
                    replace hx109_5 := (HB.out.cell (World.block_lt_of_cell? w _ hx109_5)).trans hx109_5
                    replace p109 := eq_true p109
                    replace q109 := eq_true q109
                    go_wp2
                    go_meet
                    case rel => exact ⟨_, (false), (by first | rfl | (simp; done) | (simp [*]; done)), H', ⟨by have := HK1.out; first | omega | exact Nat.le_refl _⟩, ⟨by (with_reducible repeat (first | apply Kd.R_alloc | apply Kd.R_drewN | apply Kd.R_drew)); exact HO_107006.out⟩, ⟨by (with_reducible repeat (first | refine blk_drewN ?_ _ | refine blk_drew ?_ | refine blk_alloc ?_ _)); exact BK104.out⟩, ⟨by (with_reducible repeat (first | refine blk_drewN ?_ _ | refine blk_drew ?_ | refine blk_alloc ?_ _)); exact BK106.out⟩, ⟨by repeat (first | (with_reducible first | exact HB.out | apply below_alloc | apply pw_below_drewN | apply below_drew1 | refine below_set ?_ GE104.out | refine below_set ?_ GE106.out) | exact HB.out)⟩⟩
                · rw [if_neg c22] at H
                  exact absurd H (by simp)
              case rest =>
                clear HC21
                try clear c1
                try clear p1
                try clear q1
                try clear hx1
                try clear c2
                try clear p2
                try clear c4
                try clear c4b0
                try clear c5
                try clear c5b0
                try clear p6
                try clear c7
                try clear c7b0
                try clear c7b1
                try clear c10
                try clear p10
                try clear q10
                try clear hx10
                try clear p11
                try clear q11
                try clear hx11
                try clear c17
                try clear c20
                try clear c20b0
                try clear c22
                try clear c22b0
                try clear c23
                try clear c23b0
                try clear c23b1
                try clear hcz11_0
                try clear hcz11_1
                try clear hcz11_2
                try clear hcz11_3
                try clear hcz11_4
                try clear hcz11_5
                try clear hcz11_6
                try clear hcz13_0
                try clear hcz13_1
                try clear hcz13_2
                try clear hcz13_3
                try clear hcz13_4
                try clear hcz13_5
                try clear hcz13_6
                try clear hcz14_0
                try clear hcz14_1
                try clear hcz14_2
                try clear hcz14_3
                try clear hcz14_4
                try clear hcz14_5
                try clear hcz14_6
                try clear hcz18_0
                try clear hcz18_1
                try clear hcz18_2
                try clear hcz18_3
                try clear hcz18_4
                try clear hcz18_5
                try clear hcz18_6
                try clear hfz11_0
                try clear hfz11_1
                try clear hfz11_2
                try clear hfz11_3
                try clear hfz11_4
                try clear hfz11_5
                try clear hfz11_6
                try clear hfz13_0
                try clear hfz13_1
                try clear hfz13_2
                try clear hfz13_3
                try clear hfz13_4
                try clear hfz13_5
                try clear hfz13_6
                try clear hfz14_0
                try clear hfz14_1
                try clear hfz14_2
                try clear hfz14_3
                try clear hfz14_4
                try clear hfz14_5
                try clear hfz14_6
                try clear hfz18_0
                try clear hfz18_1
                try clear hfz18_2
                try clear hfz18_3
                try clear hfz18_4
                try clear hfz18_5
                try clear hfz18_6
                try clear hx105_0
                try clear hx105_1
                try clear hx105_2
                try clear hx105_3
                try clear hx105_4
                try clear hx105_5
                try clear hx107_0
                try clear hx107_1
                try clear hx107_2
                try clear hx107_3
                try clear hx107_4
                try clear hx107_5
                try clear hx109_0
                try clear hx109_1
                try clear hx109_2
                try clear hx109_3
                try clear hx109_4
                try clear hx109_5
                try clear hx110_0
                try clear hx110_1
                try clear hx110_2
                try clear hx110_3
                try clear hx110_4
                try clear hx110_5
                try clear p1
                try clear p10
                try clear p105
                try clear p107
                try clear p109
                try clear p110
                try clear p2
                try clear p6
                try clear q1
                try clear q10
                try clear q105
                try clear q107
                try clear q109
                try clear q110
                obtain ⟨kq, x46_20, rfl, HA, HJ20, HO_107006, BK104, BK106, HB⟩ := hcut
                cases kq with
                | zero => exact absurd HA.out (by simp [fleuronref1_node.j1])
                | succ kj20 =>
                  have H := HA.out
                  clear HA
                  simp only [fleuronref1_node.j1] at H
                  by_cases c24 : x46_20 = true
                  · subst c24
                    have H1 : (some (((rd_T49 l0 a1).f0), ((rd_T49 l0 a1).f1), ((rd_T49 l0 a1).f2), ((rd_T49 l0 a1).f3), ((rd_T49 l0 a1).f4), ((rd_T49 l0 a1).f5), x107006_1, wrap64 (x1_1 + 1))) = some (r1, r2, r3, r4, r5, r6, r7, r8) := by rw [if_pos rfl] at H; exact H
                    clear H
                    have H := H1
                    clear H1
                    simp only [Option.some.injEq, Prod.mk.injEq] at H
                    obtain ⟨rfl, rfl, rfl, rfl, rfl, rfl, rfl, rfl⟩ := H
                    have hnb25 := NB106_104.out
                    have hnc25 := NB104_106.out
                    have hcz26_0 : wc.cell? ⟨gb106, 0, none⟩ = some (.int .i64 ((rd_T49 l0 a1).f0)) := (blk_cell BK106.out 0).trans rfl
                    have hcz26_1 : wc.cell? ⟨gb106, 1, none⟩ = some (.string ((rd_T49 l0 a1).f1)) := (blk_cell BK106.out 1).trans rfl
                    have hcz26_2 : wc.cell? ⟨gb106, 2, none⟩ = some (.int .i64 ((rd_T49 l0 a1).f2)) := (blk_cell BK106.out 2).trans rfl
                    have hcz26_3 : wc.cell? ⟨gb106, 3, none⟩ = some (.bool ((rd_T49 l0 a1).f3)) := (blk_cell BK106.out 3).trans rfl
                    have hcz26_4 : wc.cell? ⟨gb106, 4, none⟩ = some (.bool ((rd_T49 l0 a1).f4)) := (blk_cell BK106.out 4).trans rfl
                    have hcz26_5 : wc.cell? ⟨gb106, 5, none⟩ = some (.bool ((rd_T49 l0 a1).f5)) := (blk_cell BK106.out 5).trans rfl
                    have hcz26_6 : wc.cell? ⟨gb106, 6, none⟩ = some (u107006) := (blk_cell BK106.out 6).trans rfl
                    have hfz26_0 := blk_frozen BK106.out 0
                    have hfz26_1 := blk_frozen BK106.out 1
                    have hfz26_2 := blk_frozen BK106.out 2
                    have hfz26_3 := blk_frozen BK106.out 3
                    have hfz26_4 := blk_frozen BK106.out 4
                    have hfz26_5 := blk_frozen BK106.out 5
                    have hfz26_6 := blk_frozen BK106.out 6
                    have hcz27_0 : wc.cell? ⟨gb104, 0, none⟩ = some (.int .i64 x105000_1) := (blk_cell BK104.out 0).trans rfl
                    have hcz27_1 : wc.cell? ⟨gb104, 1, none⟩ = some (.string x105001_1) := (blk_cell BK104.out 1).trans rfl
                    have hcz27_2 : wc.cell? ⟨gb104, 2, none⟩ = some (.int .i64 x105002_1) := (blk_cell BK104.out 2).trans rfl
                    have hcz27_3 : wc.cell? ⟨gb104, 3, none⟩ = some (.bool x105003_1) := (blk_cell BK104.out 3).trans rfl
                    have hcz27_4 : wc.cell? ⟨gb104, 4, none⟩ = some (.bool x105004_1) := (blk_cell BK104.out 4).trans rfl
                    have hcz27_5 : wc.cell? ⟨gb104, 5, none⟩ = some (.bool x105005_1) := (blk_cell BK104.out 5).trans rfl
                    have hcz27_6 : wc.cell? ⟨gb104, 6, none⟩ = some (.slice none 0 0) := (blk_cell BK104.out 6).trans rfl
                    have hfz27_0 := blk_frozen BK104.out 0
                    have hfz27_1 := blk_frozen BK104.out 1
                    have hfz27_2 := blk_frozen BK104.out 2
                    have hfz27_3 := blk_frozen BK104.out 3
                    have hfz27_4 := blk_frozen BK104.out 4
                    have hfz27_5 := blk_frozen BK104.out 5
                    have hfz27_6 := blk_frozen BK104.out 6
                    obtain ⟨Ao28, co28, eo28⟩ := Kd.R_slice HO_107006.out
                    subst eo28
                    go_wp2
                    refine bodyPost_ret (results_ct rfl _ _ gb104 51 #[.int .i64 ((rd_T49 l0 a1).f0), .string ((rd_T49 l0 a1).f1), .int .i64 ((rd_T49 l0 a1).f2), .bool ((rd_T49 l0 a1).f3), .bool ((rd_T49 l0 a1).f4), .bool ((rd_T49 l0 a1).f5), .slice Ao28 x107006_1.length co28] (0, 0) _ rfl (by (with_reducible repeat (first | refine blk_drewN ?_ _ | refine blk_drew ?_ | refine blk_alloc ?_ _)); refine blk_put (cs := #[.int .i64 ((rd_T49 l0 a1).f0), .string ((rd_T49 l0 a1).f1), .int .i64 ((rd_T49 l0 a1).f2), .bool ((rd_T49 l0 a1).f3), .bool ((rd_T49 l0 a1).f4), .bool ((rd_T49 l0 a1).f5), .slice none 0 0]) ?_ 6 _ rfl; (with_reducible repeat (first | refine blk_drewN ?_ _ | refine blk_drew ?_ | refine blk_alloc ?_ _)); refine blk_put (cs := #[.int .i64 ((rd_T49 l0 a1).f0), .string ((rd_T49 l0 a1).f1), .int .i64 ((rd_T49 l0 a1).f2), .bool ((rd_T49 l0 a1).f3), .bool ((rd_T49 l0 a1).f4), .bool x105005_1, .slice none 0 0]) ?_ 5 _ rfl; (with_reducible repeat (first | refine blk_drewN ?_ _ | refine blk_drew ?_ | refine blk_alloc ?_ _)); refine blk_put (cs := #[.int .i64 ((rd_T49 l0 a1).f0), .string ((rd_T49 l0 a1).f1), .int .i64 ((rd_T49 l0 a1).f2), .bool ((rd_T49 l0 a1).f3), .bool x105004_1, .bool x105005_1, .slice none 0 0]) ?_ 4 _ rfl; (with_reducible repeat (first | refine blk_drewN ?_ _ | refine blk_drew ?_ | refine blk_alloc ?_ _)); refine blk_put (cs := #[.int .i64 ((rd_T49 l0 a1).f0), .string ((rd_T49 l0 a1).f1), .int .i64 ((rd_T49 l0 a1).f2), .bool x105003_1, .bool x105004_1, .bool x105005_1, .slice none 0 0]) ?_ 3 _ rfl; (with_reducible repeat (first | refine blk_drewN ?_ _ | refine blk_drew ?_ | refine blk_alloc ?_ _)); refine blk_put (cs := #[.int .i64 ((rd_T49 l0 a1).f0), .string ((rd_T49 l0 a1).f1), .int .i64 x105002_1, .bool x105003_1, .bool x105004_1, .bool x105005_1, .slice none 0 0]) ?_ 2 _ rfl; (with_reducible repeat (first | refine blk_drewN ?_ _ | refine blk_drew ?_ | refine blk_alloc ?_ _)); refine blk_put (cs := #[.int .i64 ((rd_T49 l0 a1).f0), .string x105001_1, .int .i64 x105002_1, .bool x105003_1, .bool x105004_1, .bool x105005_1, .slice none 0 0]) ?_ 1 _ rfl; (with_reducible repeat (first | refine blk_drewN ?_ _ | refine blk_drew ?_ | refine blk_alloc ?_ _)); refine blk_put (cs := #[.int .i64 x105000_1, .string x105001_1, .int .i64 x105002_1, .bool x105003_1, .bool x105004_1, .bool x105005_1, .slice none 0 0]) ?_ 0 _ rfl; (with_reducible repeat (first | refine blk_drewN ?_ _ | refine blk_drew ?_ | refine blk_alloc ?_ _)); exact BK104.out) Tryd.underlying51 rfl (by kernel_rfl)) rfl ?_
                    exact ⟨_, by first | rfl | (simp [errW_none, errW_some] <;> rfl) | (simp [*, errW_none, errW_some] <;> rfl), by (with_reducible repeat (first | apply Kd.R_alloc | apply Kd.R_drewN | apply Kd.R_drew)); exact Kd.R_mono (Kd.R_far (p := ⟨gb104, 6, none⟩) (Kd.R_far (p := ⟨gb104, 5, none⟩) (Kd.R_far (p := ⟨gb104, 4, none⟩) (Kd.R_far (p := ⟨gb104, 3, none⟩) (Kd.R_far (p := ⟨gb104, 2, none⟩) (Kd.R_far (p := ⟨gb104, 1, none⟩) (Kd.R_far (p := ⟨gb104, 0, none⟩) (Kd.R_mono HO_107006.out (fun k_ hk => (⟨hk, hk.1⟩ : _ ∧ k_ ≠ gb104))) (fun _ hk => hk.2) (.int .i64 ((rd_T49 l0 a1).f0))) (fun _ hk => hk.2) (.string ((rd_T49 l0 a1).f1))) (fun _ hk => hk.2) (.int .i64 ((rd_T49 l0 a1).f2))) (fun _ hk => hk.2) (.bool ((rd_T49 l0 a1).f3))) (fun _ hk => hk.2) (.bool ((rd_T49 l0 a1).f4))) (fun _ hk => hk.2) (.bool ((rd_T49 l0 a1).f5))) (fun _ hk => hk.2) (.slice Ao28 x107006_1.length co28)) (fun _ hk => trivial), by repeat (first | (with_reducible first | exact HB.out | apply below_alloc | apply pw_below_drewN | apply below_drew1 | refine below_set ?_ GE104.out | refine below_set ?_ GE106.out) | exact HB.out)⟩
                  · replace c24 := Bool.eq_false_iff.mpr c24
                    subst c24
                    have H1 : ((fleuronref1_node.f kj20 l0 x1_1 (wrap64 (a2 + 1))).bind fun bt111 => (if a2 < 32 then (if x107006_1.length < 2199023255552 then (fleuronref1_node.l0 kj20 l0 bt111.2.2.2.2.2.2.2 a2 t108 ((rd_T49 l0 a1).f0) ((rd_T49 l0 a1).f1) ((rd_T49 l0 a1).f2) ((rd_T49 l0 a1).f3) ((rd_T49 l0 a1).f4) ((rd_T49 l0 a1).f5) (x107006_1 ++ [(⟨(⟨bt111.1, bt111.2.1, bt111.2.2.1, bt111.2.2.2.1, bt111.2.2.2.2.1, bt111.2.2.2.2.2.1⟩ : S49), bt111.2.2.2.2.2.2.1⟩ : S51)])) else (none)) else (fleuronref1_node.l0 kj20 l0 bt111.2.2.2.2.2.2.2 a2 t108 ((rd_T49 l0 a1).f0) ((rd_T49 l0 a1).f1) ((rd_T49 l0 a1).f2) ((rd_T49 l0 a1).f3) ((rd_T49 l0 a1).f4) ((rd_T49 l0 a1).f5) x107006_1))) = some (r1, r2, r3, r4, r5, r6, r7, r8) := by rw [if_neg (show ¬ (false = true) by decide)] at H; exact H
                    clear H
                    have H := H1
                    clear H1
                    replace H := Option.bind_eq_some_iff.mp H
                    obtain ⟨⟨t111, t112, t113, t114, t115, t116, t117, t120⟩, A290, H⟩ := H
                    replace H : (if a2 < 32 then (if x107006_1.length < 2199023255552 then (fleuronref1_node.l0 kj20 l0 t120 a2 t108 ((rd_T49 l0 a1).f0) ((rd_T49 l0 a1).f1) ((rd_T49 l0 a1).f2) ((rd_T49 l0 a1).f3) ((rd_T49 l0 a1).f4) ((rd_T49 l0 a1).f5) (x107006_1 ++ [(⟨(⟨t111, t112, t113, t114, t115, t116⟩ : S49), t117⟩ : S51)])) else (none)) else (fleuronref1_node.l0 kj20 l0 t120 a2 t108 ((rd_T49 l0 a1).f0) ((rd_T49 l0 a1).f1) ((rd_T49 l0 a1).f2) ((rd_T49 l0 a1).f3) ((rd_T49 l0 a1).f4) ((rd_T49 l0 a1).f5) x107006_1)) = some (r1, r2, r3, r4, r5, r6, r7, r8) := H
                    have A29 := Aside0.mk A290
                    clear A290
                    by_cases c30 : a2 < 32
                    · rw [if_pos c30] at H
                      have c30b0 : decide (a2 < 32) = true := decide_eq_true c30
                      clear c30
                      by_cases c31 : x107006_1.length < 2199023255552
                      · rw [if_pos c31] at H
                        have LMc31 := Aside0.mk c31
                        clear c31
                        obtain ⟨y122, hy122⟩ : ∃ y_ : List (S51), y_ = (x107006_1 ++ [(⟨(⟨t111, t112, t113, t114, t115, t116⟩ : S49), t117⟩ : S51)]) := ⟨_, rfl⟩
                        replace H : (fleuronref1_node.l0 kj20 l0 t120 a2 t108 ((rd_T49 l0 a1).f0) ((rd_T49 l0 a1).f1) ((rd_T49 l0 a1).f2) ((rd_T49 l0 a1).f3) ((rd_T49 l0 a1).f4) ((rd_T49 l0 a1).f5) y122) = some (r1, r2, r3, r4, r5, r6, r7, r8) := by first | (rw [hy122]; with_reducible exact H) | (have H2_ := (Option.bind_some _ _).symm.trans H; rw [hy122]; with_reducible exact H2_) | (have H2_ := (Option.bind_some _ _).symm.trans H; with_reducible exact H2_) | with_reducible exact H | (rw [hy122]; exact H) | exact H
                        have Ny122 := Aside0.mk hy122
                        clear hy122
                        have H' := Aside0.mk H
                        clear H
                        go_wp2_with (first | ((with_reducible refine gate_callee (f := 29) rfl ?_); refine goesL_ (some 55) rfl rfl Tryd.func29 (by kernel_rfl) rfl #[.slice (some ad105) l0.length c0, .int .i64 x1_1, .int .i64 (wrap64 (a2 + 1))] rfl (by (try simp only [List.map_toArray, List.map_cons, List.map_nil]); first | done | rfl | (simp only [List.length_drop, List.length_take]; rfl)) ?_; (with_reducible refine (ih kj20 (by have := HK1.out; have := HJ20.out; omega) _ _ l0 x1_1 (wrap64 (a2 + 1)) t111 t112 t113 t114 t115 t116 t117 t120 _ ?side1 ?side2 A29.out).mono ?_); (case side1 => repeat (first | exact (Kd.C_below HR0.out HB.out) | (with_reducible refine Kd.C_alloc ?_ _) | (with_reducible refine Kd.C_drewN ?_ _) | (with_reducible refine Kd.C_drew ?_))); (case side2 => exact HC0.out); rintro e w32 ⟨v118, rfl, ho0, hb⟩; refine ⟨_, rfl, ?_⟩; have n0_ := Aside0.mk (Kd.R_elder' (by (with_reducible repeat (first | apply Kd.R_alloc | apply Kd.R_drewN | apply Kd.R_drew)); exact HO_107006.out) (Kd.R_base ho0) hb); have n1_ := Aside0.mk (Kd.R_lower (Kd.R_newB (Kd.R_newB (Kd.R_new' ho0 (Kd.R_lt (by (with_reducible repeat (first | apply Kd.R_alloc | apply Kd.R_drewN | apply Kd.R_drew)); exact HO_107006.out))) (g := gb104) (o := .cells #[.int .i64 x105000_1, .string x105001_1, .int .i64 x105002_1, .bool x105003_1, .bool x105004_1, .bool x105005_1, .slice none 0 0] 51 (0, 0)) (by (with_reducible repeat (first | refine blk_drewN ?_ _ | refine blk_drew ?_ | refine blk_alloc ?_ _)); exact BK104.out)) (g := gb106) (o := .cells #[.int .i64 ((rd_T49 l0 a1).f0), .string ((rd_T49 l0 a1).f1), .int .i64 ((rd_T49 l0 a1).f2), .bool ((rd_T49 l0 a1).f3), .bool ((rd_T49 l0 a1).f4), .bool ((rd_T49 l0 a1).f5), u107006] 51 (0, 0)) (by (with_reducible repeat (first | refine blk_drewN ?_ _ | refine blk_drew ?_ | refine blk_alloc ?_ _)); exact BK106.out)) (below_size (by repeat (first | (with_reducible first | exact HB.out | apply below_alloc | apply pw_below_drewN | apply below_drew1 | refine below_set ?_ GE104.out | refine below_set ?_ GE106.out) | exact HB.out)))); have n2_ := Aside0.mk (blk_below (g := gb104) (o := .cells #[.int .i64 x105000_1, .string x105001_1, .int .i64 x105002_1, .bool x105003_1, .bool x105004_1, .bool x105005_1, .slice none 0 0] 51 (0, 0)) (by (with_reducible repeat (first | refine blk_drewN ?_ _ | refine blk_drew ?_ | refine blk_alloc ?_ _)); exact BK104.out) hb); have n3_ := Aside0.mk (blk_below (g := gb106) (o := .cells #[.int .i64 ((rd_T49 l0 a1).f0), .string ((rd_T49 l0 a1).f1), .int .i64 ((rd_T49 l0 a1).f2), .bool ((rd_T49 l0 a1).f3), .bool ((rd_T49 l0 a1).f4), .bool ((rd_T49 l0 a1).f5), u107006] 51 (0, 0)) (by (with_reducible repeat (first | refine blk_drewN ?_ _ | refine blk_drew ?_ | refine blk_alloc ?_ _)); exact BK106.out) hb); have n4_ := Aside0.mk (below_step (by repeat (first | (with_reducible first | exact HB.out | apply below_alloc | apply pw_below_drewN | apply below_drew1 | refine below_set ?_ GE104.out | refine below_set ?_ GE106.out) | exact HB.out)) hb); clear HO_107006; clear BK104; clear BK106; clear HB; have HO_107006 := n0_; have HO119 := n1_; have BK104 := n2_; have BK106 := n3_; have HB := n4_; clear n0_ n1_ n2_ n3_ n4_; (try clear hb); (try clear hb2); (try clear hk); (try clear hi); (try clear ho0)) | ((with_reducible refine gate_dst (N := 10) rfl ?_); refine box_event ?hg (N := 10) ?hd (cs := #[.int .i64 0, .string (⟨#[]⟩ : ByteArray), .int .i64 0, .bool false, .bool false, .bool false, .slice none 0 0]) (t := 51) ?hr ?_; (case hd => rfl); (case hg => rfl); (case hr => first | (go_simp; done) | (go_simp; rfl)); intro gb121 hg w33 hbox hb; have n0_ := Aside0.mk (Kd.R_below (Kd.R_elderB (by (with_reducible repeat (first | apply Kd.R_alloc | apply Kd.R_drewN | apply Kd.R_drew)); exact HO_107006.out) gb121 (Nat.le_of_eq hg.symm)) hb); have n1_ := Aside0.mk (Kd.R_below (Kd.R_elderB (by (with_reducible repeat (first | apply Kd.R_alloc | apply Kd.R_drewN | apply Kd.R_drew)); exact HO119.out) gb121 (Nat.le_of_eq hg.symm)) hb); have n2_ := Aside0.mk (blk_below (g := gb104) (o := .cells #[.int .i64 x105000_1, .string x105001_1, .int .i64 x105002_1, .bool x105003_1, .bool x105004_1, .bool x105005_1, .slice none 0 0] 51 (0, 0)) (by (with_reducible repeat (first | refine blk_drewN ?_ _ | refine blk_drew ?_ | refine blk_alloc ?_ _)); exact BK104.out) hb); have n3_ := Aside0.mk (blk_below (g := gb106) (o := .cells #[.int .i64 ((rd_T49 l0 a1).f0), .string ((rd_T49 l0 a1).f1), .int .i64 ((rd_T49 l0 a1).f2), .bool ((rd_T49 l0 a1).f3), .bool ((rd_T49 l0 a1).f4), .bool ((rd_T49 l0 a1).f5), u107006] 51 (0, 0)) (by (with_reducible repeat (first | refine blk_drewN ?_ _ | refine blk_drew ?_ | refine blk_alloc ?_ _)); exact BK106.out) hb); have n4_ := Aside0.mk (below_step (by repeat (first | (with_reducible first | exact HB.out | apply below_alloc | apply pw_below_drewN | apply below_drew1 | refine below_set ?_ GE104.out | refine below_set ?_ GE106.out) | exact HB.out)) hb); have n5_ := Aside0.mk (hbox); have n6_ := Aside0.mk ((by rw [hg]; exact (below_size (by repeat (first | (with_reducible first | exact HB.out | apply below_alloc | apply pw_below_drewN | apply below_drew1 | refine below_set ?_ GE104.out | refine below_set ?_ GE106.out) | exact HB.out))) : w.heap.size ≤ gb121)); have n7_ := Aside0.mk ((by rw [hg]; exact (below_size (by repeat (first | (with_reducible first | exact HB.out | apply below_alloc | apply pw_below_drewN | apply below_drew1 | refine below_set ?_ GE104.out | refine below_set ?_ GE106.out) | exact HB.out))) : w.heap.size ≤ gb121)); have n8_ := Aside0.mk ((by rw [hg]; exact Nat.ne_of_lt (blk_lt (g := gb104) (o := .cells #[.int .i64 x105000_1, .string x105001_1, .int .i64 x105002_1, .bool x105003_1, .bool x105004_1, .bool x105005_1, .slice none 0 0] 51 (0, 0)) (by (with_reducible repeat (first | refine blk_drewN ?_ _ | refine blk_drew ?_ | refine blk_alloc ?_ _)); exact BK104.out)) : gb104 ≠ gb121)); have n9_ := Aside0.mk ((by rw [hg]; exact Nat.ne_of_gt (blk_lt (g := gb104) (o := .cells #[.int .i64 x105000_1, .string x105001_1, .int .i64 x105002_1, .bool x105003_1, .bool x105004_1, .bool x105005_1, .slice none 0 0] 51 (0, 0)) (by (with_reducible repeat (first | refine blk_drewN ?_ _ | refine blk_drew ?_ | refine blk_alloc ?_ _)); exact BK104.out)) : gb121 ≠ gb104)); have n10_ := Aside0.mk ((by rw [hg]; exact Nat.ne_of_lt (blk_lt (g := gb106) (o := .cells #[.int .i64 ((rd_T49 l0 a1).f0), .string ((rd_T49 l0 a1).f1), .int .i64 ((rd_T49 l0 a1).f2), .bool ((rd_T49 l0 a1).f3), .bool ((rd_T49 l0 a1).f4), .bool ((rd_T49 l0 a1).f5), u107006] 51 (0, 0)) (by (with_reducible repeat (first | refine blk_drewN ?_ _ | refine blk_drew ?_ | refine blk_alloc ?_ _)); exact BK106.out)) : gb106 ≠ gb121)); have n11_ := Aside0.mk ((by rw [hg]; exact Nat.ne_of_gt (blk_lt (g := gb106) (o := .cells #[.int .i64 ((rd_T49 l0 a1).f0), .string ((rd_T49 l0 a1).f1), .int .i64 ((rd_T49 l0 a1).f2), .bool ((rd_T49 l0 a1).f3), .bool ((rd_T49 l0 a1).f4), .bool ((rd_T49 l0 a1).f5), u107006] 51 (0, 0)) (by (with_reducible repeat (first | refine blk_drewN ?_ _ | refine blk_drew ?_ | refine blk_alloc ?_ _)); exact BK106.out)) : gb121 ≠ gb106)); clear HO_107006; clear HO119; clear BK104; clear BK106; clear HB; have HO_107006 := n0_; have HO119 := n1_; have BK104 := n2_; have BK106 := n3_; have HB := n4_; have BK121 := n5_; have GW121 := n6_; have GE121 := n7_; have NB104_121 := n8_; have NB121_104 := n9_; have NB106_121 := n10_; have NB121_106 := n11_; clear n0_ n1_ n2_ n3_ n4_ n5_ n6_ n7_ n8_ n9_ n10_ n11_; clear hb hbox hg; have hnb34 := NB121_104.out; have hnc34 := NB104_121.out; have hnb35 := NB121_106.out; have hnc35 := NB106_121.out; have hcz36_0 : w33.cell? ⟨gb121, 0, none⟩ = some (.int .i64 0) := (blk_cell BK121.out 0).trans rfl; have hcz36_1 : w33.cell? ⟨gb121, 1, none⟩ = some (.string (⟨#[]⟩ : ByteArray)) := (blk_cell BK121.out 1).trans rfl; have hcz36_2 : w33.cell? ⟨gb121, 2, none⟩ = some (.int .i64 0) := (blk_cell BK121.out 2).trans rfl; have hcz36_3 : w33.cell? ⟨gb121, 3, none⟩ = some (.bool false) := (blk_cell BK121.out 3).trans rfl; have hcz36_4 : w33.cell? ⟨gb121, 4, none⟩ = some (.bool false) := (blk_cell BK121.out 4).trans rfl; have hcz36_5 : w33.cell? ⟨gb121, 5, none⟩ = some (.bool false) := (blk_cell BK121.out 5).trans rfl; have hcz36_6 : w33.cell? ⟨gb121, 6, none⟩ = some (.slice none 0 0) := (blk_cell BK121.out 6).trans rfl; have hfz36_0 := blk_frozen BK121.out 0; have hfz36_1 := blk_frozen BK121.out 1; have hfz36_2 := blk_frozen BK121.out 2; have hfz36_3 := blk_frozen BK121.out 3; have hfz36_4 := blk_frozen BK121.out 4; have hfz36_5 := blk_frozen BK121.out 5; have hfz36_6 := blk_frozen BK121.out 6; obtain ⟨Ao37, co37, eo37⟩ := Kd.R_slice HO119.out; subst eo37) | ((with_reducible refine gate_store (t := 51) (p := 10) rfl ?_); refine store_event (t := 51) (p := 10) (v := ?vo_w38) (w1 := (((((((w33.setCell ⟨gb121, 0, none⟩ (.int .i64 t111)).setCell ⟨gb121, 1, none⟩ (.string t112)).setCell ⟨gb121, 2, none⟩ (.int .i64 t113)).setCell ⟨gb121, 3, none⟩ (.bool t114)).setCell ⟨gb121, 4, none⟩ (.bool t115)).setCell ⟨gb121, 5, none⟩ (.bool t116)).setCell ⟨gb121, 6, none⟩ (.slice Ao37 t117.length co37))) ?hg ?ho ?hn ?hr ?_; (case ho => rfl); (case hg => rfl); (case hn => rfl); (case hr => first | (go_simp; done) | (go_simp; rfl)); intro w38 hw; have n0_ : Aside0 (Kd.R k51 51 w38 w.heap.size (fun k_ => some k_ ≠ (.slice Ao37 t117.length co37 : Value).ownBlock ∧ k_ ≠ gb104 ∧ k_ ≠ gb106 ∧ k_ ≠ gb121) u107006 x107006_1) := ⟨(by rw [hw]; exact (by (with_reducible repeat (first | apply Kd.R_alloc | apply Kd.R_drewN | apply Kd.R_drew)); exact Kd.R_mono (Kd.R_far (p := ⟨gb121, 6, none⟩) (Kd.R_far (p := ⟨gb121, 5, none⟩) (Kd.R_far (p := ⟨gb121, 4, none⟩) (Kd.R_far (p := ⟨gb121, 3, none⟩) (Kd.R_far (p := ⟨gb121, 2, none⟩) (Kd.R_far (p := ⟨gb121, 1, none⟩) (Kd.R_far (p := ⟨gb121, 0, none⟩) (Kd.R_mono HO_107006.out (fun k_ hk => (⟨hk, hk.2⟩ : _ ∧ k_ ≠ gb121))) (fun _ hk => hk.2) (.int .i64 t111)) (fun _ hk => hk.2) (.string t112)) (fun _ hk => hk.2) (.int .i64 t113)) (fun _ hk => hk.2) (.bool t114)) (fun _ hk => hk.2) (.bool t115)) (fun _ hk => hk.2) (.bool t116)) (fun _ hk => hk.2) (.slice Ao37 t117.length co37)) (fun _ hk => ⟨hk.1.1.2, ⟨hk.1.1.1.1, ⟨hk.1.1.1.2, hk.1.2⟩⟩⟩)))⟩; have n1_ : Aside0 (Kd.R k51 51 w38 w.heap.size (fun k_ => some k_ ≠ (u107006 : Value).ownBlock ∧ k_ ≠ gb104 ∧ k_ ≠ gb106 ∧ k_ ≠ gb121) (.slice Ao37 t117.length co37) t117) := ⟨(by rw [hw]; exact (by (with_reducible repeat (first | apply Kd.R_alloc | apply Kd.R_drewN | apply Kd.R_drew)); exact Kd.R_mono (Kd.R_far (p := ⟨gb121, 6, none⟩) (Kd.R_far (p := ⟨gb121, 5, none⟩) (Kd.R_far (p := ⟨gb121, 4, none⟩) (Kd.R_far (p := ⟨gb121, 3, none⟩) (Kd.R_far (p := ⟨gb121, 2, none⟩) (Kd.R_far (p := ⟨gb121, 1, none⟩) (Kd.R_far (p := ⟨gb121, 0, none⟩) (Kd.R_mono HO119.out (fun k_ hk => (⟨hk, hk.2⟩ : _ ∧ k_ ≠ gb121))) (fun _ hk => hk.2) (.int .i64 t111)) (fun _ hk => hk.2) (.string t112)) (fun _ hk => hk.2) (.int .i64 t113)) (fun _ hk => hk.2) (.bool t114)) (fun _ hk => hk.2) (.bool t115)) (fun _ hk => hk.2) (.bool t116)) (fun _ hk => hk.2) (.slice Ao37 t117.length co37)) (fun _ hk => ⟨hk.1.1.1.1.2, ⟨hk.1.1.1.2, ⟨hk.1.1.2, hk.1.2⟩⟩⟩)))⟩; have n2_ : Aside0 (w38.heap[gb104]? = some (.cells #[.int .i64 x105000_1, .string x105001_1, .int .i64 x105002_1, .bool x105003_1, .bool x105004_1, .bool x105005_1, .slice none 0 0] 51 (0, 0))) := ⟨(by rw [hw]; exact (by (with_reducible repeat (first | refine blk_drewN ?_ _ | refine blk_drew ?_ | refine blk_alloc ?_ _)); refine blk_far ?_ NB104_121.out _; (with_reducible repeat (first | refine blk_drewN ?_ _ | refine blk_drew ?_ | refine blk_alloc ?_ _)); refine blk_far ?_ NB104_121.out _; (with_reducible repeat (first | refine blk_drewN ?_ _ | refine blk_drew ?_ | refine blk_alloc ?_ _)); refine blk_far ?_ NB104_121.out _; (with_reducible repeat (first | refine blk_drewN ?_ _ | refine blk_drew ?_ | refine blk_alloc ?_ _)); refine blk_far ?_ NB104_121.out _; (with_reducible repeat (first | refine blk_drewN ?_ _ | refine blk_drew ?_ | refine blk_alloc ?_ _)); refine blk_far ?_ NB104_121.out _; (with_reducible repeat (first | refine blk_drewN ?_ _ | refine blk_drew ?_ | refine blk_alloc ?_ _)); refine blk_far ?_ NB104_121.out _; (with_reducible repeat (first | refine blk_drewN ?_ _ | refine blk_drew ?_ | refine blk_alloc ?_ _)); refine blk_far ?_ NB104_121.out _; (with_reducible repeat (first | refine blk_drewN ?_ _ | refine blk_drew ?_ | refine blk_alloc ?_ _)); exact BK104.out))⟩; have n3_ : Aside0 (w38.heap[gb106]? = some (.cells #[.int .i64 ((rd_T49 l0 a1).f0), .string ((rd_T49 l0 a1).f1), .int .i64 ((rd_T49 l0 a1).f2), .bool ((rd_T49 l0 a1).f3), .bool ((rd_T49 l0 a1).f4), .bool ((rd_T49 l0 a1).f5), u107006] 51 (0, 0))) := ⟨(by rw [hw]; exact (by (with_reducible repeat (first | refine blk_drewN ?_ _ | refine blk_drew ?_ | refine blk_alloc ?_ _)); refine blk_far ?_ NB106_121.out _; (with_reducible repeat (first | refine blk_drewN ?_ _ | refine blk_drew ?_ | refine blk_alloc ?_ _)); refine blk_far ?_ NB106_121.out _; (with_reducible repeat (first | refine blk_drewN ?_ _ | refine blk_drew ?_ | refine blk_alloc ?_ _)); refine blk_far ?_ NB106_121.out _; (with_reducible repeat (first | refine blk_drewN ?_ _ | refine blk_drew ?_ | refine blk_alloc ?_ _)); refine blk_far ?_ NB106_121.out _; (with_reducible repeat (first | refine blk_drewN ?_ _ | refine blk_drew ?_ | refine blk_alloc ?_ _)); refine blk_far ?_ NB106_121.out _; (with_reducible repeat (first | refine blk_drewN ?_ _ | refine blk_drew ?_ | refine blk_alloc ?_ _)); refine blk_far ?_ NB106_121.out _; (with_reducible repeat (first | refine blk_drewN ?_ _ | refine blk_drew ?_ | refine blk_alloc ?_ _)); refine blk_far ?_ NB106_121.out _; (with_reducible repeat (first | refine blk_drewN ?_ _ | refine blk_drew ?_ | refine blk_alloc ?_ _)); exact BK106.out))⟩; have n4_ : Aside0 (w38.heap[gb121]? = some (.cells #[.int .i64 t111, .string t112, .int .i64 t113, .bool t114, .bool t115, .bool t116, .slice Ao37 t117.length co37] 51 (0, 0))) := ⟨(by rw [hw]; exact (by (with_reducible repeat (first | refine blk_drewN ?_ _ | refine blk_drew ?_ | refine blk_alloc ?_ _)); refine blk_put (cs := #[.int .i64 t111, .string t112, .int .i64 t113, .bool t114, .bool t115, .bool t116, .slice none 0 0]) ?_ 6 _ rfl; (with_reducible repeat (first | refine blk_drewN ?_ _ | refine blk_drew ?_ | refine blk_alloc ?_ _)); refine blk_put (cs := #[.int .i64 t111, .string t112, .int .i64 t113, .bool t114, .bool t115, .bool false, .slice none 0 0]) ?_ 5 _ rfl; (with_reducible repeat (first | refine blk_drewN ?_ _ | refine blk_drew ?_ | refine blk_alloc ?_ _)); refine blk_put (cs := #[.int .i64 t111, .string t112, .int .i64 t113, .bool t114, .bool false, .bool false, .slice none 0 0]) ?_ 4 _ rfl; (with_reducible repeat (first | refine blk_drewN ?_ _ | refine blk_drew ?_ | refine blk_alloc ?_ _)); refine blk_put (cs := #[.int .i64 t111, .string t112, .int .i64 t113, .bool false, .bool false, .bool false, .slice none 0 0]) ?_ 3 _ rfl; (with_reducible repeat (first | refine blk_drewN ?_ _ | refine blk_drew ?_ | refine blk_alloc ?_ _)); refine blk_put (cs := #[.int .i64 t111, .string t112, .int .i64 0, .bool false, .bool false, .bool false, .slice none 0 0]) ?_ 2 _ rfl; (with_reducible repeat (first | refine blk_drewN ?_ _ | refine blk_drew ?_ | refine blk_alloc ?_ _)); refine blk_put (cs := #[.int .i64 t111, .string (⟨#[]⟩ : ByteArray), .int .i64 0, .bool false, .bool false, .bool false, .slice none 0 0]) ?_ 1 _ rfl; (with_reducible repeat (first | refine blk_drewN ?_ _ | refine blk_drew ?_ | refine blk_alloc ?_ _)); refine blk_put (cs := #[.int .i64 0, .string (⟨#[]⟩ : ByteArray), .int .i64 0, .bool false, .bool false, .bool false, .slice none 0 0]) ?_ 0 _ rfl; (with_reducible repeat (first | refine blk_drewN ?_ _ | refine blk_drew ?_ | refine blk_alloc ?_ _)); exact BK121.out))⟩; have n5_ : Aside0 (Below w.heap.size w w38) := ⟨(by rw [hw]; exact (by repeat (first | (with_reducible first | exact HB.out | apply below_alloc | apply pw_below_drewN | apply below_drew1 | refine below_set ?_ GE104.out | refine below_set ?_ GE106.out | refine below_set ?_ GE121.out) | exact HB.out)))⟩; clear hw; clear HO_107006; clear HO119; clear BK104; clear BK106; clear BK121; clear HB; have HO_107006 := n0_; have HO119 := n1_; have BK104 := n2_; have BK106 := n3_; have BK121 := n4_; have HB := n5_; clear n0_ n1_ n2_ n3_ n4_ n5_; have hnb39 := NB106_104.out; have hnc39 := NB104_106.out; have hcz40_0 : w38.cell? ⟨gb106, 0, none⟩ = some (.int .i64 ((rd_T49 l0 a1).f0)) := (blk_cell BK106.out 0).trans rfl; have hcz40_1 : w38.cell? ⟨gb106, 1, none⟩ = some (.string ((rd_T49 l0 a1).f1)) := (blk_cell BK106.out 1).trans rfl; have hcz40_2 : w38.cell? ⟨gb106, 2, none⟩ = some (.int .i64 ((rd_T49 l0 a1).f2)) := (blk_cell BK106.out 2).trans rfl; have hcz40_3 : w38.cell? ⟨gb106, 3, none⟩ = some (.bool ((rd_T49 l0 a1).f3)) := (blk_cell BK106.out 3).trans rfl; have hcz40_4 : w38.cell? ⟨gb106, 4, none⟩ = some (.bool ((rd_T49 l0 a1).f4)) := (blk_cell BK106.out 4).trans rfl; have hcz40_5 : w38.cell? ⟨gb106, 5, none⟩ = some (.bool ((rd_T49 l0 a1).f5)) := (blk_cell BK106.out 5).trans rfl; have hcz40_6 : w38.cell? ⟨gb106, 6, none⟩ = some (u107006) := (blk_cell BK106.out 6).trans rfl; have hfz40_0 := blk_frozen BK106.out 0; have hfz40_1 := blk_frozen BK106.out 1; have hfz40_2 := blk_frozen BK106.out 2; have hfz40_3 := blk_frozen BK106.out 3; have hfz40_4 := blk_frozen BK106.out 4; have hfz40_5 := blk_frozen BK106.out 5; have hfz40_6 := blk_frozen BK106.out 6; have hcz41_0 : w38.cell? ⟨gb121, 0, none⟩ = some (.int .i64 t111) := (blk_cell BK121.out 0).trans rfl; have hcz41_1 : w38.cell? ⟨gb121, 1, none⟩ = some (.string t112) := (blk_cell BK121.out 1).trans rfl; have hcz41_2 : w38.cell? ⟨gb121, 2, none⟩ = some (.int .i64 t113) := (blk_cell BK121.out 2).trans rfl; have hcz41_3 : w38.cell? ⟨gb121, 3, none⟩ = some (.bool t114) := (blk_cell BK121.out 3).trans rfl; have hcz41_4 : w38.cell? ⟨gb121, 4, none⟩ = some (.bool t115) := (blk_cell BK121.out 4).trans rfl; have hcz41_5 : w38.cell? ⟨gb121, 5, none⟩ = some (.bool t116) := (blk_cell BK121.out 5).trans rfl; have hcz41_6 : w38.cell? ⟨gb121, 6, none⟩ = some (.slice Ao37 t117.length co37) := (blk_cell BK121.out 6).trans rfl; have hfz41_0 := blk_frozen BK121.out 0; have hfz41_1 := blk_frozen BK121.out 1; have hfz41_2 := blk_frozen BK121.out 2; have hfz41_3 := blk_frozen BK121.out 3; have hfz41_4 := blk_frozen BK121.out 4; have hfz41_5 := blk_frozen BK121.out 5; have hfz41_6 := blk_frozen BK121.out 6) | ((with_reducible refine gate_builtin (b := .append) (xs := #[.tmp 61, .tmp 63]) rfl ?_); at_builtin; refine Kd.R_append k51 (w0 := w) w.heap.size rfl (.tmp 61) (.tmp 63) 23 51 (.agg #[(.int .i64 0), (.string ⟨#[]⟩), (.int .i64 0), (.bool false), (.bool false), (.bool false), (.slice none 0 0)]) 64 rfl Tryd.underlying23 info51 rfl (by decide) (by omega) u107006 x107006_1 (⟨(⟨t111, t112, t113, t114, t115, t116⟩ : S49), t117⟩ : S51) [.int .i64 t111, .string t112, .int .i64 t113, .bool t114, .bool t115, .bool t116, .slice Ao37 t117.length co37] (fun k_ => k_ ≠ gb104 ∧ k_ ≠ gb106 ∧ k_ ≠ gb121) (fun k_ => ((fun k_ => k_ ≠ gb104 ∧ k_ ≠ gb106 ∧ k_ ≠ gb121)) k_ ∧ some k_ ≠ (u107006 : Value).ownBlock) rfl rfl ?aP (fun _ hk => hk) ?aF ?aO ?aB ?aS ?aL ?_; (case aP => exact k51_mkM _ _ _ (⟨(⟨t111, t112, t113, t114, t115, t116⟩ : S49), t117⟩ : S51) (Kd.R_mono (HO119.out) (fun k_ hk => ⟨⟨hk.2.1, ⟨hk.2.2.1, hk.2.2.2⟩⟩, hk.1⟩))); (case aB => exact (by repeat (first | (with_reducible first | exact HB.out | apply below_alloc | apply pw_below_drewN | apply below_drew1 | refine below_set ?_ GE104.out | refine below_set ?_ GE106.out | refine below_set ?_ GE121.out) | exact HB.out))); (case aF => exact (fun k_ hk => ⟨Kd.freshB (g := gb104) (o := .cells #[.int .i64 x105000_1, .string x105001_1, .int .i64 x105002_1, .bool x105003_1, .bool x105004_1, .bool x105005_1, .slice none 0 0] 51 (0, 0)) (by (with_reducible repeat (first | refine blk_drewN ?_ _ | refine blk_drew ?_ | refine blk_alloc ?_ _)); exact BK104.out) k_ hk, Kd.freshB (g := gb106) (o := .cells #[.int .i64 ((rd_T49 l0 a1).f0), .string ((rd_T49 l0 a1).f1), .int .i64 ((rd_T49 l0 a1).f2), .bool ((rd_T49 l0 a1).f3), .bool ((rd_T49 l0 a1).f4), .bool ((rd_T49 l0 a1).f5), u107006] 51 (0, 0)) (by (with_reducible repeat (first | refine blk_drewN ?_ _ | refine blk_drew ?_ | refine blk_alloc ?_ _)); exact BK106.out) k_ hk, Kd.freshB (g := gb121) (o := .cells #[.int .i64 t111, .string t112, .int .i64 t113, .bool t114, .bool t115, .bool t116, .slice Ao37 t117.length co37] 51 (0, 0)) (by (with_reducible repeat (first | refine blk_drewN ?_ _ | refine blk_drew ?_ | refine blk_alloc ?_ _)); exact BK121.out) k_ hk⟩)); (case aO => exact (by (with_reducible repeat (first | apply Kd.R_alloc | apply Kd.R_drewN | apply Kd.R_drew)); exact Kd.R_mono HO_107006.out (fun _ hk => ⟨hk.2.1, ⟨hk.2.2.1, hk.2.2.2⟩⟩))); (case aS => exact (below_size (by repeat (first | (with_reducible first | exact HB.out | apply below_alloc | apply pw_below_drewN | apply below_drew1 | refine below_set ?_ GE104.out | refine below_set ?_ GE106.out | refine below_set ?_ GE121.out) | exact HB.out)))); (case aL => have := LMc31.out; omega); intro v123 w42 ho hb hg hat; rw [← Ny122.out] at ho; have n0_ := Aside0.mk (blk_grown (g := gb104) (o := .cells #[.int .i64 x105000_1, .string x105001_1, .int .i64 x105002_1, .bool x105003_1, .bool x105004_1, .bool x105005_1, .slice none 0 0] 51 (0, 0)) (by (with_reducible repeat (first | refine blk_drewN ?_ _ | refine blk_drew ?_ | refine blk_alloc ?_ _)); exact BK104.out) hg (Kd.R_away HO_107006.out (fun _ hk => hk.2.1))); have n1_ := Aside0.mk (blk_grown (g := gb106) (o := .cells #[.int .i64 ((rd_T49 l0 a1).f0), .string ((rd_T49 l0 a1).f1), .int .i64 ((rd_T49 l0 a1).f2), .bool ((rd_T49 l0 a1).f3), .bool ((rd_T49 l0 a1).f4), .bool ((rd_T49 l0 a1).f5), u107006] 51 (0, 0)) (by (with_reducible repeat (first | refine blk_drewN ?_ _ | refine blk_drew ?_ | refine blk_alloc ?_ _)); exact BK106.out) hg (Kd.R_away HO_107006.out (fun _ hk => hk.2.2.1))); have n2_ := Aside0.mk (blk_grown (g := gb121) (o := .cells #[.int .i64 t111, .string t112, .int .i64 t113, .bool t114, .bool t115, .bool t116, .slice Ao37 t117.length co37] 51 (0, 0)) (by (with_reducible repeat (first | refine blk_drewN ?_ _ | refine blk_drew ?_ | refine blk_alloc ?_ _)); exact BK121.out) hg (Kd.R_away HO_107006.out (fun _ hk => hk.2.2.2))); have n3_ := Aside0.mk (hb); have n4_ := Aside0.mk (ho); clear BK104; clear BK106; clear BK121; clear HB; clear HO_107006; clear HO119; have BK104 := n0_; have BK106 := n1_; have BK121 := n2_; have HB := n3_; have HO124 := n4_; clear n0_ n1_ n2_ n3_ n4_; clear ho hb hg hat; obtain ⟨Ao43, co43, eo43⟩ := Kd.R_slice HO124.out; subst eo43; have hcz44_0 : w42.cell? ⟨gb106, 0, none⟩ = some (.int .i64 ((rd_T49 l0 a1).f0)) := (blk_cell BK106.out 0).trans rfl; have hcz44_1 : w42.cell? ⟨gb106, 1, none⟩ = some (.string ((rd_T49 l0 a1).f1)) := (blk_cell BK106.out 1).trans rfl; have hcz44_2 : w42.cell? ⟨gb106, 2, none⟩ = some (.int .i64 ((rd_T49 l0 a1).f2)) := (blk_cell BK106.out 2).trans rfl; have hcz44_3 : w42.cell? ⟨gb106, 3, none⟩ = some (.bool ((rd_T49 l0 a1).f3)) := (blk_cell BK106.out 3).trans rfl; have hcz44_4 : w42.cell? ⟨gb106, 4, none⟩ = some (.bool ((rd_T49 l0 a1).f4)) := (blk_cell BK106.out 4).trans rfl; have hcz44_5 : w42.cell? ⟨gb106, 5, none⟩ = some (.bool ((rd_T49 l0 a1).f5)) := (blk_cell BK106.out 5).trans rfl; have hcz44_6 : w42.cell? ⟨gb106, 6, none⟩ = some (u107006) := (blk_cell BK106.out 6).trans rfl; have hfz44_0 := blk_frozen BK106.out 0; have hfz44_1 := blk_frozen BK106.out 1; have hfz44_2 := blk_frozen BK106.out 2; have hfz44_3 := blk_frozen BK106.out 3; have hfz44_4 := blk_frozen BK106.out 4; have hfz44_5 := blk_frozen BK106.out 5; have hfz44_6 := blk_frozen BK106.out 6))
                        go_roundg kj20
                        case measure => have := HK1.out; have := HJ20.out; omega
                        case rel => exact ⟨(t120), (x105000_1), (x105001_1), (x105002_1), (x105003_1), (x105004_1), (x105005_1), (y122), (.slice Ao43 y122.length co43), (by first | rfl | (simp; done) | (simp [*]; done)), H', ⟨by have := HK1.out; have := HJ20.out; omega⟩, ⟨by (with_reducible repeat (first | apply Kd.R_alloc | apply Kd.R_drewN | apply Kd.R_drew)); exact Kd.R_mono (Kd.R_far (p := ⟨gb106, 6, none⟩) (Kd.R_mono HO124.out (fun k_ hk => (⟨hk, hk.2.1⟩ : _ ∧ k_ ≠ gb106))) (fun _ hk => hk.2) (.slice Ao43 y122.length co43)) (fun _ hk => ⟨hk.1.1, hk.1.2.1⟩)⟩, ⟨by (with_reducible repeat (first | refine blk_drewN ?_ _ | refine blk_drew ?_ | refine blk_alloc ?_ _)); refine blk_far ?_ NB104_106.out _; (with_reducible repeat (first | refine blk_drewN ?_ _ | refine blk_drew ?_ | refine blk_alloc ?_ _)); exact BK104.out⟩, ⟨by (with_reducible repeat (first | refine blk_drewN ?_ _ | refine blk_drew ?_ | refine blk_alloc ?_ _)); refine blk_put (cs := #[.int .i64 ((rd_T49 l0 a1).f0), .string ((rd_T49 l0 a1).f1), .int .i64 ((rd_T49 l0 a1).f2), .bool ((rd_T49 l0 a1).f3), .bool ((rd_T49 l0 a1).f4), .bool ((rd_T49 l0 a1).f5), u107006]) ?_ 6 _ rfl; (with_reducible repeat (first | refine blk_drewN ?_ _ | refine blk_drew ?_ | refine blk_alloc ?_ _)); exact BK106.out⟩, ⟨by repeat (first | (with_reducible first | exact HB.out | apply below_alloc | apply pw_below_drewN | apply below_drew1 | refine below_set ?_ GE104.out | refine below_set ?_ GE106.out | refine below_set ?_ GE121.out) | exact HB.out)⟩⟩
                      · rw [if_neg c31] at H
                        exact absurd H (by simp)
                    · rw [if_neg c30] at H
                      have c30b0 : decide (a2 < 32) = false := decide_eq_false c30
                      clear c30
                      have H' := Aside0.mk H
                      clear H
                      go_wp2_with (first | ((with_reducible refine gate_callee (f := 29) rfl ?_); refine goesL_ (some 55) rfl rfl Tryd.func29 (by kernel_rfl) rfl #[.slice (some ad105) l0.length c0, .int .i64 x1_1, .int .i64 (wrap64 (a2 + 1))] rfl (by (try simp only [List.map_toArray, List.map_cons, List.map_nil]); first | done | rfl | (simp only [List.length_drop, List.length_take]; rfl)) ?_; (with_reducible refine (ih kj20 (by have := HK1.out; have := HJ20.out; omega) _ _ l0 x1_1 (wrap64 (a2 + 1)) t111 t112 t113 t114 t115 t116 t117 t120 _ ?side1 ?side2 A29.out).mono ?_); (case side1 => repeat (first | exact (Kd.C_below HR0.out HB.out) | (with_reducible refine Kd.C_alloc ?_ _) | (with_reducible refine Kd.C_drewN ?_ _) | (with_reducible refine Kd.C_drew ?_))); (case side2 => exact HC0.out); rintro e w45 ⟨v118, rfl, ho0, hb⟩; refine ⟨_, rfl, ?_⟩; have n0_ := Aside0.mk (Kd.R_elder' (by (with_reducible repeat (first | apply Kd.R_alloc | apply Kd.R_drewN | apply Kd.R_drew)); exact HO_107006.out) (Kd.R_base ho0) hb); have n1_ := Aside0.mk (Kd.R_lower (Kd.R_newB (Kd.R_newB (Kd.R_new' ho0 (Kd.R_lt (by (with_reducible repeat (first | apply Kd.R_alloc | apply Kd.R_drewN | apply Kd.R_drew)); exact HO_107006.out))) (g := gb104) (o := .cells #[.int .i64 x105000_1, .string x105001_1, .int .i64 x105002_1, .bool x105003_1, .bool x105004_1, .bool x105005_1, .slice none 0 0] 51 (0, 0)) (by (with_reducible repeat (first | refine blk_drewN ?_ _ | refine blk_drew ?_ | refine blk_alloc ?_ _)); exact BK104.out)) (g := gb106) (o := .cells #[.int .i64 ((rd_T49 l0 a1).f0), .string ((rd_T49 l0 a1).f1), .int .i64 ((rd_T49 l0 a1).f2), .bool ((rd_T49 l0 a1).f3), .bool ((rd_T49 l0 a1).f4), .bool ((rd_T49 l0 a1).f5), u107006] 51 (0, 0)) (by (with_reducible repeat (first | refine blk_drewN ?_ _ | refine blk_drew ?_ | refine blk_alloc ?_ _)); exact BK106.out)) (below_size (by repeat (first | (with_reducible first | exact HB.out | apply below_alloc | apply pw_below_drewN | apply below_drew1 | refine below_set ?_ GE104.out | refine below_set ?_ GE106.out) | exact HB.out)))); have n2_ := Aside0.mk (blk_below (g := gb104) (o := .cells #[.int .i64 x105000_1, .string x105001_1, .int .i64 x105002_1, .bool x105003_1, .bool x105004_1, .bool x105005_1, .slice none 0 0] 51 (0, 0)) (by (with_reducible repeat (first | refine blk_drewN ?_ _ | refine blk_drew ?_ | refine blk_alloc ?_ _)); exact BK104.out) hb); have n3_ := Aside0.mk (blk_below (g := gb106) (o := .cells #[.int .i64 ((rd_T49 l0 a1).f0), .string ((rd_T49 l0 a1).f1), .int .i64 ((rd_T49 l0 a1).f2), .bool ((rd_T49 l0 a1).f3), .bool ((rd_T49 l0 a1).f4), .bool ((rd_T49 l0 a1).f5), u107006] 51 (0, 0)) (by (with_reducible repeat (first | refine blk_drewN ?_ _ | refine blk_drew ?_ | refine blk_alloc ?_ _)); exact BK106.out) hb); have n4_ := Aside0.mk (below_step (by repeat (first | (with_reducible first | exact HB.out | apply below_alloc | apply pw_below_drewN | apply below_drew1 | refine below_set ?_ GE104.out | refine below_set ?_ GE106.out) | exact HB.out)) hb); clear HO_107006; clear BK104; clear BK106; clear HB; have HO_107006 := n0_; have HO119 := n1_; have BK104 := n2_; have BK106 := n3_; have HB := n4_; clear n0_ n1_ n2_ n3_ n4_; (try clear hb); (try clear hb2); (try clear hk); (try clear hi); (try clear ho0)) | ((with_reducible refine gate_dst (N := 10) rfl ?_); refine box_event ?hg (N := 10) ?hd (cs := #[.int .i64 0, .string (⟨#[]⟩ : ByteArray), .int .i64 0, .bool false, .bool false, .bool false, .slice none 0 0]) (t := 51) ?hr ?_; (case hd => rfl); (case hg => rfl); (case hr => first | (go_simp; done) | (go_simp; rfl)); intro gb121 hg w46 hbox hb; have n0_ := Aside0.mk (Kd.R_below (Kd.R_elderB (by (with_reducible repeat (first | apply Kd.R_alloc | apply Kd.R_drewN | apply Kd.R_drew)); exact HO_107006.out) gb121 (Nat.le_of_eq hg.symm)) hb); have n1_ := Aside0.mk (Kd.R_below (Kd.R_elderB (by (with_reducible repeat (first | apply Kd.R_alloc | apply Kd.R_drewN | apply Kd.R_drew)); exact HO119.out) gb121 (Nat.le_of_eq hg.symm)) hb); have n2_ := Aside0.mk (blk_below (g := gb104) (o := .cells #[.int .i64 x105000_1, .string x105001_1, .int .i64 x105002_1, .bool x105003_1, .bool x105004_1, .bool x105005_1, .slice none 0 0] 51 (0, 0)) (by (with_reducible repeat (first | refine blk_drewN ?_ _ | refine blk_drew ?_ | refine blk_alloc ?_ _)); exact BK104.out) hb); have n3_ := Aside0.mk (blk_below (g := gb106) (o := .cells #[.int .i64 ((rd_T49 l0 a1).f0), .string ((rd_T49 l0 a1).f1), .int .i64 ((rd_T49 l0 a1).f2), .bool ((rd_T49 l0 a1).f3), .bool ((rd_T49 l0 a1).f4), .bool ((rd_T49 l0 a1).f5), u107006] 51 (0, 0)) (by (with_reducible repeat (first | refine blk_drewN ?_ _ | refine blk_drew ?_ | refine blk_alloc ?_ _)); exact BK106.out) hb); have n4_ := Aside0.mk (below_step (by repeat (first | (with_reducible first | exact HB.out | apply below_alloc | apply pw_below_drewN | apply below_drew1 | refine below_set ?_ GE104.out | refine below_set ?_ GE106.out) | exact HB.out)) hb); have n5_ := Aside0.mk (hbox); have n6_ := Aside0.mk ((by rw [hg]; exact (below_size (by repeat (first | (with_reducible first | exact HB.out | apply below_alloc | apply pw_below_drewN | apply below_drew1 | refine below_set ?_ GE104.out | refine below_set ?_ GE106.out) | exact HB.out))) : w.heap.size ≤ gb121)); have n7_ := Aside0.mk ((by rw [hg]; exact (below_size (by repeat (first | (with_reducible first | exact HB.out | apply below_alloc | apply pw_below_drewN | apply below_drew1 | refine below_set ?_ GE104.out | refine below_set ?_ GE106.out) | exact HB.out))) : w.heap.size ≤ gb121)); have n8_ := Aside0.mk ((by rw [hg]; exact Nat.ne_of_lt (blk_lt (g := gb104) (o := .cells #[.int .i64 x105000_1, .string x105001_1, .int .i64 x105002_1, .bool x105003_1, .bool x105004_1, .bool x105005_1, .slice none 0 0] 51 (0, 0)) (by (with_reducible repeat (first | refine blk_drewN ?_ _ | refine blk_drew ?_ | refine blk_alloc ?_ _)); exact BK104.out)) : gb104 ≠ gb121)); have n9_ := Aside0.mk ((by rw [hg]; exact Nat.ne_of_gt (blk_lt (g := gb104) (o := .cells #[.int .i64 x105000_1, .string x105001_1, .int .i64 x105002_1, .bool x105003_1, .bool x105004_1, .bool x105005_1, .slice none 0 0] 51 (0, 0)) (by (with_reducible repeat (first | refine blk_drewN ?_ _ | refine blk_drew ?_ | refine blk_alloc ?_ _)); exact BK104.out)) : gb121 ≠ gb104)); have n10_ := Aside0.mk ((by rw [hg]; exact Nat.ne_of_lt (blk_lt (g := gb106) (o := .cells #[.int .i64 ((rd_T49 l0 a1).f0), .string ((rd_T49 l0 a1).f1), .int .i64 ((rd_T49 l0 a1).f2), .bool ((rd_T49 l0 a1).f3), .bool ((rd_T49 l0 a1).f4), .bool ((rd_T49 l0 a1).f5), u107006] 51 (0, 0)) (by (with_reducible repeat (first | refine blk_drewN ?_ _ | refine blk_drew ?_ | refine blk_alloc ?_ _)); exact BK106.out)) : gb106 ≠ gb121)); have n11_ := Aside0.mk ((by rw [hg]; exact Nat.ne_of_gt (blk_lt (g := gb106) (o := .cells #[.int .i64 ((rd_T49 l0 a1).f0), .string ((rd_T49 l0 a1).f1), .int .i64 ((rd_T49 l0 a1).f2), .bool ((rd_T49 l0 a1).f3), .bool ((rd_T49 l0 a1).f4), .bool ((rd_T49 l0 a1).f5), u107006] 51 (0, 0)) (by (with_reducible repeat (first | refine blk_drewN ?_ _ | refine blk_drew ?_ | refine blk_alloc ?_ _)); exact BK106.out)) : gb121 ≠ gb106)); clear HO_107006; clear HO119; clear BK104; clear BK106; clear HB; have HO_107006 := n0_; have HO119 := n1_; have BK104 := n2_; have BK106 := n3_; have HB := n4_; have BK121 := n5_; have GW121 := n6_; have GE121 := n7_; have NB104_121 := n8_; have NB121_104 := n9_; have NB106_121 := n10_; have NB121_106 := n11_; clear n0_ n1_ n2_ n3_ n4_ n5_ n6_ n7_ n8_ n9_ n10_ n11_; clear hb hbox hg; have hnb47 := NB121_104.out; have hnc47 := NB104_121.out; have hnb48 := NB121_106.out; have hnc48 := NB106_121.out; have hcz49_0 : w46.cell? ⟨gb121, 0, none⟩ = some (.int .i64 0) := (blk_cell BK121.out 0).trans rfl; have hcz49_1 : w46.cell? ⟨gb121, 1, none⟩ = some (.string (⟨#[]⟩ : ByteArray)) := (blk_cell BK121.out 1).trans rfl; have hcz49_2 : w46.cell? ⟨gb121, 2, none⟩ = some (.int .i64 0) := (blk_cell BK121.out 2).trans rfl; have hcz49_3 : w46.cell? ⟨gb121, 3, none⟩ = some (.bool false) := (blk_cell BK121.out 3).trans rfl; have hcz49_4 : w46.cell? ⟨gb121, 4, none⟩ = some (.bool false) := (blk_cell BK121.out 4).trans rfl; have hcz49_5 : w46.cell? ⟨gb121, 5, none⟩ = some (.bool false) := (blk_cell BK121.out 5).trans rfl; have hcz49_6 : w46.cell? ⟨gb121, 6, none⟩ = some (.slice none 0 0) := (blk_cell BK121.out 6).trans rfl; have hfz49_0 := blk_frozen BK121.out 0; have hfz49_1 := blk_frozen BK121.out 1; have hfz49_2 := blk_frozen BK121.out 2; have hfz49_3 := blk_frozen BK121.out 3; have hfz49_4 := blk_frozen BK121.out 4; have hfz49_5 := blk_frozen BK121.out 5; have hfz49_6 := blk_frozen BK121.out 6; obtain ⟨Ao50, co50, eo50⟩ := Kd.R_slice HO119.out; subst eo50))
                      go_roundg kj20
                      case measure => have := HK1.out; have := HJ20.out; omega
                      case rel => exact ⟨(t120), (x105000_1), (x105001_1), (x105002_1), (x105003_1), (x105004_1), (x105005_1), (x107006_1), (u107006), (by first | rfl | (simp; done) | (simp [*]; done)), H', ⟨by have := HK1.out; have := HJ20.out; omega⟩, ⟨by (with_reducible repeat (first | apply Kd.R_alloc | apply Kd.R_drewN | apply Kd.R_drew)); exact Kd.R_mono (Kd.R_far (p := ⟨gb121, 6, none⟩) (Kd.R_far (p := ⟨gb121, 5, none⟩) (Kd.R_far (p := ⟨gb121, 4, none⟩) (Kd.R_far (p := ⟨gb121, 3, none⟩) (Kd.R_far (p := ⟨gb121, 2, none⟩) (Kd.R_far (p := ⟨gb121, 1, none⟩) (Kd.R_far (p := ⟨gb121, 0, none⟩) (Kd.R_mono HO_107006.out (fun k_ hk => (⟨hk, hk.2⟩ : _ ∧ k_ ≠ gb121))) (fun _ hk => hk.2) (.int .i64 t111)) (fun _ hk => hk.2) (.string t112)) (fun _ hk => hk.2) (.int .i64 t113)) (fun _ hk => hk.2) (.bool t114)) (fun _ hk => hk.2) (.bool t115)) (fun _ hk => hk.2) (.bool t116)) (fun _ hk => hk.2) (.slice Ao50 t117.length co50)) (fun _ hk => ⟨hk.1.1.1.1, hk.1.1.1.2⟩)⟩, ⟨by (with_reducible repeat (first | refine blk_drewN ?_ _ | refine blk_drew ?_ | refine blk_alloc ?_ _)); refine blk_far ?_ NB104_121.out _; (with_reducible repeat (first | refine blk_drewN ?_ _ | refine blk_drew ?_ | refine blk_alloc ?_ _)); refine blk_far ?_ NB104_121.out _; (with_reducible repeat (first | refine blk_drewN ?_ _ | refine blk_drew ?_ | refine blk_alloc ?_ _)); refine blk_far ?_ NB104_121.out _; (with_reducible repeat (first | refine blk_drewN ?_ _ | refine blk_drew ?_ | refine blk_alloc ?_ _)); refine blk_far ?_ NB104_121.out _; (with_reducible repeat (first | refine blk_drewN ?_ _ | refine blk_drew ?_ | refine blk_alloc ?_ _)); refine blk_far ?_ NB104_121.out _; (with_reducible repeat (first | refine blk_drewN ?_ _ | refine blk_drew ?_ | refine blk_alloc ?_ _)); refine blk_far ?_ NB104_121.out _; (with_reducible repeat (first | refine blk_drewN ?_ _ | refine blk_drew ?_ | refine blk_alloc ?_ _)); refine blk_far ?_ NB104_121.out _; (with_reducible repeat (first | refine blk_drewN ?_ _ | refine blk_drew ?_ | refine blk_alloc ?_ _)); exact BK104.out⟩, ⟨by (with_reducible repeat (first | refine blk_drewN ?_ _ | refine blk_drew ?_ | refine blk_alloc ?_ _)); refine blk_far ?_ NB106_121.out _; (with_reducible repeat (first | refine blk_drewN ?_ _ | refine blk_drew ?_ | refine blk_alloc ?_ _)); refine blk_far ?_ NB106_121.out _; (with_reducible repeat (first | refine blk_drewN ?_ _ | refine blk_drew ?_ | refine blk_alloc ?_ _)); refine blk_far ?_ NB106_121.out _; (with_reducible repeat (first | refine blk_drewN ?_ _ | refine blk_drew ?_ | refine blk_alloc ?_ _)); refine blk_far ?_ NB106_121.out _; (with_reducible repeat (first | refine blk_drewN ?_ _ | refine blk_drew ?_ | refine blk_alloc ?_ _)); refine blk_far ?_ NB106_121.out _; (with_reducible repeat (first | refine blk_drewN ?_ _ | refine blk_drew ?_ | refine blk_alloc ?_ _)); refine blk_far ?_ NB106_121.out _; (with_reducible repeat (first | refine blk_drewN ?_ _ | refine blk_drew ?_ | refine blk_alloc ?_ _)); refine blk_far ?_ NB106_121.out _; (with_reducible repeat (first | refine blk_drewN ?_ _ | refine blk_drew ?_ | refine blk_alloc ?_ _)); exact BK106.out⟩, ⟨by repeat (first | (with_reducible first | exact HB.out | apply below_alloc | apply pw_below_drewN | apply below_drew1 | refine below_set ?_ GE104.out | refine below_set ?_ GE106.out | refine below_set ?_ GE121.out) | exact HB.out)⟩⟩
            · rw [if_neg c20] at H
              have c20b0 : decide (x1_1 < (l0.length : Int)) = false := decide_eq_false c20
              clear c20
              simp only [Option.some.injEq, Prod.mk.injEq] at H
              obtain ⟨rfl, rfl, rfl, rfl, rfl, rfl, rfl, rfl⟩ := H
              have hnb51 := NB106_104.out
              have hnc51 := NB104_106.out
              have hcz52_0 : wr.cell? ⟨gb106, 0, none⟩ = some (.int .i64 ((rd_T49 l0 a1).f0)) := (blk_cell BK106.out 0).trans rfl
              have hcz52_1 : wr.cell? ⟨gb106, 1, none⟩ = some (.string ((rd_T49 l0 a1).f1)) := (blk_cell BK106.out 1).trans rfl
              have hcz52_2 : wr.cell? ⟨gb106, 2, none⟩ = some (.int .i64 ((rd_T49 l0 a1).f2)) := (blk_cell BK106.out 2).trans rfl
              have hcz52_3 : wr.cell? ⟨gb106, 3, none⟩ = some (.bool ((rd_T49 l0 a1).f3)) := (blk_cell BK106.out 3).trans rfl
              have hcz52_4 : wr.cell? ⟨gb106, 4, none⟩ = some (.bool ((rd_T49 l0 a1).f4)) := (blk_cell BK106.out 4).trans rfl
              have hcz52_5 : wr.cell? ⟨gb106, 5, none⟩ = some (.bool ((rd_T49 l0 a1).f5)) := (blk_cell BK106.out 5).trans rfl
              have hcz52_6 : wr.cell? ⟨gb106, 6, none⟩ = some (u107006) := (blk_cell BK106.out 6).trans rfl
              have hfz52_0 := blk_frozen BK106.out 0
              have hfz52_1 := blk_frozen BK106.out 1
              have hfz52_2 := blk_frozen BK106.out 2
              have hfz52_3 := blk_frozen BK106.out 3
              have hfz52_4 := blk_frozen BK106.out 4
              have hfz52_5 := blk_frozen BK106.out 5
              have hfz52_6 := blk_frozen BK106.out 6
              have hcz53_0 : wr.cell? ⟨gb104, 0, none⟩ = some (.int .i64 x105000_1) := (blk_cell BK104.out 0).trans rfl
              have hcz53_1 : wr.cell? ⟨gb104, 1, none⟩ = some (.string x105001_1) := (blk_cell BK104.out 1).trans rfl
              have hcz53_2 : wr.cell? ⟨gb104, 2, none⟩ = some (.int .i64 x105002_1) := (blk_cell BK104.out 2).trans rfl
              have hcz53_3 : wr.cell? ⟨gb104, 3, none⟩ = some (.bool x105003_1) := (blk_cell BK104.out 3).trans rfl
              have hcz53_4 : wr.cell? ⟨gb104, 4, none⟩ = some (.bool x105004_1) := (blk_cell BK104.out 4).trans rfl
              have hcz53_5 : wr.cell? ⟨gb104, 5, none⟩ = some (.bool x105005_1) := (blk_cell BK104.out 5).trans rfl
              have hcz53_6 : wr.cell? ⟨gb104, 6, none⟩ = some (.slice none 0 0) := (blk_cell BK104.out 6).trans rfl
              have hfz53_0 := blk_frozen BK104.out 0
              have hfz53_1 := blk_frozen BK104.out 1
              have hfz53_2 := blk_frozen BK104.out 2
              have hfz53_3 := blk_frozen BK104.out 3
              have hfz53_4 := blk_frozen BK104.out 4
              have hfz53_5 := blk_frozen BK104.out 5
              have hfz53_6 := blk_frozen BK104.out 6
              obtain ⟨Ao54, co54, eo54⟩ := Kd.R_slice HO_107006.out
              subst eo54
              go_wp2
              refine bodyPost_ret (results_ct rfl _ _ gb104 51 #[.int .i64 ((rd_T49 l0 a1).f0), .string ((rd_T49 l0 a1).f1), .int .i64 ((rd_T49 l0 a1).f2), .bool ((rd_T49 l0 a1).f3), .bool ((rd_T49 l0 a1).f4), .bool ((rd_T49 l0 a1).f5), .slice Ao54 x107006_1.length co54] (0, 0) _ rfl (by (with_reducible repeat (first | refine blk_drewN ?_ _ | refine blk_drew ?_ | refine blk_alloc ?_ _)); refine blk_put (cs := #[.int .i64 ((rd_T49 l0 a1).f0), .string ((rd_T49 l0 a1).f1), .int .i64 ((rd_T49 l0 a1).f2), .bool ((rd_T49 l0 a1).f3), .bool ((rd_T49 l0 a1).f4), .bool ((rd_T49 l0 a1).f5), .slice none 0 0]) ?_ 6 _ rfl; (with_reducible repeat (first | refine blk_drewN ?_ _ | refine blk_drew ?_ | refine blk_alloc ?_ _)); refine blk_put (cs := #[.int .i64 ((rd_T49 l0 a1).f0), .string ((rd_T49 l0 a1).f1), .int .i64 ((rd_T49 l0 a1).f2), .bool ((rd_T49 l0 a1).f3), .bool ((rd_T49 l0 a1).f4), .bool x105005_1, .slice none 0 0]) ?_ 5 _ rfl; (with_reducible repeat (first | refine blk_drewN ?_ _ | refine blk_drew ?_ | refine blk_alloc ?_ _)); refine blk_put (cs := #[.int .i64 ((rd_T49 l0 a1).f0), .string ((rd_T49 l0 a1).f1), .int .i64 ((rd_T49 l0 a1).f2), .bool ((rd_T49 l0 a1).f3), .bool x105004_1, .bool x105005_1, .slice none 0 0]) ?_ 4 _ rfl; (with_reducible repeat (first | refine blk_drewN ?_ _ | refine blk_drew ?_ | refine blk_alloc ?_ _)); refine blk_put (cs := #[.int .i64 ((rd_T49 l0 a1).f0), .string ((rd_T49 l0 a1).f1), .int .i64 ((rd_T49 l0 a1).f2), .bool x105003_1, .bool x105004_1, .bool x105005_1, .slice none 0 0]) ?_ 3 _ rfl; (with_reducible repeat (first | refine blk_drewN ?_ _ | refine blk_drew ?_ | refine blk_alloc ?_ _)); refine blk_put (cs := #[.int .i64 ((rd_T49 l0 a1).f0), .string ((rd_T49 l0 a1).f1), .int .i64 x105002_1, .bool x105003_1, .bool x105004_1, .bool x105005_1, .slice none 0 0]) ?_ 2 _ rfl; (with_reducible repeat (first | refine blk_drewN ?_ _ | refine blk_drew ?_ | refine blk_alloc ?_ _)); refine blk_put (cs := #[.int .i64 ((rd_T49 l0 a1).f0), .string x105001_1, .int .i64 x105002_1, .bool x105003_1, .bool x105004_1, .bool x105005_1, .slice none 0 0]) ?_ 1 _ rfl; (with_reducible repeat (first | refine blk_drewN ?_ _ | refine blk_drew ?_ | refine blk_alloc ?_ _)); refine blk_put (cs := #[.int .i64 x105000_1, .string x105001_1, .int .i64 x105002_1, .bool x105003_1, .bool x105004_1, .bool x105005_1, .slice none 0 0]) ?_ 0 _ rfl; (with_reducible repeat (first | refine blk_drewN ?_ _ | refine blk_drew ?_ | refine blk_alloc ?_ _)); exact BK104.out) Tryd.underlying51 rfl (by kernel_rfl)) rfl ?_
              exact ⟨_, by first | rfl | (simp [errW_none, errW_some] <;> rfl) | (simp [*, errW_none, errW_some] <;> rfl), by (with_reducible repeat (first | apply Kd.R_alloc | apply Kd.R_drewN | apply Kd.R_drew)); exact Kd.R_mono (Kd.R_far (p := ⟨gb104, 6, none⟩) (Kd.R_far (p := ⟨gb104, 5, none⟩) (Kd.R_far (p := ⟨gb104, 4, none⟩) (Kd.R_far (p := ⟨gb104, 3, none⟩) (Kd.R_far (p := ⟨gb104, 2, none⟩) (Kd.R_far (p := ⟨gb104, 1, none⟩) (Kd.R_far (p := ⟨gb104, 0, none⟩) (Kd.R_mono HO_107006.out (fun k_ hk => (⟨hk, hk.1⟩ : _ ∧ k_ ≠ gb104))) (fun _ hk => hk.2) (.int .i64 ((rd_T49 l0 a1).f0))) (fun _ hk => hk.2) (.string ((rd_T49 l0 a1).f1))) (fun _ hk => hk.2) (.int .i64 ((rd_T49 l0 a1).f2))) (fun _ hk => hk.2) (.bool ((rd_T49 l0 a1).f3))) (fun _ hk => hk.2) (.bool ((rd_T49 l0 a1).f4))) (fun _ hk => hk.2) (.bool ((rd_T49 l0 a1).f5))) (fun _ hk => hk.2) (.slice Ao54 x107006_1.length co54)) (fun _ hk => trivial), by repeat (first | (with_reducible first | exact HB.out | apply below_alloc | apply pw_below_drewN | apply below_drew1 | refine below_set ?_ GE104.out | refine below_set ?_ GE106.out) | exact HB.out)⟩
    · rw [if_neg c5] at H
      exact absurd H (by simp)
  · rw [if_neg c4] at H
    exact absurd H (by simp)

/-! ### fleuronref1_Nodes: function 17 -/
def fleuronref1_Nodes.l0 : Nat → List (S49) → List (S51) → Int → Option ((List (S51)))
  | 0, _, _, _ => none
  | k + 1, x0, x3, x4 => if x4 < (x0.length : Int) then ((fleuronref1_node.f k x0 x4 1).bind fun bt125 => (if x3.length < 2199023255552 then (fleuronref1_Nodes.l0 k x0 (x3 ++ [(⟨(⟨bt125.1, bt125.2.1, bt125.2.2.1, bt125.2.2.2.1, bt125.2.2.2.2.1, bt125.2.2.2.2.2.1⟩ : S49), bt125.2.2.2.2.2.2.1⟩ : S51)]) bt125.2.2.2.2.2.2.2) else (none))) else (some x3)
def fleuronref1_Nodes.f (k : Nat) (l0 : List (S49)) : Option ((List (S51))) := fleuronref1_Nodes.l0 k l0 ([] : List (S51)) 0
set_option maxHeartbeats 8000000 in
set_option maxRecDepth 100000 in
theorem fleuronref1_Nodes.calls (k : Nat) (A0 : Option Addr) (c0 : Nat) (l0 : List (S49)) (r : List (S51)) (w : World) (hr0 : Kd.C k49 w A0 l0.length l0) (hc0 : l0.length ≤ c0) (h : fleuronref1_Nodes.f k l0 = some r) :
    Calls Tryd.prog 17 #[.slice A0 l0.length c0] w fun e w' => ∃ v0_ : Value, e = .returned (v0_) ∧ Kd.R k51 51 w' w.heap.size (fun _ => True) v0_ r ∧ Below w.heap.size w w' := by
  have hu51 := Tryd.underlying51
  have HR0 := Aside0.mk hr0
  have HC0 := Aside0.mk hc0
  clear hr0 hc0
  have HB := Aside0.mk (Below.refl w.heap.size w)
  have H : (fleuronref1_Nodes.l0 k l0 ([] : List (S51)) 0) = some r := h
  clear h
  have H' := Aside0.mk H
  clear H
  go_enter Tryd.func17, Tryd.ntmps17
  go_wp2
  go_loopg [3, 4] k (fun kq v3 v4 w' => ∃ (x3_1 : List (S51)) (x4_1 : Int), v4 = .int .i64 x4_1 ∧ Aside0 (fleuronref1_Nodes.l0 kq l0 x3_1 x4_1 = some r) ∧ Aside0 (kq ≤ k) ∧ Aside0 (Kd.R k51 51 w' w.heap.size (fun _ => True) v3 x3_1) ∧ Aside0 (Below w.heap.size w w'))
  case atStart => exact ⟨(([] : List (S51))), (0), (by first | rfl | (simp; done) | (simp [*]; done)), H', ⟨Nat.le_refl _⟩, ⟨by first | exact Kd.R_nil _ _ _ _ _ | exact Kd.N_nil _ _ _ _ _ | exact Kd.V_nil _ _ _ _ _ | exact Kd.Q_nil _ _ _ _ _ | exact Kd.S_nil _ _ _ _ _⟩, ⟨by repeat (first | (with_reducible first | exact HB.out | apply below_alloc | apply pw_below_drewN | apply below_drew1) | exact HB.out)⟩⟩
  case round =>
    clear H'
    try clear c1
    obtain ⟨x3_1, x4_1, rfl, HA, HK1, HO_3, HB⟩ := hrel
    cases gk with
    | zero => exact absurd HA.out (by simp [fleuronref1_Nodes.l0])
    | succ k1 =>
      have H := HA.out
      clear HA
      simp only [fleuronref1_Nodes.l0] at H
      by_cases c2 : x4_1 < (l0.length : Int)
      · rw [if_pos c2] at H
        have c2b0 : decide (x4_1 < (l0.length : Int)) = true := decide_eq_true c2
        clear c2
        replace H := Option.bind_eq_some_iff.mp H
        obtain ⟨⟨t125, t126, t127, t128, t129, t130, t131, t134⟩, A30, H⟩ := H
        replace H : (if x3_1.length < 2199023255552 then (fleuronref1_Nodes.l0 k1 l0 (x3_1 ++ [(⟨(⟨t125, t126, t127, t128, t129, t130⟩ : S49), t131⟩ : S51)]) t134) else (none)) = some r := H
        have A3 := Aside0.mk A30
        clear A30
        by_cases c4 : x3_1.length < 2199023255552
        · rw [if_pos c4] at H
          have LMc4 := Aside0.mk c4
          clear c4
          obtain ⟨y136, hy136⟩ : ∃ y_ : List (S51), y_ = (x3_1 ++ [(⟨(⟨t125, t126, t127, t128, t129, t130⟩ : S49), t131⟩ : S51)]) := ⟨_, rfl⟩
          replace H : (fleuronref1_Nodes.l0 k1 l0 y136 t134) = some r := by first | (rw [hy136]; with_reducible exact H) | (have H2_ := (Option.bind_some _ _).symm.trans H; rw [hy136]; with_reducible exact H2_) | (have H2_ := (Option.bind_some _ _).symm.trans H; with_reducible exact H2_) | with_reducible exact H | (rw [hy136]; exact H) | exact H
          have Ny136 := Aside0.mk hy136
          clear hy136
          have H' := Aside0.mk H
          clear H
          go_wp2_with (first | ((with_reducible refine gate_callee (f := 29) rfl ?_); refine goesL_ (some 14) rfl rfl Tryd.func29 (by kernel_rfl) rfl #[.slice A0 l0.length c0, .int .i64 x4_1, .int .i64 1] rfl (by (try simp only [List.map_toArray, List.map_cons, List.map_nil]); first | done | rfl | (simp only [List.length_drop, List.length_take]; rfl)) ?_; (with_reducible refine (fleuronref1_node.calls k1 _ _ l0 x4_1 1 t125 t126 t127 t128 t129 t130 t131 t134 _ ?side1 ?side2 A3.out).mono ?_); (case side1 => repeat (first | exact (Kd.C_below HR0.out HB.out) | (with_reducible refine Kd.C_alloc ?_ _) | (with_reducible refine Kd.C_drewN ?_ _) | (with_reducible refine Kd.C_drew ?_))); (case side2 => exact HC0.out); rintro e w5 ⟨v132, rfl, ho0, hb⟩; refine ⟨_, rfl, ?_⟩; have n0_ := Aside0.mk (Kd.R_elder' (by (with_reducible repeat (first | apply Kd.R_alloc | apply Kd.R_drewN | apply Kd.R_drew)); exact HO_3.out) (Kd.R_base ho0) hb); have n1_ := Aside0.mk (Kd.R_lower (Kd.R_new' ho0 (Kd.R_lt (by (with_reducible repeat (first | apply Kd.R_alloc | apply Kd.R_drewN | apply Kd.R_drew)); exact HO_3.out))) (below_size (by repeat (first | (with_reducible first | exact HB.out | apply below_alloc | apply pw_below_drewN | apply below_drew1) | exact HB.out)))); have n2_ := Aside0.mk (below_step (by repeat (first | (with_reducible first | exact HB.out | apply below_alloc | apply pw_below_drewN | apply below_drew1) | exact HB.out)) hb); clear HO_3; clear HB; have HO_3 := n0_; have HO133 := n1_; have HB := n2_; clear n0_ n1_ n2_; (try clear hb); (try clear hb2); (try clear hk); (try clear hi); (try clear ho0)) | ((with_reducible refine gate_dst (N := 5) rfl ?_); refine box_event ?hg (N := 5) ?hd (cs := #[.int .i64 0, .string (⟨#[]⟩ : ByteArray), .int .i64 0, .bool false, .bool false, .bool false, .slice none 0 0]) (t := 51) ?hr ?_; (case hd => rfl); (case hg => rfl); (case hr => first | (go_simp; done) | (go_simp; rfl)); intro gb135 hg w6 hbox hb; have n0_ := Aside0.mk (Kd.R_below (Kd.R_elderB (by (with_reducible repeat (first | apply Kd.R_alloc | apply Kd.R_drewN | apply Kd.R_drew)); exact HO_3.out) gb135 (Nat.le_of_eq hg.symm)) hb); have n1_ := Aside0.mk (Kd.R_below (Kd.R_elderB (by (with_reducible repeat (first | apply Kd.R_alloc | apply Kd.R_drewN | apply Kd.R_drew)); exact HO133.out) gb135 (Nat.le_of_eq hg.symm)) hb); have n2_ := Aside0.mk (below_step (by repeat (first | (with_reducible first | exact HB.out | apply below_alloc | apply pw_below_drewN | apply below_drew1) | exact HB.out)) hb); have n3_ := Aside0.mk (hbox); have n4_ := Aside0.mk ((by rw [hg]; exact (below_size (by repeat (first | (with_reducible first | exact HB.out | apply below_alloc | apply pw_below_drewN | apply below_drew1) | exact HB.out))) : w.heap.size ≤ gb135)); have n5_ := Aside0.mk ((by rw [hg]; exact (below_size (by repeat (first | (with_reducible first | exact HB.out | apply below_alloc | apply pw_below_drewN | apply below_drew1) | exact HB.out))) : w.heap.size ≤ gb135)); clear HO_3; clear HO133; clear HB; have HO_3 := n0_; have HO133 := n1_; have HB := n2_; have BK135 := n3_; have GW135 := n4_; have GE135 := n5_; clear n0_ n1_ n2_ n3_ n4_ n5_; clear hb hbox hg; have hcz7_0 : w6.cell? ⟨gb135, 0, none⟩ = some (.int .i64 0) := (blk_cell BK135.out 0).trans rfl; have hcz7_1 : w6.cell? ⟨gb135, 1, none⟩ = some (.string (⟨#[]⟩ : ByteArray)) := (blk_cell BK135.out 1).trans rfl; have hcz7_2 : w6.cell? ⟨gb135, 2, none⟩ = some (.int .i64 0) := (blk_cell BK135.out 2).trans rfl; have hcz7_3 : w6.cell? ⟨gb135, 3, none⟩ = some (.bool false) := (blk_cell BK135.out 3).trans rfl; have hcz7_4 : w6.cell? ⟨gb135, 4, none⟩ = some (.bool false) := (blk_cell BK135.out 4).trans rfl; have hcz7_5 : w6.cell? ⟨gb135, 5, none⟩ = some (.bool false) := (blk_cell BK135.out 5).trans rfl; have hcz7_6 : w6.cell? ⟨gb135, 6, none⟩ = some (.slice none 0 0) := (blk_cell BK135.out 6).trans rfl; have hfz7_0 := blk_frozen BK135.out 0; have hfz7_1 := blk_frozen BK135.out 1; have hfz7_2 := blk_frozen BK135.out 2; have hfz7_3 := blk_frozen BK135.out 3; have hfz7_4 := blk_frozen BK135.out 4; have hfz7_5 := blk_frozen BK135.out 5; have hfz7_6 := blk_frozen BK135.out 6; obtain ⟨Ao8, co8, eo8⟩ := Kd.R_slice HO133.out; subst eo8) | ((with_reducible refine gate_store (t := 51) (p := 5) rfl ?_); refine store_event (t := 51) (p := 5) (v := ?vo_w9) (w1 := (((((((w6.setCell ⟨gb135, 0, none⟩ (.int .i64 t125)).setCell ⟨gb135, 1, none⟩ (.string t126)).setCell ⟨gb135, 2, none⟩ (.int .i64 t127)).setCell ⟨gb135, 3, none⟩ (.bool t128)).setCell ⟨gb135, 4, none⟩ (.bool t129)).setCell ⟨gb135, 5, none⟩ (.bool t130)).setCell ⟨gb135, 6, none⟩ (.slice Ao8 t131.length co8))) ?hg ?ho ?hn ?hr ?_; (case ho => rfl); (case hg => rfl); (case hn => rfl); (case hr => first | (go_simp; done) | (go_simp; rfl)); intro w9 hw; have n0_ : Aside0 (Kd.R k51 51 w9 w.heap.size (fun k_ => some k_ ≠ (.slice Ao8 t131.length co8 : Value).ownBlock ∧ k_ ≠ gb135) u3 x3_1) := ⟨(by rw [hw]; exact (by (with_reducible repeat (first | apply Kd.R_alloc | apply Kd.R_drewN | apply Kd.R_drew)); exact Kd.R_mono (Kd.R_far (p := ⟨gb135, 6, none⟩) (Kd.R_far (p := ⟨gb135, 5, none⟩) (Kd.R_far (p := ⟨gb135, 4, none⟩) (Kd.R_far (p := ⟨gb135, 3, none⟩) (Kd.R_far (p := ⟨gb135, 2, none⟩) (Kd.R_far (p := ⟨gb135, 1, none⟩) (Kd.R_far (p := ⟨gb135, 0, none⟩) (Kd.R_mono HO_3.out (fun k_ hk => (⟨hk, hk.2⟩ : _ ∧ k_ ≠ gb135))) (fun _ hk => hk.2) (.int .i64 t125)) (fun _ hk => hk.2) (.string t126)) (fun _ hk => hk.2) (.int .i64 t127)) (fun _ hk => hk.2) (.bool t128)) (fun _ hk => hk.2) (.bool t129)) (fun _ hk => hk.2) (.bool t130)) (fun _ hk => hk.2) (.slice Ao8 t131.length co8)) (fun _ hk => ⟨hk.1.1.2, hk.1.2⟩)))⟩; have n1_ : Aside0 (Kd.R k51 51 w9 w.heap.size (fun k_ => some k_ ≠ (u3 : Value).ownBlock ∧ k_ ≠ gb135) (.slice Ao8 t131.length co8) t131) := ⟨(by rw [hw]; exact (by (with_reducible repeat (first | apply Kd.R_alloc | apply Kd.R_drewN | apply Kd.R_drew)); exact Kd.R_mono (Kd.R_far (p := ⟨gb135, 6, none⟩) (Kd.R_far (p := ⟨gb135, 5, none⟩) (Kd.R_far (p := ⟨gb135, 4, none⟩) (Kd.R_far (p := ⟨gb135, 3, none⟩) (Kd.R_far (p := ⟨gb135, 2, none⟩) (Kd.R_far (p := ⟨gb135, 1, none⟩) (Kd.R_far (p := ⟨gb135, 0, none⟩) (Kd.R_mono HO133.out (fun k_ hk => (⟨hk, hk.2⟩ : _ ∧ k_ ≠ gb135))) (fun _ hk => hk.2) (.int .i64 t125)) (fun _ hk => hk.2) (.string t126)) (fun _ hk => hk.2) (.int .i64 t127)) (fun _ hk => hk.2) (.bool t128)) (fun _ hk => hk.2) (.bool t129)) (fun _ hk => hk.2) (.bool t130)) (fun _ hk => hk.2) (.slice Ao8 t131.length co8)) (fun _ hk => ⟨hk.1.1.2, hk.1.2⟩)))⟩; have n2_ : Aside0 (w9.heap[gb135]? = some (.cells #[.int .i64 t125, .string t126, .int .i64 t127, .bool t128, .bool t129, .bool t130, .slice Ao8 t131.length co8] 51 (0, 0))) := ⟨(by rw [hw]; exact (by (with_reducible repeat (first | refine blk_drewN ?_ _ | refine blk_drew ?_ | refine blk_alloc ?_ _)); refine blk_put (cs := #[.int .i64 t125, .string t126, .int .i64 t127, .bool t128, .bool t129, .bool t130, .slice none 0 0]) ?_ 6 _ rfl; (with_reducible repeat (first | refine blk_drewN ?_ _ | refine blk_drew ?_ | refine blk_alloc ?_ _)); refine blk_put (cs := #[.int .i64 t125, .string t126, .int .i64 t127, .bool t128, .bool t129, .bool false, .slice none 0 0]) ?_ 5 _ rfl; (with_reducible repeat (first | refine blk_drewN ?_ _ | refine blk_drew ?_ | refine blk_alloc ?_ _)); refine blk_put (cs := #[.int .i64 t125, .string t126, .int .i64 t127, .bool t128, .bool false, .bool false, .slice none 0 0]) ?_ 4 _ rfl; (with_reducible repeat (first | refine blk_drewN ?_ _ | refine blk_drew ?_ | refine blk_alloc ?_ _)); refine blk_put (cs := #[.int .i64 t125, .string t126, .int .i64 t127, .bool false, .bool false, .bool false, .slice none 0 0]) ?_ 3 _ rfl; (with_reducible repeat (first | refine blk_drewN ?_ _ | refine blk_drew ?_ | refine blk_alloc ?_ _)); refine blk_put (cs := #[.int .i64 t125, .string t126, .int .i64 0, .bool false, .bool false, .bool false, .slice none 0 0]) ?_ 2 _ rfl; (with_reducible repeat (first | refine blk_drewN ?_ _ | refine blk_drew ?_ | refine blk_alloc ?_ _)); refine blk_put (cs := #[.int .i64 t125, .string (⟨#[]⟩ : ByteArray), .int .i64 0, .bool false, .bool false, .bool false, .slice none 0 0]) ?_ 1 _ rfl; (with_reducible repeat (first | refine blk_drewN ?_ _ | refine blk_drew ?_ | refine blk_alloc ?_ _)); refine blk_put (cs := #[.int .i64 0, .string (⟨#[]⟩ : ByteArray), .int .i64 0, .bool false, .bool false, .bool false, .slice none 0 0]) ?_ 0 _ rfl; (with_reducible repeat (first | refine blk_drewN ?_ _ | refine blk_drew ?_ | refine blk_alloc ?_ _)); exact BK135.out))⟩; have n3_ : Aside0 (Below w.heap.size w w9) := ⟨(by rw [hw]; exact (by repeat (first | (with_reducible first | exact HB.out | apply below_alloc | apply pw_below_drewN | apply below_drew1 | refine below_set ?_ GE135.out) | exact HB.out)))⟩; clear hw; clear HO_3; clear HO133; clear BK135; clear HB; have HO_3 := n0_; have HO133 := n1_; have BK135 := n2_; have HB := n3_; clear n0_ n1_ n2_ n3_; have hcz10_0 : w9.cell? ⟨gb135, 0, none⟩ = some (.int .i64 t125) := (blk_cell BK135.out 0).trans rfl; have hcz10_1 : w9.cell? ⟨gb135, 1, none⟩ = some (.string t126) := (blk_cell BK135.out 1).trans rfl; have hcz10_2 : w9.cell? ⟨gb135, 2, none⟩ = some (.int .i64 t127) := (blk_cell BK135.out 2).trans rfl; have hcz10_3 : w9.cell? ⟨gb135, 3, none⟩ = some (.bool t128) := (blk_cell BK135.out 3).trans rfl; have hcz10_4 : w9.cell? ⟨gb135, 4, none⟩ = some (.bool t129) := (blk_cell BK135.out 4).trans rfl; have hcz10_5 : w9.cell? ⟨gb135, 5, none⟩ = some (.bool t130) := (blk_cell BK135.out 5).trans rfl; have hcz10_6 : w9.cell? ⟨gb135, 6, none⟩ = some (.slice Ao8 t131.length co8) := (blk_cell BK135.out 6).trans rfl; have hfz10_0 := blk_frozen BK135.out 0; have hfz10_1 := blk_frozen BK135.out 1; have hfz10_2 := blk_frozen BK135.out 2; have hfz10_3 := blk_frozen BK135.out 3; have hfz10_4 := blk_frozen BK135.out 4; have hfz10_5 := blk_frozen BK135.out 5; have hfz10_6 := blk_frozen BK135.out 6) | ((with_reducible refine gate_builtin (b := .append) (xs := #[.tmp 17, .tmp 19]) rfl ?_); at_builtin; refine Kd.R_append k51 (w0 := w) w.heap.size rfl (.tmp 17) (.tmp 19) 23 51 (.agg #[(.int .i64 0), (.string ⟨#[]⟩), (.int .i64 0), (.bool false), (.bool false), (.bool false), (.slice none 0 0)]) 64 rfl Tryd.underlying23 info51 rfl (by decide) (by omega) u3 x3_1 (⟨(⟨t125, t126, t127, t128, t129, t130⟩ : S49), t131⟩ : S51) [.int .i64 t125, .string t126, .int .i64 t127, .bool t128, .bool t129, .bool t130, .slice Ao8 t131.length co8] (fun k_ => k_ ≠ gb135) (fun k_ => ((fun k_ => k_ ≠ gb135)) k_ ∧ some k_ ≠ (u3 : Value).ownBlock) rfl rfl ?aP (fun _ hk => hk) ?aF ?aO ?aB ?aS ?aL ?_; (case aP => exact k51_mkM _ _ _ (⟨(⟨t125, t126, t127, t128, t129, t130⟩ : S49), t131⟩ : S51) (Kd.R_mono (HO133.out) (fun k_ hk => ⟨hk.2, hk.1⟩))); (case aB => exact (by repeat (first | (with_reducible first | exact HB.out | apply below_alloc | apply pw_below_drewN | apply below_drew1 | refine below_set ?_ GE135.out) | exact HB.out))); (case aF => exact (fun k_ hk => Kd.freshB (g := gb135) (o := .cells #[.int .i64 t125, .string t126, .int .i64 t127, .bool t128, .bool t129, .bool t130, .slice Ao8 t131.length co8] 51 (0, 0)) (by (with_reducible repeat (first | refine blk_drewN ?_ _ | refine blk_drew ?_ | refine blk_alloc ?_ _)); exact BK135.out) k_ hk)); (case aO => exact (by (with_reducible repeat (first | apply Kd.R_alloc | apply Kd.R_drewN | apply Kd.R_drew)); exact Kd.R_mono HO_3.out (fun _ hk => hk.2))); (case aS => exact (below_size (by repeat (first | (with_reducible first | exact HB.out | apply below_alloc | apply pw_below_drewN | apply below_drew1 | refine below_set ?_ GE135.out) | exact HB.out)))); (case aL => have := LMc4.out; omega); intro v137 w11 ho hb hg hat; rw [← Ny136.out] at ho; have n0_ := Aside0.mk (blk_grown (g := gb135) (o := .cells #[.int .i64 t125, .string t126, .int .i64 t127, .bool t128, .bool t129, .bool t130, .slice Ao8 t131.length co8] 51 (0, 0)) (by (with_reducible repeat (first | refine blk_drewN ?_ _ | refine blk_drew ?_ | refine blk_alloc ?_ _)); exact BK135.out) hg (Kd.R_away HO_3.out (fun _ hk => hk.2))); have n1_ := Aside0.mk (hb); have n2_ := Aside0.mk (ho); clear BK135; clear HB; clear HO_3; clear HO133; have BK135 := n0_; have HB := n1_; have HO138 := n2_; clear n0_ n1_ n2_; clear ho hb hg hat))
          go_roundg k1
          case measure => have := HK1.out; omega
          case rel => exact ⟨(y136), (t134), (by first | rfl | (simp; done) | (simp [*]; done)), H', ⟨by have := HK1.out; omega⟩, ⟨by (with_reducible repeat (first | apply Kd.R_alloc | apply Kd.R_drewN | apply Kd.R_drew)); exact Kd.R_mono HO138.out (fun _ hk => trivial)⟩, ⟨by repeat (first | (with_reducible first | exact HB.out | apply below_alloc | apply pw_below_drewN | apply below_drew1 | refine below_set ?_ GE135.out) | exact HB.out)⟩⟩
        · rw [if_neg c4] at H
          exact absurd H (by simp)
      · rw [if_neg c2] at H
        have c2b0 : decide (x4_1 < (l0.length : Int)) = false := decide_eq_false c2
        clear c2
        obtain rfl := Option.some.inj H
        go_wp2
        go_ret
        exact ⟨_, by first | rfl | (simp [errW_none, errW_some] <;> rfl) | (simp [*, errW_none, errW_some] <;> rfl), by (with_reducible repeat (first | apply Kd.R_alloc | apply Kd.R_drewN | apply Kd.R_drew)); exact HO_3.out, by repeat (first | (with_reducible first | exact HB.out | apply below_alloc | apply pw_below_drewN | apply below_drew1) | exact HB.out)⟩

/-! ### fleuronref1_Int: function 27 -/
mutual
def fleuronref1_Int.j0 : Nat → ByteArray → Int → Bool → Option (Int)
  | 0, _, _, _ => none
  | k + 1, x0, x3, x18 => if x18 = true then (fleuronref1_Int.j1 k x0 1) else (fleuronref1_Int.j1 k x0 x3)
def fleuronref1_Int.j1 : Nat → ByteArray → Int → Option (Int)
  | 0, _, _ => none
  | k + 1, x0, x3 => if x3 = (x0.size : Int) then (some 0) else (fleuronref1_Int.l0 k x0 0 x3)
def fleuronref1_Int.l0 : Nat → ByteArray → Int → Int → Option (Int)
  | 0, _, _, _ => none
  | k + 1, x0, x4, x5 => if x5 < (x0.size : Int) then (if 0 ≤ x5 then (if (bt x0 x5) < 48 then (some 0) else (if (bt x0 x5) > 57 then (some 0) else (fleuronref1_Int.l0 k x0 (mn (wrap64 ((wrap64 (x4 * 10)) + (((bt x0 x5) - 48) % 256))) 4294967296) (wrap64 (x5 + 1))))) else (none)) else (if 0 < (x0.size : Int) then (if (bt x0 0) = 45 then (some (mx (wrap64 (-x4)) (-2147483648))) else (some (mn x4 2147483647))) else (none))
end
def fleuronref1_Int.f (k : Nat) (a0 : ByteArray) : Option (Int) := if (a0.size : Int) > 0 then (if 0 < (a0.size : Int) then (if (bt a0 0) = 43 then (fleuronref1_Int.j0 k a0 0 true) else (fleuronref1_Int.j0 k a0 0 ((bt a0 0) == 45))) else (none)) else (fleuronref1_Int.j0 k a0 0 false)
set_option maxHeartbeats 8000000 in
set_option maxRecDepth 100000 in
theorem fleuronref1_Int.calls (k : Nat) (a0 : ByteArray) (r : Int) (w : World) (h : fleuronref1_Int.f k a0 = some r) :
    Calls Tryd.prog 27 #[.string a0] w fun e w' => e = .returned (.int .i64 r) ∧ Below w.heap.size w w' := by
  have HB := Aside0.mk (Below.refl w.heap.size w)
  have H : (if (a0.size : Int) > 0 then (if 0 < (a0.size : Int) then (if (bt a0 0) = 43 then (fleuronref1_Int.j0 k a0 0 true) else (fleuronref1_Int.j0 k a0 0 ((bt a0 0) == 45))) else (none)) else (fleuronref1_Int.j0 k a0 0 false)) = some r := h
  clear h
  have HC2 := Aside0.mk H
  clear H
  go_enter Tryd.func27, Tryd.ntmps27
  go_upto_region 2 with (fail)
  go_cut [18] (fun v18 wc => ∃ (kq : Nat) (x18_1 : Bool), v18 = .bool x18_1 ∧ Aside0 (fleuronref1_Int.j0 kq a0 0 x18_1 = some r) ∧ Aside0 (kq ≤ k) ∧ Aside0 (Below w.heap.size w wc))
  case first =>
    have H := HC2.out
    clear HC2
    by_cases c3 : (a0.size : Int) > 0
    · rw [if_pos c3] at H
      have c3b0 : decide (0 < (a0.size : Int)) = true := decide_eq_true c3
      have c3b1 : decide (0 < a0.size) = true := decide_eq_true (by omega)
      clear c3
      (first | rw [c3b0] | (simp only [i64_w, i32_w]; rw [c3b0]) | skip)
      by_cases c4 : 0 < (a0.size : Int)
      · rw [if_pos c4] at H
        have c4b0 : decide (0 < (a0.size : Int)) = true := decide_eq_true c4
        have c4b1 : decide (0 < a0.size) = true := decide_eq_true (by omega)
        clear c4
        by_cases c6 : (bt a0 0) = 43
        · rw [if_pos c6] at H
          have c6b0 : ((bt a0 0) == 43) = true := beq_iff_eq.mpr c6
          have c6b1 : ((bt a0 0) != 43) = false := bne_eq_false_iff_eq.mpr c6
          clear c6
          have H' := Aside0.mk H
          clear H
          have p5 : 0 ≤ (0 : Int) := (by omega)
          have q5 : 0 < a0.size := (by have : (0 : Int) < (a0.size : Int) := of_decide_eq_true (by first | (with_reducible assumption) | assumption); omega)
          have hx5 : ∀ h : 0 < a0.size, ((a0[0]'h).toNat : Int) = bt a0 0 := bt_at a0 0
          clear p5
          have qi5 : (0 < (a0.size : Int)) = True := eq_true (of_decide_eq_true (by first | (with_reducible assumption) | assumption))
          replace q5 := eq_true q5
          go_wp2
          go_meet
          case rel => exact ⟨_, (true), (by first | rfl | (simp; done) | (simp [*]; done)), H', ⟨by first | omega | exact Nat.le_refl _⟩, ⟨by repeat (first | (with_reducible first | exact HB.out | apply below_alloc | apply pw_below_drewN | apply below_drew1) | exact HB.out)⟩⟩
        · rw [if_neg c6] at H
          have c6b0 : ((bt a0 0) == 43) = false := beq_eq_false_iff_ne.mpr c6
          have c6b1 : ((bt a0 0) != 43) = true := bne_iff_ne.mpr c6
          have H' := Aside0.mk H
          clear H
          have p5 : 0 ≤ (0 : Int) := (by omega)
          have q5 : 0 < a0.size := (by have : (0 : Int) < (a0.size : Int) := of_decide_eq_true (by first | (with_reducible assumption) | assumption); omega)
          have hx5 : ∀ h : 0 < a0.size, ((a0[0]'h).toNat : Int) = bt a0 0 := bt_at a0 0
          clear p5
          have qi5 : (0 < (a0.size : Int)) = True := eq_true (of_decide_eq_true (by first | (with_reducible assumption) | assumption))
          replace q5 := eq_true q5
          have p7 : 0 ≤ (0 : Int) := (by omega)
          have q7 : 0 < a0.size := (by have : (0 : Int) < (a0.size : Int) := of_decide_eq_true (by first | (with_reducible assumption) | assumption); omega)
          have hx7 : ∀ h : 0 < a0.size, ((a0[0]'h).toNat : Int) = bt a0 0 := bt_at a0 0
          clear p7
          have qi7 : (0 < (a0.size : Int)) = True := eq_true (of_decide_eq_true (by first | (with_reducible assumption) | assumption))
          replace q7 := eq_true q7
          go_wp2
          go_meet
          case rel => exact ⟨_, (((bt a0 0) == 45)), (by first | rfl | (simp; done) | (simp [*]; done)), H', ⟨by first | omega | exact Nat.le_refl _⟩, ⟨by repeat (first | (with_reducible first | exact HB.out | apply below_alloc | apply pw_below_drewN | apply below_drew1) | exact HB.out)⟩⟩
      · rw [if_neg c4] at H
        exact absurd H (by simp)
    · rw [if_neg c3] at H
      have c3b0 : decide (0 < (a0.size : Int)) = false := decide_eq_false c3
      have c3b1 : decide (0 < a0.size) = false := decide_eq_false (by omega)
      clear c3
      (first | rw [c3b0] | (simp only [i64_w, i32_w]; rw [c3b0]) | skip)
      have H' := Aside0.mk H
      clear H
      go_wp2
      go_meet
      case rel => exact ⟨_, (false), (by first | rfl | (simp; done) | (simp [*]; done)), H', ⟨by first | omega | exact Nat.le_refl _⟩, ⟨by repeat (first | (with_reducible first | exact HB.out | apply below_alloc | apply pw_below_drewN | apply below_drew1) | exact HB.out)⟩⟩
  case rest =>
    clear HC2
    try clear c2
    try clear p2
    try clear c3
    try clear c3b0
    try clear c3b1
    try clear c4
    try clear c4b0
    try clear c4b1
    try clear p5
    try clear q5
    try clear hx5
    try clear qi5
    try clear c6
    try clear c6b0
    try clear c6b1
    try clear p7
    try clear q7
    try clear hx7
    try clear qi7
    try clear p5
    try clear p7
    try clear q5
    try clear q7
    obtain ⟨kq, x18_1, rfl, HA, HJ1, HB⟩ := hcut
    cases kq with
    | zero => exact absurd HA.out (by simp [fleuronref1_Int.j0])
    | succ kj1 =>
      have H := HA.out
      clear HA
      simp only [fleuronref1_Int.j0] at H
      have HC8 := Aside0.mk H
      clear H
      go_upto_if 18 with (fail)
      go_cut [3] (fun v3 wc => ∃ (kq : Nat) (x3_7 : Int), v3 = .int .i64 x3_7 ∧ Aside0 (fleuronref1_Int.j1 kq a0 x3_7 = some r) ∧ Aside0 (kq ≤ kj1) ∧ Aside0 (Below w.heap.size w wc))
      case first =>
        have H := HC8.out
        clear HC8
        by_cases c9 : x18_1 = true
        · subst c9
          have H1 : (fleuronref1_Int.j1 kj1 a0 1) = some r := by rw [if_pos rfl] at H; exact H
          clear H
          have H := H1
          clear H1
          have H' := Aside0.mk H
          clear H
          go_wp2
          go_meet
          case rel => exact ⟨_, (1), (by first | rfl | (simp; done) | (simp [*]; done)), H', ⟨by have := HJ1.out; first | omega | exact Nat.le_refl _⟩, ⟨by repeat (first | (with_reducible first | exact HB.out | apply below_alloc | apply pw_below_drewN | apply below_drew1) | exact HB.out)⟩⟩
        · replace c9 := Bool.eq_false_iff.mpr c9
          subst c9
          have H1 : (fleuronref1_Int.j1 kj1 a0 0) = some r := by rw [if_neg (show ¬ (false = true) by decide)] at H; exact H
          clear H
          have H := H1
          clear H1
          have H' := Aside0.mk H
          clear H
          go_wp2
          go_meet
          case rel => exact ⟨_, (0), (by first | rfl | (simp; done) | (simp [*]; done)), H', ⟨by have := HJ1.out; first | omega | exact Nat.le_refl _⟩, ⟨by repeat (first | (with_reducible first | exact HB.out | apply below_alloc | apply pw_below_drewN | apply below_drew1) | exact HB.out)⟩⟩
      case rest =>
        clear HC8
        try clear c2
        try clear p2
        try clear c3
        try clear c3b0
        try clear c3b1
        try clear c4
        try clear c4b0
        try clear c4b1
        try clear p5
        try clear q5
        try clear hx5
        try clear qi5
        try clear c6
        try clear c6b0
        try clear c6b1
        try clear p7
        try clear q7
        try clear hx7
        try clear qi7
        try clear c9
        try clear p2
        try clear p5
        try clear p7
        try clear q5
        try clear q7
        obtain ⟨kq, x3_7, rfl, HA, HJ7, HB⟩ := hcut
        cases kq with
        | zero => exact absurd HA.out (by simp [fleuronref1_Int.j1])
        | succ kj7 =>
          have H := HA.out
          clear HA
          simp only [fleuronref1_Int.j1] at H
          by_cases c10 : x3_7 = (a0.size : Int)
          · rw [if_pos c10] at H
            have c10b0 : (x3_7 == (a0.size : Int)) = true := beq_iff_eq.mpr c10
            have c10b1 : (x3_7 != (a0.size : Int)) = false := bne_eq_false_iff_eq.mpr c10
            clear c10
            obtain rfl := Option.some.inj H
            go_wp2
            go_ret
            exact ⟨by first | rfl | (simp [errW_none, errW_some] <;> rfl) | (simp [*, errW_none, errW_some] <;> rfl), by repeat (first | (with_reducible first | exact HB.out | apply below_alloc | apply pw_below_drewN | apply below_drew1) | exact HB.out)⟩
          · rw [if_neg c10] at H
            have c10b0 : (x3_7 == (a0.size : Int)) = false := beq_eq_false_iff_ne.mpr c10
            have c10b1 : (x3_7 != (a0.size : Int)) = true := bne_iff_ne.mpr c10
            have H' := Aside0.mk H
            clear H
            go_wp2
            go_loopg [4, 5] kj7 (fun kq v4 v5 w' => ∃ (x4_3 : Int) (x5_3 : Int), v4 = .int .i64 x4_3 ∧ v5 = .int .i64 x5_3 ∧ Aside0 (fleuronref1_Int.l0 kq a0 x4_3 x5_3 = some r) ∧ Aside0 (kq ≤ kj7) ∧ Aside0 (Below w.heap.size w w'))
            case atStart => exact ⟨(0), (x3_7), (by first | rfl | (simp; done) | (simp [*]; done)), (by first | rfl | (simp; done) | (simp [*]; done)), H', ⟨Nat.le_refl _⟩, ⟨by repeat (first | (with_reducible first | exact HB.out | apply below_alloc | apply pw_below_drewN | apply below_drew1) | exact HB.out)⟩⟩
            case round =>
              clear H'
              try clear c1
              try clear c2
              try clear p2
              try clear c3
              try clear c3b0
              try clear c3b1
              try clear c4
              try clear c4b0
              try clear c4b1
              try clear p5
              try clear q5
              try clear hx5
              try clear qi5
              try clear c6
              try clear c6b0
              try clear c6b1
              try clear p7
              try clear q7
              try clear hx7
              try clear qi7
              try clear c9
              try clear c10
              try clear c10b0
              try clear c10b1
              try clear p2
              try clear p5
              try clear p7
              try clear q5
              try clear q7
              obtain ⟨x4_3, x5_3, rfl, rfl, HA, HK3, HB⟩ := hrel
              cases gk with
              | zero => exact absurd HA.out (by simp [fleuronref1_Int.l0])
              | succ k3 =>
                have H := HA.out
                clear HA
                simp only [fleuronref1_Int.l0] at H
                by_cases c11 : x5_3 < (a0.size : Int)
                · rw [if_pos c11] at H
                  have c11b0 : decide (x5_3 < (a0.size : Int)) = true := decide_eq_true c11
                  clear c11
                  by_cases c12 : 0 ≤ x5_3
                  · rw [if_pos c12] at H
                    have c12b0 : decide (0 ≤ x5_3) = true := decide_eq_true c12
                    clear c12
                    by_cases c14 : (bt a0 x5_3) < 48
                    · rw [if_pos c14] at H
                      have c14b0 : decide ((bt a0 x5_3) < 48) = true := decide_eq_true c14
                      clear c14
                      obtain rfl := Option.some.inj H
                      have p13 : 0 ≤ (x5_3 : Int) := of_decide_eq_true (by first | (with_reducible assumption) | assumption)
                      have q13 : x5_3 < (a0.size : Int) := of_decide_eq_true (by first | (with_reducible assumption) | assumption)
                      have hx13 := bt_at a0 x5_3
                      replace p13 := eq_true p13
                      replace q13 := eq_true q13
                      go_wp2
                      go_ret
                      exact ⟨by first | rfl | (simp [errW_none, errW_some] <;> rfl) | (simp [*, errW_none, errW_some] <;> rfl), by repeat (first | (with_reducible first | exact HB.out | apply below_alloc | apply pw_below_drewN | apply below_drew1) | exact HB.out)⟩
                    · rw [if_neg c14] at H
                      have c14b0 : decide ((bt a0 x5_3) < 48) = false := decide_eq_false c14
                      clear c14
                      by_cases c16 : (bt a0 x5_3) > 57
                      · rw [if_pos c16] at H
                        have c16b0 : decide (57 < (bt a0 x5_3)) = true := decide_eq_true c16
                        clear c16
                        obtain rfl := Option.some.inj H
                        have p13 : 0 ≤ (x5_3 : Int) := of_decide_eq_true (by first | (with_reducible assumption) | assumption)
                        have q13 : x5_3 < (a0.size : Int) := of_decide_eq_true (by first | (with_reducible assumption) | assumption)
                        have hx13 := bt_at a0 x5_3
                        replace p13 := eq_true p13
                        replace q13 := eq_true q13
                        have p15 : 0 ≤ (x5_3 : Int) := of_decide_eq_true (by first | (with_reducible assumption) | assumption)
                        have q15 : x5_3 < (a0.size : Int) := of_decide_eq_true (by first | (with_reducible assumption) | assumption)
                        have hx15 := bt_at a0 x5_3
                        replace p15 := eq_true p15
                        replace q15 := eq_true q15
                        go_wp2
                        go_ret
                        exact ⟨by first | rfl | (simp [errW_none, errW_some] <;> rfl) | (simp [*, errW_none, errW_some] <;> rfl), by repeat (first | (with_reducible first | exact HB.out | apply below_alloc | apply pw_below_drewN | apply below_drew1) | exact HB.out)⟩
                      · rw [if_neg c16] at H
                        have c16b0 : decide (57 < (bt a0 x5_3)) = false := decide_eq_false c16
                        clear c16
                        obtain ⟨ji18, hji18⟩ : ∃ j_ : Int, (mn (wrap64 ((wrap64 (x4_3 * 10)) + (((bt a0 x5_3) - 48) % 256))) 4294967296) = j_ := ⟨_, rfl⟩
                        replace H : (fleuronref1_Int.l0 k3 a0 ji18 (wrap64 (x5_3 + 1))) = some r := by first | (rw [hji18] at H; exact H) | (simp only [hji18] at H ⊢; exact H)
                        have hji18_ : (if 4294967296 < (wrap64 ((wrap64 (x4_3 * 10)) + (((bt a0 x5_3) - 48) % 256))) then 4294967296 else (wrap64 ((wrap64 (x4_3 * 10)) + (((bt a0 x5_3) - 48) % 256)))) = ji18 := hji18
                        have H' := Aside0.mk H
                        clear H
                        have p13 : 0 ≤ (x5_3 : Int) := of_decide_eq_true (by first | (with_reducible assumption) | assumption)
                        have q13 : x5_3 < (a0.size : Int) := of_decide_eq_true (by first | (with_reducible assumption) | assumption)
                        have hx13 := bt_at a0 x5_3
                        replace p13 := eq_true p13
                        replace q13 := eq_true q13
                        have p15 : 0 ≤ (x5_3 : Int) := of_decide_eq_true (by first | (with_reducible assumption) | assumption)
                        have q15 : x5_3 < (a0.size : Int) := of_decide_eq_true (by first | (with_reducible assumption) | assumption)
                        have hx15 := bt_at a0 x5_3
                        replace p15 := eq_true p15
                        replace q15 := eq_true q15
                        have p17 : 0 ≤ (x5_3 : Int) := of_decide_eq_true (by first | (with_reducible assumption) | assumption)
                        have q17 : x5_3 < (a0.size : Int) := of_decide_eq_true (by first | (with_reducible assumption) | assumption)
                        have hx17 := bt_at a0 x5_3
                        replace p17 := eq_true p17
                        replace q17 := eq_true q17
                        go_wp2
                        go_roundg k3
                        case measure => have := HJ1.out; have := HJ7.out; have := HK3.out; omega
                        case rel => exact ⟨(ji18), (wrap64 (x5_3 + 1)), (by first | rfl | (simp; done) | (simp only [← hji18] <;> (first | rfl | simp)) | (simp [*]; done)), (by first | rfl | (simp; done) | (simp [*]; done)), H', ⟨by have := HJ1.out; have := HJ7.out; have := HK3.out; omega⟩, ⟨by repeat (first | (with_reducible first | exact HB.out | apply below_alloc | apply pw_below_drewN | apply below_drew1) | exact HB.out)⟩⟩
                  · rw [if_neg c12] at H
                    exact absurd H (by simp)
                · rw [if_neg c11] at H
                  have c11b0 : decide (x5_3 < (a0.size : Int)) = false := decide_eq_false c11
                  clear c11
                  by_cases c19 : 0 < (a0.size : Int)
                  · rw [if_pos c19] at H
                    have c19b0 : decide (0 < (a0.size : Int)) = true := decide_eq_true c19
                    have c19b1 : decide (0 < a0.size) = true := decide_eq_true (by omega)
                    clear c19
                    by_cases c21 : (bt a0 0) = 45
                    · rw [if_pos c21] at H
                      have c21b0 : ((bt a0 0) == 45) = true := beq_iff_eq.mpr c21
                      have c21b1 : ((bt a0 0) != 45) = false := bne_eq_false_iff_eq.mpr c21
                      clear c21
                      obtain ⟨ji22, hji22⟩ : ∃ j_ : Int, (mx (wrap64 (-x4_3)) (-2147483648)) = j_ := ⟨_, rfl⟩
                      replace H : (some ji22) = some r := by first | (rw [hji22] at H; exact H) | (simp only [hji22] at H ⊢; exact H)
                      have hji22_ : (if (wrap64 (-x4_3)) < (-2147483648) then (-2147483648) else (wrap64 (-x4_3))) = ji22 := hji22
                      obtain rfl := Option.some.inj H
                      have p20 : 0 ≤ (0 : Int) := (by omega)
                      have q20 : 0 < a0.size := (by have : (0 : Int) < (a0.size : Int) := of_decide_eq_true (by first | (with_reducible assumption) | assumption); omega)
                      have hx20 : ∀ h : 0 < a0.size, ((a0[0]'h).toNat : Int) = bt a0 0 := bt_at a0 0
                      clear p20
                      have qi20 : (0 < (a0.size : Int)) = True := eq_true (of_decide_eq_true (by first | (with_reducible assumption) | assumption))
                      replace q20 := eq_true q20
                      go_wp2
                      go_ret
                      exact ⟨by first | rfl | (simp [errW_none, errW_some] <;> rfl) | (simp only [← hji22]; first | rfl | (simp [errW_none, errW_some] <;> rfl)) | (simp [*, errW_none, errW_some] <;> rfl), by repeat (first | (with_reducible first | exact HB.out | apply below_alloc | apply pw_below_drewN | apply below_drew1) | exact HB.out)⟩
                    · rw [if_neg c21] at H
                      have c21b0 : ((bt a0 0) == 45) = false := beq_eq_false_iff_ne.mpr c21
                      have c21b1 : ((bt a0 0) != 45) = true := bne_iff_ne.mpr c21
                      obtain ⟨ji23, hji23⟩ : ∃ j_ : Int, (mn x4_3 2147483647) = j_ := ⟨_, rfl⟩
                      replace H : (some ji23) = some r := by first | (rw [hji23] at H; exact H) | (simp only [hji23] at H ⊢; exact H)
                      have hji23_ : (if 2147483647 < x4_3 then 2147483647 else x4_3) = ji23 := hji23
                      obtain rfl := Option.some.inj H
                      have p20 : 0 ≤ (0 : Int) := (by omega)
                      have q20 : 0 < a0.size := (by have : (0 : Int) < (a0.size : Int) := of_decide_eq_true (by first | (with_reducible assumption) | assumption); omega)
                      have hx20 : ∀ h : 0 < a0.size, ((a0[0]'h).toNat : Int) = bt a0 0 := bt_at a0 0
                      clear p20
                      have qi20 : (0 < (a0.size : Int)) = True := eq_true (of_decide_eq_true (by first | (with_reducible assumption) | assumption))
                      replace q20 := eq_true q20
                      go_wp2
                      go_ret
                      exact ⟨by first | rfl | (simp [errW_none, errW_some] <;> rfl) | (simp only [← hji23]; first | rfl | (simp [errW_none, errW_some] <;> rfl)) | (simp [*, errW_none, errW_some] <;> rfl), by repeat (first | (with_reducible first | exact HB.out | apply below_alloc | apply pw_below_drewN | apply below_drew1) | exact HB.out)⟩
                  · rw [if_neg c19] at H
                    exact absurd H (by simp)

/-! ### anb_Match: function 11 -/
def anb_Match.j0 : Nat → Int → Int → Int → Bool → Option (Bool)
  | 0, _, _, _, _ => none
  | k + 1, x0, x1, x2, x9 => if x9 = true then (some (x2 == x1)) else (if ((decide (x2 > x1)) != (decide (x0 > 0))) = true then (some false) else (if x0 < 0 then (if x2 < x1 then (if (IntKind.u64.wrap (-(IntKind.u64.wrap (x0)))) = 0 then (none) else (some ((Int.tmod (IntKind.u64.wrap (-(IntKind.u64.wrap ((IntKind.u64.wrap (x2)) - (IntKind.u64.wrap (x1)))))) (IntKind.u64.wrap (-(IntKind.u64.wrap (x0))))) == 0))) else (if (IntKind.u64.wrap (-(IntKind.u64.wrap (x0)))) = 0 then (none) else (some ((Int.tmod (IntKind.u64.wrap ((IntKind.u64.wrap (x2)) - (IntKind.u64.wrap (x1)))) (IntKind.u64.wrap (-(IntKind.u64.wrap (x0))))) == 0)))) else (if x2 < x1 then (if (IntKind.u64.wrap (x0)) = 0 then (none) else (some ((Int.tmod (IntKind.u64.wrap (-(IntKind.u64.wrap ((IntKind.u64.wrap (x2)) - (IntKind.u64.wrap (x1)))))) (IntKind.u64.wrap (x0))) == 0))) else (if (IntKind.u64.wrap (x0)) = 0 then (none) else (some ((Int.tmod (IntKind.u64.wrap ((IntKind.u64.wrap (x2)) - (IntKind.u64.wrap (x1)))) (IntKind.u64.wrap (x0))) == 0))))))
def anb_Match.f (k : Nat) (a0 : Int) (a1 : Int) (a2 : Int) : Option (Bool) := if a0 = 0 then (anb_Match.j0 k a0 a1 a2 true) else (anb_Match.j0 k a0 a1 a2 (a2 == a1))
set_option maxHeartbeats 8000000 in
set_option maxRecDepth 100000 in
theorem anb_Match.calls (k : Nat) (a0 : Int) (a1 : Int) (a2 : Int) (r : Bool) (w : World) (h : anb_Match.f k a0 a1 a2 = some r) :
    Calls Tryd.prog 11 #[.int .i64 a0, .int .i64 a1, .int .i64 a2] w fun e w' => e = .returned (.bool r) ∧ Drawn0 w w' := by
  have H : (if a0 = 0 then (anb_Match.j0 k a0 a1 a2 true) else (anb_Match.j0 k a0 a1 a2 (a2 == a1))) = some r := h
  clear h
  have HC4 := Aside0.mk H
  clear H
  go_enter Tryd.func11, Tryd.ntmps11
  go_upto_region 1 with (fail)
  go_cut [9] (fun v9 wc => ∃ (kq : Nat) (x9_3 : Bool), v9 = .bool x9_3 ∧ Aside0 (anb_Match.j0 kq a0 a1 a2 x9_3 = some r) ∧ Aside0 (kq ≤ k) ∧ Drawn0 w wc)
  case first =>
    have H := HC4.out
    clear HC4
    by_cases c5 : a0 = 0
    · rw [if_pos c5] at H
      have c5b0 : (a0 == 0) = true := beq_iff_eq.mpr c5
      have c5b1 : (a0 != 0) = false := bne_eq_false_iff_eq.mpr c5
      clear c5
      (first | rw [c5b0] | (simp only [i64_w, i32_w]; rw [c5b0]) | skip)
      have H' := Aside0.mk H
      clear H
      go_wp2
      go_meet
      case rel => exact ⟨_, (true), (by first | rfl | (simp; done) | (simp [*]; done)), H', ⟨by first | omega | exact Nat.le_refl _⟩, by repeat (first | exact Drawn0.refl _ | apply Drawn0.step)⟩
    · rw [if_neg c5] at H
      have c5b0 : (a0 == 0) = false := beq_eq_false_iff_ne.mpr c5
      have c5b1 : (a0 != 0) = true := bne_iff_ne.mpr c5
      (first | rw [c5b0] | (simp only [i64_w, i32_w]; rw [c5b0]) | skip)
      have H' := Aside0.mk H
      clear H
      go_wp2
      go_meet
      case rel => exact ⟨_, ((a2 == a1)), (by first | rfl | (simp; done) | (simp [*]; done)), H', ⟨by first | omega | exact Nat.le_refl _⟩, by repeat (first | exact Drawn0.refl _ | apply Drawn0.step)⟩
  case rest =>
    clear HC4
    try clear c1
    try clear p2
    try clear c5
    try clear c5b0
    try clear c5b1
    obtain ⟨kq, x9_3, rfl, HA, HJ3, ⟨mc3, rfl⟩⟩ := hcut
    cases kq with
    | zero => exact absurd HA.out (by simp [anb_Match.j0])
    | succ kj3 =>
      have H := HA.out
      clear HA
      simp only [anb_Match.j0] at H
      by_cases c6 : x9_3 = true
      · subst c6
        have H1 : (some (a2 == a1)) = some r := by rw [if_pos rfl] at H; exact H
        clear H
        have H := H1
        clear H1
        obtain rfl := Option.some.inj H
        go_wp2
        go_ret
        exact ⟨by first | rfl | (simp; done) | (simp [*]; done), by repeat (first | exact Drawn0.refl _ | apply Drawn0.step)⟩
      · replace c6 := Bool.eq_false_iff.mpr c6
        subst c6
        have H1 : (if ((decide (a2 > a1)) != (decide (a0 > 0))) = true then (some false) else (if a0 < 0 then (if a2 < a1 then (if (IntKind.u64.wrap (-(IntKind.u64.wrap (a0)))) = 0 then (none) else (some ((Int.tmod (IntKind.u64.wrap (-(IntKind.u64.wrap ((IntKind.u64.wrap (a2)) - (IntKind.u64.wrap (a1)))))) (IntKind.u64.wrap (-(IntKind.u64.wrap (a0))))) == 0))) else (if (IntKind.u64.wrap (-(IntKind.u64.wrap (a0)))) = 0 then (none) else (some ((Int.tmod (IntKind.u64.wrap ((IntKind.u64.wrap (a2)) - (IntKind.u64.wrap (a1)))) (IntKind.u64.wrap (-(IntKind.u64.wrap (a0))))) == 0)))) else (if a2 < a1 then (if (IntKind.u64.wrap (a0)) = 0 then (none) else (some ((Int.tmod (IntKind.u64.wrap (-(IntKind.u64.wrap ((IntKind.u64.wrap (a2)) - (IntKind.u64.wrap (a1)))))) (IntKind.u64.wrap (a0))) == 0))) else (if (IntKind.u64.wrap (a0)) = 0 then (none) else (some ((Int.tmod (IntKind.u64.wrap ((IntKind.u64.wrap (a2)) - (IntKind.u64.wrap (a1)))) (IntKind.u64.wrap (a0))) == 0)))))) = some r := by rw [if_neg (show ¬ (false = true) by decide)] at H; exact H
        clear H
        have H := H1
        clear H1
        by_cases c7 : ((decide (a2 > a1)) != (decide (a0 > 0))) = true
        · rw [if_pos c7] at H
          have c7b0 : ((decide (a2 > a1)) != (decide (a0 > 0))) = true := c7
          (try (have c7b1 : decide ((decide (a2 > a1)) = (decide (a0 > 0))) = false := by simpa using c7))
          (try (have c7b2 : ((decide (a2 > a1)) == (decide (a0 > 0))) = false := by simpa using c7))
          (try (have c7b3 : ¬ ((decide (a2 > a1)) = (decide (a0 > 0))) := by simpa using c7))
          clear c7
          obtain rfl := Option.some.inj H
          go_wp2
          go_ret
          exact ⟨by first | rfl | (simp; done) | (simp [*]; done), by repeat (first | exact Drawn0.refl _ | apply Drawn0.step)⟩
        · rw [if_neg c7] at H
          have c7b0 : ((decide (a2 > a1)) != (decide (a0 > 0))) = false := by simpa using c7
          (try (have c7b1 : decide ((decide (a2 > a1)) = (decide (a0 > 0))) = true := by simpa using c7))
          (try (have c7b2 : ((decide (a2 > a1)) == (decide (a0 > 0))) = true := by simpa using c7))
          clear c7
          by_cases c8 : a0 < 0
          · rw [if_pos c8] at H
            have c8b0 : decide (a0 < 0) = true := decide_eq_true c8
            clear c8
            by_cases c9 : a2 < a1
            · rw [if_pos c9] at H
              have c9b0 : decide (a2 < a1) = true := decide_eq_true c9
              clear c9
              by_cases c10 : (IntKind.u64.wrap (-(IntKind.u64.wrap (a0)))) = 0
              · rw [if_pos c10] at H
                exact absurd H (by simp)
              · rw [if_neg c10] at H
                have c10b0 : ((IntKind.u64.wrap (-(IntKind.u64.wrap (a0)))) == 0) = false := beq_eq_false_iff_ne.mpr c10
                have c10b1 : ((IntKind.u64.wrap (-(IntKind.u64.wrap (a0)))) != 0) = true := bne_iff_ne.mpr c10
                obtain rfl := Option.some.inj H
                go_wp2
                go_ret
                exact ⟨by first | rfl | (simp; done) | (simp [*]; done), by repeat (first | exact Drawn0.refl _ | apply Drawn0.step)⟩
            · rw [if_neg c9] at H
              have c9b0 : decide (a2 < a1) = false := decide_eq_false c9
              clear c9
              by_cases c11 : (IntKind.u64.wrap (-(IntKind.u64.wrap (a0)))) = 0
              · rw [if_pos c11] at H
                exact absurd H (by simp)
              · rw [if_neg c11] at H
                have c11b0 : ((IntKind.u64.wrap (-(IntKind.u64.wrap (a0)))) == 0) = false := beq_eq_false_iff_ne.mpr c11
                have c11b1 : ((IntKind.u64.wrap (-(IntKind.u64.wrap (a0)))) != 0) = true := bne_iff_ne.mpr c11
                obtain rfl := Option.some.inj H
                go_wp2
                go_ret
                exact ⟨by first | rfl | (simp; done) | (simp [*]; done), by repeat (first | exact Drawn0.refl _ | apply Drawn0.step)⟩
          · rw [if_neg c8] at H
            have c8b0 : decide (a0 < 0) = false := decide_eq_false c8
            clear c8
            by_cases c12 : a2 < a1
            · rw [if_pos c12] at H
              have c12b0 : decide (a2 < a1) = true := decide_eq_true c12
              clear c12
              by_cases c13 : (IntKind.u64.wrap (a0)) = 0
              · rw [if_pos c13] at H
                exact absurd H (by simp)
              · rw [if_neg c13] at H
                have c13b0 : ((IntKind.u64.wrap (a0)) == 0) = false := beq_eq_false_iff_ne.mpr c13
                have c13b1 : ((IntKind.u64.wrap (a0)) != 0) = true := bne_iff_ne.mpr c13
                obtain rfl := Option.some.inj H
                go_wp2
                go_ret
                exact ⟨by first | rfl | (simp; done) | (simp [*]; done), by repeat (first | exact Drawn0.refl _ | apply Drawn0.step)⟩
            · rw [if_neg c12] at H
              have c12b0 : decide (a2 < a1) = false := decide_eq_false c12
              clear c12
              by_cases c14 : (IntKind.u64.wrap (a0)) = 0
              · rw [if_pos c14] at H
                exact absurd H (by simp)
              · rw [if_neg c14] at H
                have c14b0 : ((IntKind.u64.wrap (a0)) == 0) = false := beq_eq_false_iff_ne.mpr c14
                have c14b1 : ((IntKind.u64.wrap (a0)) != 0) = true := bne_iff_ne.mpr c14
                obtain rfl := Option.some.inj H
                go_wp2
                go_ret
                exact ⟨by first | rfl | (simp; done) | (simp [*]; done), by repeat (first | exact Drawn0.refl _ | apply Drawn0.step)⟩

/-! ### stringslite_HasPrefix: function 59 -/
def stringslite_HasPrefix.f (a0 : ByteArray) (a1 : ByteArray) : Option (Bool) := if (a0.size : Int) ≥ (a1.size : Int) then (if 0 ≤ (a1.size : Int) then (if (a1.size : Int) ≤ (a0.size : Int) then (some ((a0.extract 0 ((a1.size : Int) : Int).toNat).toList == a1.toList)) else (none)) else (none)) else (some false)
set_option maxHeartbeats 8000000 in
set_option maxRecDepth 100000 in
theorem stringslite_HasPrefix.calls (a0 : ByteArray) (a1 : ByteArray) (r : Bool) (w : World) (h : stringslite_HasPrefix.f a0 a1 = some r) :
    Calls Tryd.prog 59 #[.string a0, .string a1] w fun e w' => e = .returned (.bool r) ∧ Drawn0 w w' := by
  have H : (if (a0.size : Int) ≥ (a1.size : Int) then (if 0 ≤ (a1.size : Int) then (if (a1.size : Int) ≤ (a0.size : Int) then (some ((a0.extract 0 ((a1.size : Int) : Int).toNat).toList == a1.toList)) else (none)) else (none)) else (some false)) = some r := h
  clear h
  by_cases c3 : (a0.size : Int) ≥ (a1.size : Int)
  · rw [if_pos c3] at H
    have c3b0 : decide ((a1.size : Int) ≤ (a0.size : Int)) = true := decide_eq_true c3
    have c3b1 : decide (a1.size ≤ a0.size) = true := decide_eq_true (Int.ofNat_le.mp c3)
    clear c3
    by_cases c4 : 0 ≤ (a1.size : Int)
    · rw [if_pos c4] at H
      have c4b0 := eq_true c4
      have c4b1 : decide (0 ≤ (a1.size : Int)) = true := decide_eq_true c4
      clear c4
      by_cases c5 : (a1.size : Int) ≤ (a0.size : Int)
      · rw [if_pos c5] at H
        have c5b0 := eq_true c5
        have c5b1 : decide ((a1.size : Int) ≤ (a0.size : Int)) = true := decide_eq_true c5
        clear c5
        obtain rfl := Option.some.inj H
        go_enter Tryd.func59, Tryd.ntmps59
        go_wp2
        go_ret
        exact ⟨by first | rfl | (simp; done) | (simp [*]; done), by repeat (first | exact Drawn0.refl _ | apply Drawn0.step)⟩
      · rw [if_neg c5] at H
        exact absurd H (by simp)
    · rw [if_neg c4] at H
      exact absurd H (by simp)
  · rw [if_neg c3] at H
    have c3b0 : decide ((a1.size : Int) ≤ (a0.size : Int)) = false := decide_eq_false c3
    have c3b1 : decide (a1.size ≤ a0.size) = false := decide_eq_false (fun h => c3 (Int.ofNat_le.mpr h))
    clear c3
    obtain rfl := Option.some.inj H
    go_enter Tryd.func59, Tryd.ntmps59
    go_wp2
    go_ret
    exact ⟨by first | rfl | (simp; done) | (simp [*]; done), by repeat (first | exact Drawn0.refl _ | apply Drawn0.step)⟩

/-! ### strings_HasPrefix: function 36 -/
def strings_HasPrefix.f (a0 : ByteArray) (a1 : ByteArray) : Option (Bool) := (stringslite_HasPrefix.f a0 a1).bind fun t161 => (some t161)
set_option maxHeartbeats 8000000 in
set_option maxRecDepth 100000 in
theorem strings_HasPrefix.calls (a0 : ByteArray) (a1 : ByteArray) (r : Bool) (w : World) (h : strings_HasPrefix.f a0 a1 = some r) :
    Calls Tryd.prog 36 #[.string a0, .string a1] w fun e w' => e = .returned (.bool r) ∧ Drawn0 w w' := by
  have H : ((stringslite_HasPrefix.f a0 a1).bind fun t161 => (some t161)) = some r := h
  clear h
  replace H := Option.bind_eq_some_iff.mp H
  obtain ⟨t161, A30, H⟩ := H
  replace H : (some t161) = some r := H
  have A3 := Aside0.mk A30
  clear A30
  obtain rfl := Option.some.inj H
  go_enter Tryd.func36, Tryd.ntmps36
  go_wp2_with (first | ((with_reducible refine gate_callee (f := 59) rfl ?_); refine goesL_ (some 7) rfl rfl Tryd.func59 (by kernel_rfl) rfl #[.string a0, .string a1] rfl (by (try simp only [List.map_toArray, List.map_cons, List.map_nil]); first | done | rfl | (simp only [List.length_drop, List.length_take]; rfl)) ?_; (with_reducible refine (stringslite_HasPrefix.calls a0 a1 t161 _ A3.out).mono ?_); rintro e w' ⟨rfl, ⟨nd, rfl⟩⟩; refine ⟨_, rfl, ?_⟩))
  go_ret
  exact ⟨by first | rfl | (simp; done) | (simp [*]; done), by repeat (first | exact Drawn0.refl _ | apply Drawn0.step)⟩

/-! ### nest_White: function 32 -/
def nest_White.f (a0_0 : Int) (a0_1 : ByteArray) (a0_2 : Int) (a0_3 : Bool) (a0_4 : Bool) (a0_5 : Bool) (l0_6 : List (S51)) : Option (Bool) := some (a0_0 == 13)
set_option maxHeartbeats 8000000 in
set_option maxRecDepth 100000 in
theorem nest_White.calls (a0_0 : Int) (a0_1 : ByteArray) (a0_2 : Int) (a0_3 : Bool) (a0_4 : Bool) (a0_5 : Bool) (A0_6 : Option Addr) (c0_6 : Nat) (l0_6 : List (S51)) (r : Bool) (w : World) (hr0_6 : Kd.C k51 w A0_6 l0_6.length l0_6) (hc0_6 : l0_6.length ≤ c0_6) (h : nest_White.f a0_0 a0_1 a0_2 a0_3 a0_4 a0_5 l0_6 = some r) :
    Calls Tryd.prog 32 #[.agg #[.int .i64 a0_0, .string a0_1, .int .i64 a0_2, .bool a0_3, .bool a0_4, .bool a0_5, .slice A0_6 l0_6.length c0_6]] w fun e w' => e = .returned (.bool r) ∧ Below w.heap.size w w' := by
  have hu51 := Tryd.underlying51
  have HR0_6 := Aside0.mk hr0_6
  have HC0_6 := Aside0.mk hc0_6
  clear hr0_6 hc0_6
  have HB := Aside0.mk (Below.refl w.heap.size w)
  have H : (some (a0_0 == 13)) = some r := h
  clear h
  obtain rfl := Option.some.inj H
  go_enter Tryd.func32, Tryd.ntmps32
  go_wp2_with (first | ((with_reducible refine gate_dst (N := 1) rfl ?_); refine box_event ?hg (N := 1) ?hd (cs := #[.int .i64 a0_0, .string a0_1, .int .i64 a0_2, .bool a0_3, .bool a0_4, .bool a0_5, .slice A0_6 l0_6.length c0_6]) (t := 51) ?hr ?_; (case hd => rfl); (case hg => rfl); (case hr => first | (go_simp; done) | (go_simp; rfl)); intro gb162 hg w2 hbox hb; have n0_ := Aside0.mk (below_step (by repeat (first | (with_reducible first | exact HB.out | apply below_alloc | apply pw_below_drewN | apply below_drew1) | exact HB.out)) hb); have n1_ := Aside0.mk (hbox); have n2_ := Aside0.mk ((by rw [hg]; exact (below_size (by repeat (first | (with_reducible first | exact HB.out | apply below_alloc | apply pw_below_drewN | apply below_drew1) | exact HB.out))) : w.heap.size ≤ gb162)); have n3_ := Aside0.mk ((by rw [hg]; exact (below_size (by repeat (first | (with_reducible first | exact HB.out | apply below_alloc | apply pw_below_drewN | apply below_drew1) | exact HB.out))) : w.heap.size ≤ gb162)); clear HB; have HB := n0_; have BK162 := n1_; have GW162 := n2_; have GE162 := n3_; clear n0_ n1_ n2_ n3_; clear hb hbox hg; have hcz3_0 : w2.cell? ⟨gb162, 0, none⟩ = some (.int .i64 a0_0) := (blk_cell BK162.out 0).trans rfl; have hcz3_1 : w2.cell? ⟨gb162, 1, none⟩ = some (.string a0_1) := (blk_cell BK162.out 1).trans rfl; have hcz3_2 : w2.cell? ⟨gb162, 2, none⟩ = some (.int .i64 a0_2) := (blk_cell BK162.out 2).trans rfl; have hcz3_3 : w2.cell? ⟨gb162, 3, none⟩ = some (.bool a0_3) := (blk_cell BK162.out 3).trans rfl; have hcz3_4 : w2.cell? ⟨gb162, 4, none⟩ = some (.bool a0_4) := (blk_cell BK162.out 4).trans rfl; have hcz3_5 : w2.cell? ⟨gb162, 5, none⟩ = some (.bool a0_5) := (blk_cell BK162.out 5).trans rfl; have hcz3_6 : w2.cell? ⟨gb162, 6, none⟩ = some (.slice A0_6 l0_6.length c0_6) := (blk_cell BK162.out 6).trans rfl; have hfz3_0 := blk_frozen BK162.out 0; have hfz3_1 := blk_frozen BK162.out 1; have hfz3_2 := blk_frozen BK162.out 2; have hfz3_3 := blk_frozen BK162.out 3; have hfz3_4 := blk_frozen BK162.out 4; have hfz3_5 := blk_frozen BK162.out 5; have hfz3_6 := blk_frozen BK162.out 6))
  go_ret
  exact ⟨by first | rfl | (simp [errW_none, errW_some] <;> rfl) | (simp [*, errW_none, errW_some] <;> rfl), by repeat (first | (with_reducible first | exact HB.out | apply below_alloc | apply pw_below_drewN | apply below_drew1 | refine below_set ?_ GE162.out) | exact HB.out)⟩

/-! ### points_Digit: function 68 -/
def points_Digit.f (a0 : Int) : Option (Bool) := if a0 ≥ 48 then (some (decide (a0 ≤ 57))) else (some false)
set_option maxHeartbeats 8000000 in
set_option maxRecDepth 100000 in
theorem points_Digit.calls (a0 : Int) (r : Bool) (w : World) (h : points_Digit.f a0 = some r) :
    Calls Tryd.prog 68 #[.int .i32 a0] w fun e w' => e = .returned (.bool r) ∧ Drawn0 w w' := by
  have H : (if a0 ≥ 48 then (some (decide (a0 ≤ 57))) else (some false)) = some r := h
  clear h
  by_cases c2 : a0 ≥ 48
  · rw [if_pos c2] at H
    have c2b0 : decide (48 ≤ a0) = true := decide_eq_true c2
    clear c2
    obtain rfl := Option.some.inj H
    go_enter Tryd.func68, Tryd.ntmps68
    go_wp2
    go_ret
    exact ⟨by first | rfl | (simp; done) | (simp [*]; done), by repeat (first | exact Drawn0.refl _ | apply Drawn0.step)⟩
  · rw [if_neg c2] at H
    have c2b0 : decide (48 ≤ a0) = false := decide_eq_false c2
    clear c2
    obtain rfl := Option.some.inj H
    go_enter Tryd.func68, Tryd.ntmps68
    go_wp2
    go_ret
    exact ⟨by first | rfl | (simp; done) | (simp [*]; done), by repeat (first | exact Drawn0.refl _ | apply Drawn0.step)⟩

end Go.Proofs.YtgdolholioccdaaDoor.PX
