/-
  Contracts of the functions that the law reaches, and what they compute, on lists (part X). No condition.
-/
import Derived.Test.YtgdolholioccdaaDoorMG
import Derived.Test.YtgdolholioccdaaDoorWApart
import Derived.Test.YtgdolholioccdaaDoorWLast
import Derived.Test.YtgdolholioccdaaDoorWMore
import Derived.Test.YtgdolholioccdaaDoorWN
import Derived.Test.YtgdolholioccdaaDoorWNEv
import Derived.Test.YtgdolholioccdaaDoorWRepsOne
import Derived.Test.YtgdolholioccdaaDoorWShare
import Derived.Test.YtgdolholioccdaaDoorWWords
namespace Go.Proofs.YtgdolholioccdaaDoor.PX
open Go.RowKit Go.Proofs.YtgdolholioccdaaDoorW.PrintWords Go.Proofs.YtgdolholioccdaaDoorW.PrintLast Go.Proofs.YtgdolholioccdaaDoorW.PrintMore
attribute [local go_sem] max2_int min2_int max_two min_two max_three min_three max_four min_four   -- for this text's walks alone
set_option linter.unusedVariables false
set_option linter.unusedSimpArgs false
/-! ### fleuronref1_Decimal: function 15 -/
mutual
def fleuronref1_Decimal.j0 : Nat → Int → ByteArray → Option (ByteArray)
  | 0, _, _ => none
  | k + 1, x3, x4 => fleuronref1_Decimal.l0 k x3 x4 (⟨#[]⟩ : ByteArray)
def fleuronref1_Decimal.l0 : Nat → Int → ByteArray → ByteArray → Option (ByteArray)
  | 0, _, _, _ => none
  | k + 1, x3, x4, x5 => if x3 > 0 then ((some (([(IntKind.u64.wrap (48 + (Int.tmod x3 10))) % 256] : List Int) : List Int)).bind fun y151 => (if (strOfNums y151).size + x5.size ≤ 9223372036854775807 then (fleuronref1_Decimal.l0 k (IntKind.u64.wrap (Int.tdiv x3 10)) x4 ((strOfNums y151) ++ x5)) else (none))) else (if x5.toList = ([] : List UInt8) then ((some (([(IntKind.u64.wrap (48 + (Int.tmod x3 10))) % 256] : List Int) : List Int)).bind fun y154 => (if (strOfNums y154).size + x5.size ≤ 9223372036854775807 then (fleuronref1_Decimal.l0 k (IntKind.u64.wrap (Int.tdiv x3 10)) x4 ((strOfNums y154) ++ x5)) else (none))) else (if x4.size + x5.size ≤ 9223372036854775807 then (some (x4 ++ x5)) else (none)))
end
def fleuronref1_Decimal.f (k : Nat) (a0 : Int) : Option (ByteArray) := if a0 < 0 then (fleuronref1_Decimal.j0 k (IntKind.u64.wrap (-(IntKind.u64.wrap (a0)))) (⟨#[45]⟩ : ByteArray)) else (fleuronref1_Decimal.j0 k (IntKind.u64.wrap (a0)) (⟨#[]⟩ : ByteArray))
set_option maxHeartbeats 8000000 in
set_option maxRecDepth 100000 in
theorem fleuronref1_Decimal.calls (k : Nat) (a0 : Int) (r : ByteArray) (w : World) (h : fleuronref1_Decimal.f k a0 = some r) :
    Calls Tryd.prog 15 #[.int .i64 a0] w fun e w' => e = .returned (.string r) ∧ Below w.heap.size w w' := by
  have HB := Aside0.mk (Below.refl w.heap.size w)
  have H : (if a0 < 0 then (fleuronref1_Decimal.j0 k (IntKind.u64.wrap (-(IntKind.u64.wrap (a0)))) (⟨#[45]⟩ : ByteArray)) else (fleuronref1_Decimal.j0 k (IntKind.u64.wrap (a0)) (⟨#[]⟩ : ByteArray))) = some r := h
  clear h
  have HC2 := Aside0.mk H
  clear H
  go_enter Tryd.func15, Tryd.ntmps15
  go_upto_if 9 with (fail)
  go_cut [3, 4] (fun v3 v4 wc => ∃ (kq : Nat) (x3_1 : Int) (x4_1 : ByteArray), v3 = .int .u64 x3_1 ∧ v4 = .string x4_1 ∧ Aside0 (fleuronref1_Decimal.j0 kq x3_1 x4_1 = some r) ∧ Aside0 (kq ≤ k) ∧ Aside0 (Below w.heap.size w wc))
  case first =>
    have H := HC2.out
    clear HC2
    by_cases c3 : a0 < 0
    · rw [if_pos c3] at H
      have c3b0 : decide (a0 < 0) = true := decide_eq_true c3
      clear c3
      (first | rw [c3b0] | (simp only [i64_w, i32_w]; rw [c3b0]) | skip)
      have H' := Aside0.mk H
      clear H
      go_wp2
      go_meet
      case rel => exact ⟨_, (IntKind.u64.wrap (-(IntKind.u64.wrap (a0)))), ((⟨#[45]⟩ : ByteArray)), (by first | rfl | (simp; done) | (simp [*]; done)), (by first | rfl | (simp; done) | (simp [*]; done)), H', ⟨by first | omega | exact Nat.le_refl _⟩, ⟨by repeat (first | (with_reducible first | exact HB.out | apply below_alloc | apply pw_below_drewN | apply below_drew1) | exact HB.out)⟩⟩
    · rw [if_neg c3] at H
      have c3b0 : decide (a0 < 0) = false := decide_eq_false c3
      clear c3
      (first | rw [c3b0] | (simp only [i64_w, i32_w]; rw [c3b0]) | skip)
      have H' := Aside0.mk H
      clear H
      go_wp2
      go_meet
      case rel => exact ⟨_, (IntKind.u64.wrap (a0)), ((⟨#[]⟩ : ByteArray)), (by first | rfl | (simp; done) | (simp [*]; done)), (by first | rfl | (simp; done) | (simp [*]; done)), H', ⟨by first | omega | exact Nat.le_refl _⟩, ⟨by repeat (first | (with_reducible first | exact HB.out | apply below_alloc | apply pw_below_drewN | apply below_drew1) | exact HB.out)⟩⟩
  case rest =>
    clear HC2
    try clear c1
    try clear p2
    try clear c3
    try clear c3b0
    obtain ⟨kq, x3_1, x4_1, rfl, rfl, HA, HJ1, HB⟩ := hcut
    cases kq with
    | zero => exact absurd HA.out (by simp [fleuronref1_Decimal.j0])
    | succ kj1 =>
      have H := HA.out
      clear HA
      simp only [fleuronref1_Decimal.j0] at H
      have H' := Aside0.mk H
      clear H
      go_wp2
      go_loopg [3, 5] kj1 (fun kq v3 v5 w' => ∃ (x3_2 : Int) (x5_2 : ByteArray), v3 = .int .u64 x3_2 ∧ v5 = .string x5_2 ∧ Aside0 (fleuronref1_Decimal.l0 kq x3_2 x4_1 x5_2 = some r) ∧ Aside0 (kq ≤ kj1) ∧ Aside0 (Below w.heap.size w w'))
      case atStart => exact ⟨(x3_1), ((⟨#[]⟩ : ByteArray)), (by first | rfl | (simp; done) | (simp [*]; done)), (by first | rfl | (simp; done) | (simp [*]; done)), H', ⟨Nat.le_refl _⟩, ⟨by repeat (first | (with_reducible first | exact HB.out | apply below_alloc | apply pw_below_drewN | apply below_drew1) | exact HB.out)⟩⟩
      case round =>
        clear H'
        try clear c1
        try clear p2
        try clear c3
        try clear c3b0
        try clear p2
        obtain ⟨x3_2, x5_2, rfl, rfl, HA, HK2, HB⟩ := hrel
        cases gk with
        | zero => exact absurd HA.out (by simp [fleuronref1_Decimal.l0])
        | succ k2 =>
          have H := HA.out
          clear HA
          simp only [fleuronref1_Decimal.l0] at H
          by_cases c4 : x3_2 > 0
          · rw [if_pos c4] at H
            have c4b0 : decide (0 < x3_2) = true := decide_eq_true c4
            clear c4
            obtain ⟨y151, hy151⟩ : ∃ y_ : List Int, y_ = (([(IntKind.u64.wrap (48 + (Int.tmod x3_2 10))) % 256] : List Int)) := ⟨_, rfl⟩
            replace H : (if (strOfNums y151).size + x5_2.size ≤ 9223372036854775807 then (fleuronref1_Decimal.l0 k2 (IntKind.u64.wrap (Int.tdiv x3_2 10)) x4_1 ((strOfNums y151) ++ x5_2)) else (none)) = some r := by first | (rw [hy151]; with_reducible exact H) | (have H2_ := (Option.bind_some _ _).symm.trans H; rw [hy151]; with_reducible exact H2_) | (have H2_ := (Option.bind_some _ _).symm.trans H; with_reducible exact H2_) | with_reducible exact H | (rw [hy151]; exact H) | exact H
            have Ny151 := Aside0.mk hy151
            clear hy151
            by_cases c5 : (strOfNums y151).size + x5_2.size ≤ 9223372036854775807
            · rw [if_pos c5] at H
              have c5b0 := eq_true c5
              have c5b1 : decide ((strOfNums y151).size + x5_2.size ≤ 9223372036854775807) = true := decide_eq_true c5
              try have c5b2 : (9223372036854775807 < (strOfNums y151).size + x5_2.size) = False := eq_false (Nat.not_lt.2 c5)
              have H' := Aside0.mk H
              clear H
              go_wp2_with (first | ((with_reducible refine gate_dst (N := 22) rfl ?_); refine Kd.R_lit (Kd.int .u8) _ 5 ?hg (N := 22) ?hd (xs := ([(IntKind.u64.wrap (48 + (Int.tmod x3_2 10))) % 256] : List Int)) (inner := [.int .u8 ((IntKind.u64.wrap (48 + (Int.tmod x3_2 10))) % 256)]) (ok := fun _ => True) (okp := fun _ => True) ?hr ?hp (fun _ hk => hk) trivial (Below.refl _ _) (Nat.le_refl _) (by simp) ?_; (case hd => rfl); (case hg => rfl); (case hr => first | (go_simp; done) | (go_simp; rfl)); (case hp => exact (Reps.one (show Kd.M (Kd.int .u8) _ _ _ ((IntKind.u64.wrap (48 + (Int.tmod x3_2 10))) % 256) [.int .u8 ((IntKind.u64.wrap (48 + (Int.tmod x3_2 10))) % 256)] from rfl) (Reps.none _ _))); intro v152 w6 ho7 hb hg_ hnew_; clear hg_ hnew_; (first | rw [← Ny151.out] at ho7 | (simp only [Int.reduceToNat] at ho7; rw [← Ny151.out] at ho7)); have n0_ := Aside0.mk (Kd.R_lower ho7 (below_size (by repeat (first | (with_reducible first | exact HB.out | apply below_alloc | apply pw_below_drewN | apply below_drew1) | exact HB.out)))); have n1_ := Aside0.mk (below_step (by repeat (first | (with_reducible first | exact HB.out | apply below_alloc | apply pw_below_drewN | apply below_drew1) | exact HB.out)) hb); clear HB; have HO153 := n0_; have HB := n1_; clear n0_ n1_; clear hb ho7; have hcv8 := own_string (P := Tryd.prog) Tryd.underlying43 Tryd.underlying5 Tryd.underlying9 (Kd.own_of_R HO153.out)))
              go_roundg k2
              case measure => have := HJ1.out; have := HK2.out; omega
              case rel => exact ⟨(IntKind.u64.wrap (Int.tdiv x3_2 10)), ((strOfNums y151) ++ x5_2), (by first | rfl | (simp; done) | (simp [*]; done)), (by first | rfl | (simp; done) | (simp [*]; done)), H', ⟨by have := HJ1.out; have := HK2.out; omega⟩, ⟨by repeat (first | (with_reducible first | exact HB.out | apply below_alloc | apply pw_below_drewN | apply below_drew1) | exact HB.out)⟩⟩
            · rw [if_neg c5] at H
              exact absurd H (by simp)
          · rw [if_neg c4] at H
            have c4b0 : decide (0 < x3_2) = false := decide_eq_false c4
            clear c4
            by_cases c9 : x5_2.toList = ([] : List UInt8)
            · rw [if_pos c9] at H
              have c9b0 : (x5_2.toList == ([] : List UInt8)) = true := beq_iff_eq.mpr c9
              have c9b1 : (x5_2.toList != ([] : List UInt8)) = false := bne_eq_false_iff_eq.mpr c9
              clear c9
              obtain ⟨y154, hy154⟩ : ∃ y_ : List Int, y_ = (([(IntKind.u64.wrap (48 + (Int.tmod x3_2 10))) % 256] : List Int)) := ⟨_, rfl⟩
              replace H : (if (strOfNums y154).size + x5_2.size ≤ 9223372036854775807 then (fleuronref1_Decimal.l0 k2 (IntKind.u64.wrap (Int.tdiv x3_2 10)) x4_1 ((strOfNums y154) ++ x5_2)) else (none)) = some r := by first | (rw [hy154]; with_reducible exact H) | (have H2_ := (Option.bind_some _ _).symm.trans H; rw [hy154]; with_reducible exact H2_) | (have H2_ := (Option.bind_some _ _).symm.trans H; with_reducible exact H2_) | with_reducible exact H | (rw [hy154]; exact H) | exact H
              have Ny154 := Aside0.mk hy154
              clear hy154
              by_cases c10 : (strOfNums y154).size + x5_2.size ≤ 9223372036854775807
              · rw [if_pos c10] at H
                have c10b0 := eq_true c10
                have c10b1 : decide ((strOfNums y154).size + x5_2.size ≤ 9223372036854775807) = true := decide_eq_true c10
                try have c10b2 : (9223372036854775807 < (strOfNums y154).size + x5_2.size) = False := eq_false (Nat.not_lt.2 c10)
                have H' := Aside0.mk H
                clear H
                go_wp2_with (first | ((with_reducible refine gate_dst (N := 22) rfl ?_); refine Kd.R_lit (Kd.int .u8) _ 5 ?hg (N := 22) ?hd (xs := ([(IntKind.u64.wrap (48 + (Int.tmod x3_2 10))) % 256] : List Int)) (inner := [.int .u8 ((IntKind.u64.wrap (48 + (Int.tmod x3_2 10))) % 256)]) (ok := fun _ => True) (okp := fun _ => True) ?hr ?hp (fun _ hk => hk) trivial (Below.refl _ _) (Nat.le_refl _) (by simp) ?_; (case hd => rfl); (case hg => rfl); (case hr => first | (go_simp; done) | (go_simp; rfl)); (case hp => exact (Reps.one (show Kd.M (Kd.int .u8) _ _ _ ((IntKind.u64.wrap (48 + (Int.tmod x3_2 10))) % 256) [.int .u8 ((IntKind.u64.wrap (48 + (Int.tmod x3_2 10))) % 256)] from rfl) (Reps.none _ _))); intro v155 w11 ho12 hb hg_ hnew_; clear hg_ hnew_; (first | rw [← Ny154.out] at ho12 | (simp only [Int.reduceToNat] at ho12; rw [← Ny154.out] at ho12)); have n0_ := Aside0.mk (Kd.R_lower ho12 (below_size (by repeat (first | (with_reducible first | exact HB.out | apply below_alloc | apply pw_below_drewN | apply below_drew1) | exact HB.out)))); have n1_ := Aside0.mk (below_step (by repeat (first | (with_reducible first | exact HB.out | apply below_alloc | apply pw_below_drewN | apply below_drew1) | exact HB.out)) hb); clear HB; have HO156 := n0_; have HB := n1_; clear n0_ n1_; clear hb ho12; have hcv13 := own_string (P := Tryd.prog) Tryd.underlying43 Tryd.underlying5 Tryd.underlying9 (Kd.own_of_R HO156.out)))
                go_roundg k2
                case measure => have := HJ1.out; have := HK2.out; omega
                case rel => exact ⟨(IntKind.u64.wrap (Int.tdiv x3_2 10)), ((strOfNums y154) ++ x5_2), (by first | rfl | (simp; done) | (simp [*]; done)), (by first | rfl | (simp; done) | (simp [*]; done)), H', ⟨by have := HJ1.out; have := HK2.out; omega⟩, ⟨by repeat (first | (with_reducible first | exact HB.out | apply below_alloc | apply pw_below_drewN | apply below_drew1) | exact HB.out)⟩⟩
              · rw [if_neg c10] at H
                exact absurd H (by simp)
            · rw [if_neg c9] at H
              have c9b0 : (x5_2.toList == ([] : List UInt8)) = false := beq_eq_false_iff_ne.mpr c9
              have c9b1 : (x5_2.toList != ([] : List UInt8)) = true := bne_iff_ne.mpr c9
              by_cases c14 : x4_1.size + x5_2.size ≤ 9223372036854775807
              · rw [if_pos c14] at H
                have c14b0 := eq_true c14
                have c14b1 : decide (x4_1.size + x5_2.size ≤ 9223372036854775807) = true := decide_eq_true c14
                try have c14b2 : (9223372036854775807 < x4_1.size + x5_2.size) = False := eq_false (Nat.not_lt.2 c14)
                obtain rfl := Option.some.inj H
                go_wp2
                go_ret
                exact ⟨by first | rfl | (simp [errW_none, errW_some] <;> rfl) | (simp [*, errW_none, errW_some] <;> rfl), by repeat (first | (with_reducible first | exact HB.out | apply below_alloc | apply pw_below_drewN | apply below_drew1) | exact HB.out)⟩
              · rw [if_neg c14] at H
                exact absurd H (by simp)

/-! ### fleuronalike_Round: function 16 -/
def fleuronalike_Round.f (a0 : Int) (a1 : Int) : Option (Int) := if a1 = 0 then (none) else (some (Int.tmod (wrap64 ((Int.tmod a0 a1) + a1)) a1))
set_option maxHeartbeats 8000000 in
set_option maxRecDepth 100000 in
theorem fleuronalike_Round.calls (a0 : Int) (a1 : Int) (r : Int) (w : World) (h : fleuronalike_Round.f a0 a1 = some r) :
    Calls Tryd.prog 16 #[.int .i64 a0, .int .i64 a1] w fun e w' => e = .returned (.int .i64 r) ∧ Drawn0 w w' := by
  have H : (if a1 = 0 then (none) else (some (Int.tmod (wrap64 ((Int.tmod a0 a1) + a1)) a1))) = some r := h
  clear h
  by_cases c3 : a1 = 0
  · rw [if_pos c3] at H
    exact absurd H (by simp)
  · rw [if_neg c3] at H
    have c3b0 : (a1 == 0) = false := beq_eq_false_iff_ne.mpr c3
    have c3b1 : (a1 != 0) = true := bne_iff_ne.mpr c3
    obtain rfl := Option.some.inj H
    go_enter Tryd.func16, Tryd.ntmps16
    go_wp2
    go_ret
    exact ⟨by first | rfl | (simp; done) | (simp [*]; done), by repeat (first | exact Drawn0.refl _ | apply Drawn0.step)⟩

end Go.Proofs.YtgdolholioccdaaDoor.PX
