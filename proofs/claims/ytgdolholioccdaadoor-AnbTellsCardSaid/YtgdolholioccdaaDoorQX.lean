/-
  Contracts of the functions that the law reaches, and what they compute, on lists (part X). No condition.
-/
import Derived.Test.YtgdolholioccdaaDoorMG
import Derived.Test.YtgdolholioccdaaDoorWApart
import Derived.Test.YtgdolholioccdaaDoorWLast
import Derived.Test.YtgdolholioccdaaDoorWMore
import Derived.Test.YtgdolholioccdaaDoorWN
import Derived.Test.YtgdolholioccdaaDoorWNEv
import Derived.Test.YtgdolholioccdaaDoorWRepsOne
import Derived.Test.YtgdolholioccdaaDoorWShare
import Derived.Test.YtgdolholioccdaaDoorWWords
namespace Go.Proofs.YtgdolholioccdaaDoor.PX
open Go.RowKit Go.Proofs.YtgdolholioccdaaDoorW.PrintWords Go.Proofs.YtgdolholioccdaaDoorW.PrintLast Go.Proofs.YtgdolholioccdaaDoorW.PrintMore
attribute [local go_sem] max2_int min2_int max_two min_two max_three min_three max_four min_four   -- for this text's walks alone
set_option linter.unusedVariables false
set_option linter.unusedSimpArgs false
/-! ### fleuronref1_Trim: function 24 -/
mutual
def fleuronref1_Trim.j1 : Nat → List (S51) → Option ((List (S51)))
  | 0, _ => none
  | k + 1, x0 => fleuronref1_Trim.l1 k x0
def fleuronref1_Trim.l1 : Nat → List (S51) → Option ((List (S51)))
  | 0, _ => none
  | k + 1, x0 => if (x0.length : Int) > 0 then (if 0 ≤ (wrap64 ((x0.length : Int) - 1)) then (if (wrap64 ((x0.length : Int) - 1)) < (x0.length : Int) then (if ((rd_T51 x0 (wrap64 ((x0.length : Int) - 1))).f0.f0) = 13 then (if (wrap64 ((x0.length : Int) - 1)) ≤ (x0.length : Int) then (fleuronref1_Trim.l1 k (x0.take ((wrap64 ((x0.length : Int) - 1)) : Int).toNat)) else (none)) else (some x0)) else (none)) else (none)) else (some x0)
def fleuronref1_Trim.l0 : Nat → List (S51) → Option ((List (S51)))
  | 0, _ => none
  | k + 1, x0 => if (x0.length : Int) > 0 then (if 0 < (x0.length : Int) then (if ((rd_T51 x0 0).f0.f0) = 13 then (if 1 ≤ (x0.length : Int) then (fleuronref1_Trim.l0 k (x0.drop 1)) else (none)) else (fleuronref1_Trim.j1 k x0)) else (none)) else (fleuronref1_Trim.j1 k x0)
end
def fleuronref1_Trim.f (k : Nat) (l0 : List (S51)) : Option ((List (S51))) := fleuronref1_Trim.l0 k l0
set_option maxHeartbeats 8000000 in
set_option maxRecDepth 100000 in
theorem fleuronref1_Trim.calls (k : Nat) (P0_ : Nat → Prop) (A0 : Option Addr) (c0 : Nat) (l0 : List (S51)) (r : List (S51)) (w : World) (hs0 : Kd.V k51 51 w w.heap.size (fun k_ => P0_ k_) (.slice A0 l0.length c0) l0) (h : fleuronref1_Trim.f k l0 = some r) :
    Calls Tryd.prog 24 #[.slice A0 l0.length c0] w fun e w' => ∃ v0_ : Value, e = .returned (v0_) ∧ Kd.V k51 51 w' w.heap.size (fun k_ => (P0_ k_ ∨ w.heap.size ≤ k_)) v0_ r ∧ Below w.heap.size w w' := by
  have HO0 := Aside0.mk (show Kd.V k51 51 w w.heap.size (fun k_ => (P0_ k_ ∨ w.heap.size ≤ k_)) (.slice A0 l0.length c0) l0 from Kd.V_mono hs0 (fun k_ hk => .inl hk))
  have HB := Aside0.mk (Below.refl w.heap.size w)
  have H : (fleuronref1_Trim.l0 k l0) = some r := h
  clear h
  have HC2 := Aside0.mk H
  clear H
  go_enter Tryd.func24, Tryd.ntmps24
  go_upto_block 0 with (fail)
  go_cut [0] (fun v0 wc => ∃ (kq : Nat) (x0_1 : List (S51)), Aside0 (fleuronref1_Trim.j1 kq x0_1 = some r) ∧ Aside0 (kq ≤ k) ∧ Aside0 (Kd.V k51 51 wc w.heap.size (fun k_ => (P0_ k_ ∨ w.heap.size ≤ k_)) v0 x0_1) ∧ Aside0 (Below w.heap.size w wc))
  case first =>
    have H := HC2.out
    clear HC2
    have H' := Aside0.mk H
    clear H
    go_wp2
    go_loopg [0] k (fun kq v0 w' => ∃ (x0_1 : List (S51)), Aside0 (fleuronref1_Trim.l0 kq x0_1 = some r) ∧ Aside0 (kq ≤ k) ∧ Aside0 (Kd.V k51 51 w' w.heap.size (fun k_ => (P0_ k_ ∨ w.heap.size ≤ k_)) v0 x0_1) ∧ Aside0 (Below w.heap.size w w'))
    case atStart => exact ⟨(l0), H', ⟨Nat.le_refl _⟩, ⟨by (with_reducible repeat (first | apply Kd.V_alloc | apply Kd.V_drewN | apply Kd.V_drew)); exact HO0.out⟩, ⟨by repeat (first | (with_reducible first | exact HB.out | apply below_alloc | apply pw_below_drewN | apply below_drew1) | exact HB.out)⟩⟩
    case round =>
      clear H'
      try clear c2
      try clear p2
      obtain ⟨x0_1, HA, HK1, HO_0, HB⟩ := hrel
      cases gk with
      | zero => exact absurd HA.out (by simp [fleuronref1_Trim.l0])
      | succ k1 =>
        have H := HA.out
        clear HA
        simp only [fleuronref1_Trim.l0] at H
        by_cases c3 : (x0_1.length : Int) > 0
        · rw [if_pos c3] at H
          have c3b0 : decide (0 < (x0_1.length : Int)) = true := decide_eq_true c3
          have c3b1 : decide (0 < x0_1.length) = true := decide_eq_true (by omega)
          clear c3
          (first | rw [c3b0] | (simp only [i64_w, i32_w]; rw [c3b0]) | skip)
          by_cases c4 : 0 < (x0_1.length : Int)
          · rw [if_pos c4] at H
            have c4b0 : decide (0 < (x0_1.length : Int)) = true := decide_eq_true c4
            have c4b1 : decide (0 < x0_1.length) = true := decide_eq_true (by omega)
            clear c4
            by_cases c5 : ((rd_T51 x0_1 0).f0.f0) = 13
            · rw [if_pos c5] at H
              have c5b0 : (((rd_T51 x0_1 0).f0.f0) == 13) = true := beq_iff_eq.mpr c5
              have c5b1 : (((rd_T51 x0_1 0).f0.f0) != 13) = false := bne_eq_false_iff_eq.mpr c5
              clear c5
              by_cases c6 : 1 ≤ (x0_1.length : Int)
              · rw [if_pos c6] at H
                have c6b0 := eq_true c6
                have c6b1 : decide (1 ≤ (x0_1.length : Int)) = true := decide_eq_true c6
                clear c6
                obtain ⟨y140, hy140⟩ : ∃ y_ : List (S51), y_ = (x0_1.drop 1) := ⟨_, rfl⟩
                replace H : (fleuronref1_Trim.l0 k1 y140) = some r := by first | (rw [hy140]; with_reducible exact H) | (have H2_ := (Option.bind_some _ _).symm.trans H; rw [hy140]; with_reducible exact H2_) | (have H2_ := (Option.bind_some _ _).symm.trans H; with_reducible exact H2_) | with_reducible exact H | (rw [hy140]; exact H) | exact H
                have Ny140 := Aside0.mk hy140
                clear hy140
                have H' := Aside0.mk H
                clear H
                obtain ⟨Ao7, co7, eo7⟩ := Kd.V_slice HO_0.out
                subst eo7
                have p139 : 0 ≤ (0 : Int) := (by omega)
                have q139 : 0 < (x0_1.length : Int) := of_decide_eq_true (by first | (with_reducible assumption) | assumption)
                obtain ⟨ad139, A139_6, c139_6, e139, hx139_0, hx139_1, hx139_2, hx139_3, hx139_4, hx139_5, hx139_6, hl139_6, hi139_6⟩ := at_T51 (Kd.V_reads' HO_0.out).2.2 0 p139 q139
                cases e139
                obtain ⟨ce139, hce139, hMe139, hcc139⟩ := Kd.V_get HO_0.out z51 0 p139 (by first | exact q139 | exact of_decide_eq_true (by first | (with_reducible assumption) | assumption) | (have e_ := (Kd.V_reads' HO_0.out).1; omega))
                obtain ⟨ua139_6, uc139_6, rfl, ul139_6, ge139_6⟩ := k51_openF hMe139
                have hv139_6 := hcc139 6 _ rfl
                rw [add_field _ _ 6 (by omega)] at hv139_6
                replace hv139_6 := Option.some.inj (hv139_6.symm.trans hx139_6)
                injection hv139_6 with hva_ hvn_ hvc_
                rw [hva_] at ge139_6
                rw [hvc_] at ul139_6
                have HL139_6 := Aside0.mk (show Kd.V k51 51 _ w.heap.size _ _ ((rd_T51 x0_1 0).f1) from Kd.V_mk ul139_6 ge139_6)
                clear hva_ hvn_ hvc_ ge139_6 ul139_6
                clear hcc139 hce139
                have qi139 : (0 < x0_1.length) = True := eq_true (by omega)
                (try rw [show ((0 : Int)).toNat = 0 from rfl] at hx139_0)
                (try rw [show 0 * 7 = 0 from rfl] at hx139_0)
                (try rw [Addr.add_zero'] at hx139_0)
                (try rw [show ((0 : Int)).toNat = 0 from rfl] at hx139_1)
                (try rw [show 0 * 7 = 0 from rfl] at hx139_1)
                (try rw [Addr.add_zero'] at hx139_1)
                (try rw [show ((0 : Int)).toNat = 0 from rfl] at hx139_2)
                (try rw [show 0 * 7 = 0 from rfl] at hx139_2)
                (try rw [Addr.add_zero'] at hx139_2)
                (try rw [show ((0 : Int)).toNat = 0 from rfl] at hx139_3)
                (try rw [show 0 * 7 = 0 from rfl] at hx139_3)
                (try rw [Addr.add_zero'] at hx139_3)
                (try rw [show ((0 : Int)).toNat = 0 from rfl] at hx139_4)
                (try rw [show 0 * 7 = 0 from rfl] at hx139_4)
                (try rw [Addr.add_zero'] at hx139_4)
                (try rw [show ((0 : Int)).toNat = 0 from rfl] at hx139_5)
                (try rw [show 0 * 7 = 0 from rfl] at hx139_5)
                (try rw [Addr.add_zero'] at hx139_5)
                (try rw [show ((0 : Int)).toNat = 0 from rfl] at hx139_6)
                (try rw [show 0 * 7 = 0 from rfl] at hx139_6)
                (try rw [Addr.add_zero'] at hx139_6)
                have HR139_6 := Aside0.mk hi139_6
                have HC139_6 := Aside0.mk hl139_6
                clear hi139_6 hl139_6
                replace p139 := eq_true p139
                replace q139 := eq_true q139
                have q8 : (1 : Int) ≤ ((x0_1.length : Int) : Int) := of_decide_eq_true (by first | (with_reducible assumption) | assumption)
                obtain ⟨i08, hi08, _, hsz8, _⟩ := info_parts info51
                have hroom8 : x0_1.length ≤ co7 := (Kd.V_reads' HO_0.out).2.1
                have hC8 : Kd.F k51 _ _ (some ad139) x0_1.length x0_1 := (Kd.V_at (base := w.heap.size) HO_0.out).2.2
                have hcut8 := cut_from (P := Tryd.prog) 23 51 .i64 Tryd.underlying23 hi08 7 hsz8 (some ad139) x0_1.length co7 1 (by omega) q8
                have hr8 := Kd.F_cut (m := (1 : Int).toNat) (c := co7) hC8 (by omega) hroom8
                obtain ⟨A8, hA8⟩ : ∃ A1, A1 = (if co7 = (1 : Int).toNat then (some ad139) else ((some ad139) : Option Addr).map (·.add ((1 : Int).toNat * 7))) := ⟨_, rfl⟩
                obtain ⟨c8, hc8⟩ : ∃ c1, c1 = co7 - (1 : Int).toNat := ⟨_, rfl⟩
                have hy8 : y140.length = x0_1.length - (1 : Int).toNat := (by rw [Ny140.out, List.length_drop] <;> omega)
                rw [show (x0_1).drop (1 : Int).toNat = y140 from Ny140.out.symm] at hr8
                replace hr8 : Kd.F k51 _ _ A8 y140.length y140 := (by rw [hA8]; exact hr8)
                rw [← hy8, ← hA8, ← hc8] at hcut8
                have HO144 := Aside0.mk (show Kd.V k51 51 _ w.heap.size _ (.slice A8 y140.length c8) y140 from Kd.V_mk (by rw [hy8, hc8]; exact Nat.sub_le_sub_right hroom8 _) hr8)
                have HC144 := Aside0.mk (show y140.length ≤ c8 from by rw [hy8, hc8]; exact Nat.sub_le_sub_right hroom8 _)
                clear hr8 hC8 hroom8 hi08 hsz8 hc8
                have KY8 := Aside0.mk hy8
                have KA8 := Aside0.mk hA8
                clear hy8 hA8
                replace q8 := eq_true q8
                go_wp2
                go_roundg k1
                case measure => have := HK1.out; omega
                case rel => exact ⟨(y140), H', ⟨by have := HK1.out; omega⟩, ⟨by (with_reducible repeat (first | apply Kd.V_alloc | apply Kd.V_drewN | apply Kd.V_drew)); exact HO144.out⟩, ⟨by repeat (first | (with_reducible first | exact HB.out | apply below_alloc | apply pw_below_drewN | apply below_drew1) | exact HB.out)⟩⟩
              · rw [if_neg c6] at H
                exact absurd H (by simp)
            · rw [if_neg c5] at H
              have c5b0 : (((rd_T51 x0_1 0).f0.f0) == 13) = false := beq_eq_false_iff_ne.mpr c5
              have c5b1 : (((rd_T51 x0_1 0).f0.f0) != 13) = true := bne_iff_ne.mpr c5
              have H' := Aside0.mk H
              clear H
              obtain ⟨Ao9, co9, eo9⟩ := Kd.V_slice HO_0.out
              subst eo9
              have p139 : 0 ≤ (0 : Int) := (by omega)
              have q139 : 0 < (x0_1.length : Int) := of_decide_eq_true (by first | (with_reducible assumption) | assumption)
              obtain ⟨ad139, A139_6, c139_6, e139, hx139_0, hx139_1, hx139_2, hx139_3, hx139_4, hx139_5, hx139_6, hl139_6, hi139_6⟩ := at_T51 (Kd.V_reads' HO_0.out).2.2 0 p139 q139
              cases e139
              obtain ⟨ce139, hce139, hMe139, hcc139⟩ := Kd.V_get HO_0.out z51 0 p139 (by first | exact q139 | exact of_decide_eq_true (by first | (with_reducible assumption) | assumption) | (have e_ := (Kd.V_reads' HO_0.out).1; omega))
              obtain ⟨ua139_6, uc139_6, rfl, ul139_6, ge139_6⟩ := k51_openF hMe139
              have hv139_6 := hcc139 6 _ rfl
              rw [add_field _ _ 6 (by omega)] at hv139_6
              replace hv139_6 := Option.some.inj (hv139_6.symm.trans hx139_6)
              injection hv139_6 with hva_ hvn_ hvc_
              rw [hva_] at ge139_6
              rw [hvc_] at ul139_6
              have HL139_6 := Aside0.mk (show Kd.V k51 51 _ w.heap.size _ _ ((rd_T51 x0_1 0).f1) from Kd.V_mk ul139_6 ge139_6)
              clear hva_ hvn_ hvc_ ge139_6 ul139_6
              clear hcc139 hce139
              have qi139 : (0 < x0_1.length) = True := eq_true (by omega)
              (try rw [show ((0 : Int)).toNat = 0 from rfl] at hx139_0)
              (try rw [show 0 * 7 = 0 from rfl] at hx139_0)
              (try rw [Addr.add_zero'] at hx139_0)
              (try rw [show ((0 : Int)).toNat = 0 from rfl] at hx139_1)
              (try rw [show 0 * 7 = 0 from rfl] at hx139_1)
              (try rw [Addr.add_zero'] at hx139_1)
              (try rw [show ((0 : Int)).toNat = 0 from rfl] at hx139_2)
              (try rw [show 0 * 7 = 0 from rfl] at hx139_2)
              (try rw [Addr.add_zero'] at hx139_2)
              (try rw [show ((0 : Int)).toNat = 0 from rfl] at hx139_3)
              (try rw [show 0 * 7 = 0 from rfl] at hx139_3)
              (try rw [Addr.add_zero'] at hx139_3)
              (try rw [show ((0 : Int)).toNat = 0 from rfl] at hx139_4)
              (try rw [show 0 * 7 = 0 from rfl] at hx139_4)
              (try rw [Addr.add_zero'] at hx139_4)
              (try rw [show ((0 : Int)).toNat = 0 from rfl] at hx139_5)
              (try rw [show 0 * 7 = 0 from rfl] at hx139_5)
              (try rw [Addr.add_zero'] at hx139_5)
              (try rw [show ((0 : Int)).toNat = 0 from rfl] at hx139_6)
              (try rw [show 0 * 7 = 0 from rfl] at hx139_6)
              (try rw [Addr.add_zero'] at hx139_6)
              have HR139_6 := Aside0.mk hi139_6
              have HC139_6 := Aside0.mk hl139_6
              clear hi139_6 hl139_6
              replace p139 := eq_true p139
              replace q139 := eq_true q139
              go_wp2
              go_meet
              case rel => exact ⟨_, (x0_1), H', ⟨by have := HK1.out; first | omega | exact Nat.le_refl _⟩, ⟨by (with_reducible repeat (first | apply Kd.V_alloc | apply Kd.V_drewN | apply Kd.V_drew)); exact HO_0.out⟩, ⟨by repeat (first | (with_reducible first | exact HB.out | apply below_alloc | apply pw_below_drewN | apply below_drew1) | exact HB.out)⟩⟩
          · rw [if_neg c4] at H
            exact absurd H (by simp)
        · rw [if_neg c3] at H
          have c3b0 : decide (0 < (x0_1.length : Int)) = false := decide_eq_false c3
          have c3b1 : decide (0 < x0_1.length) = false := decide_eq_false (by omega)
          clear c3
          (first | rw [c3b0] | (simp only [i64_w, i32_w]; rw [c3b0]) | skip)
          have H' := Aside0.mk H
          clear H
          obtain ⟨Ao10, co10, eo10⟩ := Kd.V_slice HO_0.out
          subst eo10
          go_wp2
          go_meet
          case rel => exact ⟨_, (x0_1), H', ⟨by have := HK1.out; first | omega | exact Nat.le_refl _⟩, ⟨by (with_reducible repeat (first | apply Kd.V_alloc | apply Kd.V_drewN | apply Kd.V_drew)); exact HO_0.out⟩, ⟨by repeat (first | (with_reducible first | exact HB.out | apply below_alloc | apply pw_below_drewN | apply below_drew1) | exact HB.out)⟩⟩
  case rest =>
    clear HC2
    try clear c1
    try clear p1
    try clear q1
    try clear hx1
    try clear qi1
    try clear c2
    try clear p2
    try clear c3
    try clear c3b0
    try clear c3b1
    try clear c4
    try clear c4b0
    try clear c4b1
    try clear c5
    try clear c5b0
    try clear c5b1
    try clear c6
    try clear c6b0
    try clear c6b1
    try clear c8
    try clear q8
    try clear hx139_0
    try clear hx139_1
    try clear hx139_2
    try clear hx139_3
    try clear hx139_4
    try clear hx139_5
    try clear hx139_6
    try clear p139
    try clear p2
    try clear q139
    try clear q8
    obtain ⟨kq, x0_1, HA, HJ1, HO_0, HB⟩ := hcut
    cases kq with
    | zero => exact absurd HA.out (by simp [fleuronref1_Trim.j1])
    | succ kj1 =>
      have H := HA.out
      clear HA
      simp only [fleuronref1_Trim.j1] at H
      have H' := Aside0.mk H
      clear H
      go_wp2
      go_loopg [0] kj1 (fun kq v0 w' => ∃ (x0_2 : List (S51)), Aside0 (fleuronref1_Trim.l1 kq x0_2 = some r) ∧ Aside0 (kq ≤ kj1) ∧ Aside0 (Kd.V k51 51 w' w.heap.size (fun k_ => (P0_ k_ ∨ w.heap.size ≤ k_)) v0 x0_2) ∧ Aside0 (Below w.heap.size w w'))
      case atStart => exact ⟨(x0_1), H', ⟨Nat.le_refl _⟩, ⟨by (with_reducible repeat (first | apply Kd.V_alloc | apply Kd.V_drewN | apply Kd.V_drew)); exact HO_0.out⟩, ⟨by repeat (first | (with_reducible first | exact HB.out | apply below_alloc | apply pw_below_drewN | apply below_drew1) | exact HB.out)⟩⟩
      case round =>
        clear H'
        try clear c1
        try clear p1
        try clear q1
        try clear hx1
        try clear qi1
        try clear c2
        try clear p2
        try clear c3
        try clear c3b0
        try clear c3b1
        try clear c4
        try clear c4b0
        try clear c4b1
        try clear c5
        try clear c5b0
        try clear c5b1
        try clear c6
        try clear c6b0
        try clear c6b1
        try clear c8
        try clear q8
        try clear hx139_0
        try clear hx139_1
        try clear hx139_2
        try clear hx139_3
        try clear hx139_4
        try clear hx139_5
        try clear hx139_6
        try clear p1
        try clear p139
        try clear p2
        try clear q1
        try clear q139
        try clear q8
        obtain ⟨x0_2, HA, HK2, HO_0, HB⟩ := hrel
        cases gk with
        | zero => exact absurd HA.out (by simp [fleuronref1_Trim.l1])
        | succ k2 =>
          have H := HA.out
          clear HA
          simp only [fleuronref1_Trim.l1] at H
          by_cases c11 : (x0_2.length : Int) > 0
          · rw [if_pos c11] at H
            have c11b0 : decide (0 < (x0_2.length : Int)) = true := decide_eq_true c11
            have c11b1 : decide (0 < x0_2.length) = true := decide_eq_true (by omega)
            clear c11
            obtain ⟨ji12, hji12⟩ : ∃ j_ : Int, (wrap64 ((x0_2.length : Int) - 1)) = j_ := ⟨_, rfl⟩
            replace H : (if 0 ≤ (ji12) then (if (ji12) < (x0_2.length : Int) then (if ((rd_T51 x0_2 (ji12)).f0.f0) = 13 then (if (ji12) ≤ (x0_2.length : Int) then (fleuronref1_Trim.l1 k2 (x0_2.take ((ji12) : Int).toNat)) else (none)) else (some x0_2)) else (none)) else (none)) = some r := by first | (rw [hji12] at H; exact H) | (simp only [hji12] at H ⊢; exact H)
            have hji12w : (IntKind.i64.wrap ((x0_2.length : Int) - 1)) = ji12 := (i64_w _).trans hji12
            by_cases c13 : 0 ≤ (ji12)
            · rw [if_pos c13] at H
              have c13b0 : decide (0 ≤ (ji12)) = true := decide_eq_true c13
              clear c13
              by_cases c14 : (ji12) < (x0_2.length : Int)
              · rw [if_pos c14] at H
                have c14b0 : decide ((ji12) < (x0_2.length : Int)) = true := decide_eq_true c14
                clear c14
                by_cases c15 : ((rd_T51 x0_2 (ji12)).f0.f0) = 13
                · rw [if_pos c15] at H
                  have c15b0 : (((rd_T51 x0_2 (ji12)).f0.f0) == 13) = true := beq_iff_eq.mpr c15
                  have c15b1 : (((rd_T51 x0_2 (ji12)).f0.f0) != 13) = false := bne_eq_false_iff_eq.mpr c15
                  clear c15
                  have c16b0 := eq_true (of_decide_eq_true (by first | (with_reducible assumption) | assumption) : 0 ≤ (ji12))
                  by_cases c17 : (ji12) ≤ (x0_2.length : Int)
                  · rw [if_pos c17] at H
                    have c17b0 := eq_true c17
                    have c17b1 : decide ((ji12) ≤ (x0_2.length : Int)) = true := decide_eq_true c17
                    clear c17
                    obtain ⟨y146, hy146⟩ : ∃ y_ : List (S51), y_ = (x0_2.take ((ji12) : Int).toNat) := ⟨_, rfl⟩
                    replace H : (fleuronref1_Trim.l1 k2 y146) = some r := by first | (rw [hy146]; with_reducible exact H) | (have H2_ := (Option.bind_some _ _).symm.trans H; rw [hy146]; with_reducible exact H2_) | (have H2_ := (Option.bind_some _ _).symm.trans H; with_reducible exact H2_) | with_reducible exact H | (rw [hy146]; exact H) | exact H
                    have Ny146 := Aside0.mk hy146
                    clear hy146
                    have H' := Aside0.mk H
                    clear H
                    obtain ⟨Ao18, co18, eo18⟩ := Kd.V_slice HO_0.out
                    subst eo18
                    have p145 : 0 ≤ ((ji12) : Int) := of_decide_eq_true (by first | (with_reducible assumption) | assumption)
                    have q145 : (ji12) < (x0_2.length : Int) := of_decide_eq_true (by first | (with_reducible assumption) | assumption)
                    obtain ⟨ad145, A145_6, c145_6, e145, hx145_0, hx145_1, hx145_2, hx145_3, hx145_4, hx145_5, hx145_6, hl145_6, hi145_6⟩ := at_T51 (Kd.V_reads' HO_0.out).2.2 (ji12) p145 q145
                    cases e145
                    obtain ⟨ce145, hce145, hMe145, hcc145⟩ := Kd.V_get HO_0.out z51 (ji12) p145 (by first | exact q145 | exact of_decide_eq_true (by first | (with_reducible assumption) | assumption) | (have e_ := (Kd.V_reads' HO_0.out).1; omega))
                    obtain ⟨ua145_6, uc145_6, rfl, ul145_6, ge145_6⟩ := k51_openF hMe145
                    have hv145_6 := hcc145 6 _ rfl
                    rw [add_field _ _ 6 (by omega)] at hv145_6
                    replace hv145_6 := Option.some.inj (hv145_6.symm.trans hx145_6)
                    injection hv145_6 with hva_ hvn_ hvc_
                    rw [hva_] at ge145_6
                    rw [hvc_] at ul145_6
                    have HL145_6 := Aside0.mk (show Kd.V k51 51 _ w.heap.size _ _ ((rd_T51 x0_2 (ji12)).f1) from Kd.V_mk ul145_6 ge145_6)
                    clear hva_ hvn_ hvc_ ge145_6 ul145_6
                    clear hcc145 hce145
                    have HR145_6 := Aside0.mk hi145_6
                    have HC145_6 := Aside0.mk hl145_6
                    clear hi145_6 hl145_6
                    replace p145 := eq_true p145
                    replace q145 := eq_true q145
                    have q19 : ((ji12) : Int) ≤ ((x0_2.length : Int) : Int) := of_decide_eq_true (by first | (with_reducible assumption) | assumption)
                    obtain ⟨i019, hi019, _, hsz19, _⟩ := info_parts info51
                    have hroom19 : x0_2.length ≤ co18 := (Kd.V_reads' HO_0.out).2.1
                    have hC19 : Kd.F k51 _ _ (some ad145) x0_2.length x0_2 := (Kd.V_at (base := w.heap.size) HO_0.out).2.2
                    have hcut19 := cut_to (P := Tryd.prog) 23 51 .i64 Tryd.underlying23 hi019 (some ad145) x0_2.length co18 (ji12) (of_decide_eq_true (by first | (with_reducible assumption) | assumption)) q19 hroom19
                    have hr19 := Kd.F_take (m := ((ji12) : Int).toNat) hC19 (by omega)
                    have hy19 : y146.length = ((ji12) : Int).toNat := (by rw [Ny146.out, List.length_take]; omega)
                    rw [← Ny146.out] at hr19
                    rw [← hy19] at hcut19
                    have HO150 := Aside0.mk (show Kd.V k51 51 _ w.heap.size _ (.slice (some ad145) y146.length co18) y146 from Kd.V_mk (by omega) hr19)
                    have HC150 := Aside0.mk (show y146.length ≤ co18 from by omega)
                    clear hr19 hC19 hroom19 hi019 hsz19
                    have KY19 := Aside0.mk hy19
                    clear hy19
                    replace q19 := eq_true q19
                    go_wp2
                    go_roundg k2
                    case measure => have := HJ1.out; have := HK2.out; omega
                    case rel => exact ⟨(y146), H', ⟨by have := HJ1.out; have := HK2.out; omega⟩, ⟨by (with_reducible repeat (first | apply Kd.V_alloc | apply Kd.V_drewN | apply Kd.V_drew)); exact HO150.out⟩, ⟨by repeat (first | (with_reducible first | exact HB.out | apply below_alloc | apply pw_below_drewN | apply below_drew1) | exact HB.out)⟩⟩
                  · rw [if_neg c17] at H
                    exact absurd H (by simp)
                · rw [if_neg c15] at H
                  have c15b0 : (((rd_T51 x0_2 (ji12)).f0.f0) == 13) = false := beq_eq_false_iff_ne.mpr c15
                  have c15b1 : (((rd_T51 x0_2 (ji12)).f0.f0) != 13) = true := bne_iff_ne.mpr c15
                  obtain rfl := Option.some.inj H
                  obtain ⟨Ao20, co20, eo20⟩ := Kd.V_slice HO_0.out
                  subst eo20
                  have p145 : 0 ≤ ((ji12) : Int) := of_decide_eq_true (by first | (with_reducible assumption) | assumption)
                  have q145 : (ji12) < (x0_2.length : Int) := of_decide_eq_true (by first | (with_reducible assumption) | assumption)
                  obtain ⟨ad145, A145_6, c145_6, e145, hx145_0, hx145_1, hx145_2, hx145_3, hx145_4, hx145_5, hx145_6, hl145_6, hi145_6⟩ := at_T51 (Kd.V_reads' HO_0.out).2.2 (ji12) p145 q145
                  cases e145
                  obtain ⟨ce145, hce145, hMe145, hcc145⟩ := Kd.V_get HO_0.out z51 (ji12) p145 (by first | exact q145 | exact of_decide_eq_true (by first | (with_reducible assumption) | assumption) | (have e_ := (Kd.V_reads' HO_0.out).1; omega))
                  obtain ⟨ua145_6, uc145_6, rfl, ul145_6, ge145_6⟩ := k51_openF hMe145
                  have hv145_6 := hcc145 6 _ rfl
                  rw [add_field _ _ 6 (by omega)] at hv145_6
                  replace hv145_6 := Option.some.inj (hv145_6.symm.trans hx145_6)
                  injection hv145_6 with hva_ hvn_ hvc_
                  rw [hva_] at ge145_6
                  rw [hvc_] at ul145_6
                  have HL145_6 := Aside0.mk (show Kd.V k51 51 _ w.heap.size _ _ ((rd_T51 x0_2 (ji12)).f1) from Kd.V_mk ul145_6 ge145_6)
                  clear hva_ hvn_ hvc_ ge145_6 ul145_6
                  clear hcc145 hce145
                  have HR145_6 := Aside0.mk hi145_6
                  have HC145_6 := Aside0.mk hl145_6
                  clear hi145_6 hl145_6
                  replace p145 := eq_true p145
                  replace q145 := eq_true q145
                  go_wp2
                  go_ret
                  exact ⟨_, by first | rfl | (simp [errW_none, errW_some] <;> rfl) | (simp only [← hji12]; first | rfl | (simp [errW_none, errW_some] <;> rfl)) | (simp [*, errW_none, errW_some] <;> rfl), by (with_reducible repeat (first | apply Kd.V_alloc | apply Kd.V_drewN | apply Kd.V_drew)); exact HO_0.out, by repeat (first | (with_reducible first | exact HB.out | apply below_alloc | apply pw_below_drewN | apply below_drew1) | exact HB.out)⟩
              · rw [if_neg c14] at H
                exact absurd H (by simp)
            · rw [if_neg c13] at H
              exact absurd H (by simp)
          · rw [if_neg c11] at H
            have c11b0 : decide (0 < (x0_2.length : Int)) = false := decide_eq_false c11
            have c11b1 : decide (0 < x0_2.length) = false := decide_eq_false (by omega)
            clear c11
            obtain rfl := Option.some.inj H
            obtain ⟨Ao21, co21, eo21⟩ := Kd.V_slice HO_0.out
            subst eo21
            go_wp2
            go_ret
            exact ⟨_, by first | rfl | (simp [errW_none, errW_some] <;> rfl) | (simp [*, errW_none, errW_some] <;> rfl), by (with_reducible repeat (first | apply Kd.V_alloc | apply Kd.V_drewN | apply Kd.V_drew)); exact HO_0.out, by repeat (first | (with_reducible first | exact HB.out | apply below_alloc | apply pw_below_drewN | apply below_drew1) | exact HB.out)⟩

/-! ### fleuronref1_Decimal: function 15 -/
mutual
def fleuronref1_Decimal.j0 : Nat → Int → ByteArray → Option (ByteArray)
  | 0, _, _ => none
  | k + 1, x3, x4 => fleuronref1_Decimal.l0 k x3 x4 (⟨#[]⟩ : ByteArray)
def fleuronref1_Decimal.l0 : Nat → Int → ByteArray → ByteArray → Option (ByteArray)
  | 0, _, _, _ => none
  | k + 1, x3, x4, x5 => if x3 > 0 then ((some (([(IntKind.u64.wrap (48 + (Int.tmod x3 10))) % 256] : List Int) : List Int)).bind fun y151 => (if (strOfNums y151).size + x5.size ≤ 9223372036854775807 then (fleuronref1_Decimal.l0 k (IntKind.u64.wrap (Int.tdiv x3 10)) x4 ((strOfNums y151) ++ x5)) else (none))) else (if x5.toList = ([] : List UInt8) then ((some (([(IntKind.u64.wrap (48 + (Int.tmod x3 10))) % 256] : List Int) : List Int)).bind fun y154 => (if (strOfNums y154).size + x5.size ≤ 9223372036854775807 then (fleuronref1_Decimal.l0 k (IntKind.u64.wrap (Int.tdiv x3 10)) x4 ((strOfNums y154) ++ x5)) else (none))) else (if x4.size + x5.size ≤ 9223372036854775807 then (some (x4 ++ x5)) else (none)))
end
def fleuronref1_Decimal.f (k : Nat) (a0 : Int) : Option (ByteArray) := if a0 < 0 then (fleuronref1_Decimal.j0 k (IntKind.u64.wrap (-(IntKind.u64.wrap (a0)))) (⟨#[45]⟩ : ByteArray)) else (fleuronref1_Decimal.j0 k (IntKind.u64.wrap (a0)) (⟨#[]⟩ : ByteArray))
set_option maxHeartbeats 8000000 in
set_option maxRecDepth 100000 in
theorem fleuronref1_Decimal.calls (k : Nat) (a0 : Int) (r : ByteArray) (w : World) (h : fleuronref1_Decimal.f k a0 = some r) :
    Calls Tryd.prog 15 #[.int .i64 a0] w fun e w' => e = .returned (.string r) ∧ Below w.heap.size w w' := by
  have HB := Aside0.mk (Below.refl w.heap.size w)
  have H : (if a0 < 0 then (fleuronref1_Decimal.j0 k (IntKind.u64.wrap (-(IntKind.u64.wrap (a0)))) (⟨#[45]⟩ : ByteArray)) else (fleuronref1_Decimal.j0 k (IntKind.u64.wrap (a0)) (⟨#[]⟩ : ByteArray))) = some r := h
  clear h
  have HC2 := Aside0.mk H
  clear H
  go_enter Tryd.func15, Tryd.ntmps15
  go_upto_if 9 with (fail)
  go_cut [3, 4] (fun v3 v4 wc => ∃ (kq : Nat) (x3_1 : Int) (x4_1 : ByteArray), v3 = .int .u64 x3_1 ∧ v4 = .string x4_1 ∧ Aside0 (fleuronref1_Decimal.j0 kq x3_1 x4_1 = some r) ∧ Aside0 (kq ≤ k) ∧ Aside0 (Below w.heap.size w wc))
  case first =>
    have H := HC2.out
    clear HC2
    by_cases c3 : a0 < 0
    · rw [if_pos c3] at H
      have c3b0 : decide (a0 < 0) = true := decide_eq_true c3
      clear c3
      (first | rw [c3b0] | (simp only [i64_w, i32_w]; rw [c3b0]) | skip)
      have H' := Aside0.mk H
      clear H
      go_wp2
      go_meet
      case rel => exact ⟨_, (IntKind.u64.wrap (-(IntKind.u64.wrap (a0)))), ((⟨#[45]⟩ : ByteArray)), (by first | rfl | (simp; done) | (simp [*]; done)), (by first | rfl | (simp; done) | (simp [*]; done)), H', ⟨by first | omega | exact Nat.le_refl _⟩, ⟨by repeat (first | (with_reducible first | exact HB.out | apply below_alloc | apply pw_below_drewN | apply below_drew1) | exact HB.out)⟩⟩
    · rw [if_neg c3] at H
      have c3b0 : decide (a0 < 0) = false := decide_eq_false c3
      clear c3
      (first | rw [c3b0] | (simp only [i64_w, i32_w]; rw [c3b0]) | skip)
      have H' := Aside0.mk H
      clear H
      go_wp2
      go_meet
      case rel => exact ⟨_, (IntKind.u64.wrap (a0)), ((⟨#[]⟩ : ByteArray)), (by first | rfl | (simp; done) | (simp [*]; done)), (by first | rfl | (simp; done) | (simp [*]; done)), H', ⟨by first | omega | exact Nat.le_refl _⟩, ⟨by repeat (first | (with_reducible first | exact HB.out | apply below_alloc | apply pw_below_drewN | apply below_drew1) | exact HB.out)⟩⟩
  case rest =>
    clear HC2
    try clear c1
    try clear p2
    try clear c3
    try clear c3b0
    obtain ⟨kq, x3_1, x4_1, rfl, rfl, HA, HJ1, HB⟩ := hcut
    cases kq with
    | zero => exact absurd HA.out (by simp [fleuronref1_Decimal.j0])
    | succ kj1 =>
      have H := HA.out
      clear HA
      simp only [fleuronref1_Decimal.j0] at H
      have H' := Aside0.mk H
      clear H
      go_wp2
      go_loopg [3, 5] kj1 (fun kq v3 v5 w' => ∃ (x3_2 : Int) (x5_2 : ByteArray), v3 = .int .u64 x3_2 ∧ v5 = .string x5_2 ∧ Aside0 (fleuronref1_Decimal.l0 kq x3_2 x4_1 x5_2 = some r) ∧ Aside0 (kq ≤ kj1) ∧ Aside0 (Below w.heap.size w w'))
      case atStart => exact ⟨(x3_1), ((⟨#[]⟩ : ByteArray)), (by first | rfl | (simp; done) | (simp [*]; done)), (by first | rfl | (simp; done) | (simp [*]; done)), H', ⟨Nat.le_refl _⟩, ⟨by repeat (first | (with_reducible first | exact HB.out | apply below_alloc | apply pw_below_drewN | apply below_drew1) | exact HB.out)⟩⟩
      case round =>
        clear H'
        try clear c1
        try clear p2
        try clear c3
        try clear c3b0
        try clear p2
        obtain ⟨x3_2, x5_2, rfl, rfl, HA, HK2, HB⟩ := hrel
        cases gk with
        | zero => exact absurd HA.out (by simp [fleuronref1_Decimal.l0])
        | succ k2 =>
          have H := HA.out
          clear HA
          simp only [fleuronref1_Decimal.l0] at H
          by_cases c4 : x3_2 > 0
          · rw [if_pos c4] at H
            have c4b0 : decide (0 < x3_2) = true := decide_eq_true c4
            clear c4
            obtain ⟨y151, hy151⟩ : ∃ y_ : List Int, y_ = (([(IntKind.u64.wrap (48 + (Int.tmod x3_2 10))) % 256] : List Int)) := ⟨_, rfl⟩
            replace H : (if (strOfNums y151).size + x5_2.size ≤ 9223372036854775807 then (fleuronref1_Decimal.l0 k2 (IntKind.u64.wrap (Int.tdiv x3_2 10)) x4_1 ((strOfNums y151) ++ x5_2)) else (none)) = some r := by first | (rw [hy151]; with_reducible exact H) | (have H2_ := (Option.bind_some _ _).symm.trans H; rw [hy151]; with_reducible exact H2_) | (have H2_ := (Option.bind_some _ _).symm.trans H; with_reducible exact H2_) | with_reducible exact H | (rw [hy151]; exact H) | exact H
            have Ny151 := Aside0.mk hy151
            clear hy151
            by_cases c5 : (strOfNums y151).size + x5_2.size ≤ 9223372036854775807
            · rw [if_pos c5] at H
              have c5b0 := eq_true c5
              have c5b1 : decide ((strOfNums y151).size + x5_2.size ≤ 9223372036854775807) = true := decide_eq_true c5
              try have c5b2 : (9223372036854775807 < (strOfNums y151).size + x5_2.size) = False := eq_false (Nat.not_lt.2 c5)
              have H' := Aside0.mk H
              clear H
              go_wp2_with (first | ((with_reducible refine gate_dst (N := 22) rfl ?_); refine Kd.R_lit (Kd.int .u8) _ 5 ?hg (N := 22) ?hd (xs := ([(IntKind.u64.wrap (48 + (Int.tmod x3_2 10))) % 256] : List Int)) (inner := [.int .u8 ((IntKind.u64.wrap (48 + (Int.tmod x3_2 10))) % 256)]) (ok := fun _ => True) (okp := fun _ => True) ?hr ?hp (fun _ hk => hk) trivial (Below.refl _ _) (Nat.le_refl _) (by simp) ?_; (case hd => rfl); (case hg => rfl); (case hr => first | (go_simp; done) | (go_simp; rfl)); (case hp => exact (Reps.one (show Kd.M (Kd.int .u8) _ _ _ ((IntKind.u64.wrap (48 + (Int.tmod x3_2 10))) % 256) [.int .u8 ((IntKind.u64.wrap (48 + (Int.tmod x3_2 10))) % 256)] from rfl) (Reps.none _ _))); intro v152 w6 ho7 hb hg_ hnew_; clear hg_ hnew_; (first | rw [← Ny151.out] at ho7 | (simp only [Int.reduceToNat] at ho7; rw [← Ny151.out] at ho7)); have n0_ := Aside0.mk (Kd.R_lower ho7 (below_size (by repeat (first | (with_reducible first | exact HB.out | apply below_alloc | apply pw_below_drewN | apply below_drew1) | exact HB.out)))); have n1_ := Aside0.mk (below_step (by repeat (first | (with_reducible first | exact HB.out | apply below_alloc | apply pw_below_drewN | apply below_drew1) | exact HB.out)) hb); clear HB; have HO153 := n0_; have HB := n1_; clear n0_ n1_; clear hb ho7; have hcv8 := own_string (P := Tryd.prog) Tryd.underlying43 Tryd.underlying5 Tryd.underlying9 (Kd.own_of_R HO153.out)))
              go_roundg k2
              case measure => have := HJ1.out; have := HK2.out; omega
              case rel => exact ⟨(IntKind.u64.wrap (Int.tdiv x3_2 10)), ((strOfNums y151) ++ x5_2), (by first | rfl | (simp; done) | (simp [*]; done)), (by first | rfl | (simp; done) | (simp [*]; done)), H', ⟨by have := HJ1.out; have := HK2.out; omega⟩, ⟨by repeat (first | (with_reducible first | exact HB.out | apply below_alloc | apply pw_below_drewN | apply below_drew1) | exact HB.out)⟩⟩
            · rw [if_neg c5] at H
              exact absurd H (by simp)
          · rw [if_neg c4] at H
            have c4b0 : decide (0 < x3_2) = false := decide_eq_false c4
            clear c4
            by_cases c9 : x5_2.toList = ([] : List UInt8)
            · rw [if_pos c9] at H
              have c9b0 : (x5_2.toList == ([] : List UInt8)) = true := beq_iff_eq.mpr c9
              have c9b1 : (x5_2.toList != ([] : List UInt8)) = false := bne_eq_false_iff_eq.mpr c9
              clear c9
              obtain ⟨y154, hy154⟩ : ∃ y_ : List Int, y_ = (([(IntKind.u64.wrap (48 + (Int.tmod x3_2 10))) % 256] : List Int)) := ⟨_, rfl⟩
              replace H : (if (strOfNums y154).size + x5_2.size ≤ 9223372036854775807 then (fleuronref1_Decimal.l0 k2 (IntKind.u64.wrap (Int.tdiv x3_2 10)) x4_1 ((strOfNums y154) ++ x5_2)) else (none)) = some r := by first | (rw [hy154]; with_reducible exact H) | (have H2_ := (Option.bind_some _ _).symm.trans H; rw [hy154]; with_reducible exact H2_) | (have H2_ := (Option.bind_some _ _).symm.trans H; with_reducible exact H2_) | with_reducible exact H | (rw [hy154]; exact H) | exact H
              have Ny154 := Aside0.mk hy154
              clear hy154
              by_cases c10 : (strOfNums y154).size + x5_2.size ≤ 9223372036854775807
              · rw [if_pos c10] at H
                have c10b0 := eq_true c10
                have c10b1 : decide ((strOfNums y154).size + x5_2.size ≤ 9223372036854775807) = true := decide_eq_true c10
                try have c10b2 : (9223372036854775807 < (strOfNums y154).size + x5_2.size) = False := eq_false (Nat.not_lt.2 c10)
                have H' := Aside0.mk H
                clear H
                go_wp2_with (first | ((with_reducible refine gate_dst (N := 22) rfl ?_); refine Kd.R_lit (Kd.int .u8) _ 5 ?hg (N := 22) ?hd (xs := ([(IntKind.u64.wrap (48 + (Int.tmod x3_2 10))) % 256] : List Int)) (inner := [.int .u8 ((IntKind.u64.wrap (48 + (Int.tmod x3_2 10))) % 256)]) (ok := fun _ => True) (okp := fun _ => True) ?hr ?hp (fun _ hk => hk) trivial (Below.refl _ _) (Nat.le_refl _) (by simp) ?_; (case hd => rfl); (case hg => rfl); (case hr => first | (go_simp; done) | (go_simp; rfl)); (case hp => exact (Reps.one (show Kd.M (Kd.int .u8) _ _ _ ((IntKind.u64.wrap (48 + (Int.tmod x3_2 10))) % 256) [.int .u8 ((IntKind.u64.wrap (48 + (Int.tmod x3_2 10))) % 256)] from rfl) (Reps.none _ _))); intro v155 w11 ho12 hb hg_ hnew_; clear hg_ hnew_; (first | rw [← Ny154.out] at ho12 | (simp only [Int.reduceToNat] at ho12; rw [← Ny154.out] at ho12)); have n0_ := Aside0.mk (Kd.R_lower ho12 (below_size (by repeat (first | (with_reducible first | exact HB.out | apply below_alloc | apply pw_below_drewN | apply below_drew1) | exact HB.out)))); have n1_ := Aside0.mk (below_step (by repeat (first | (with_reducible first | exact HB.out | apply below_alloc | apply pw_below_drewN | apply below_drew1) | exact HB.out)) hb); clear HB; have HO156 := n0_; have HB := n1_; clear n0_ n1_; clear hb ho12; have hcv13 := own_string (P := Tryd.prog) Tryd.underlying43 Tryd.underlying5 Tryd.underlying9 (Kd.own_of_R HO156.out)))
                go_roundg k2
                case measure => have := HJ1.out; have := HK2.out; omega
                case rel => exact ⟨(IntKind.u64.wrap (Int.tdiv x3_2 10)), ((strOfNums y154) ++ x5_2), (by first | rfl | (simp; done) | (simp [*]; done)), (by first | rfl | (simp; done) | (simp [*]; done)), H', ⟨by have := HJ1.out; have := HK2.out; omega⟩, ⟨by repeat (first | (with_reducible first | exact HB.out | apply below_alloc | apply pw_below_drewN | apply below_drew1) | exact HB.out)⟩⟩
              · rw [if_neg c10] at H
                exact absurd H (by simp)
            · rw [if_neg c9] at H
              have c9b0 : (x5_2.toList == ([] : List UInt8)) = false := beq_eq_false_iff_ne.mpr c9
              have c9b1 : (x5_2.toList != ([] : List UInt8)) = true := bne_iff_ne.mpr c9
              by_cases c14 : x4_1.size + x5_2.size ≤ 9223372036854775807
              · rw [if_pos c14] at H
                have c14b0 := eq_true c14
                have c14b1 : decide (x4_1.size + x5_2.size ≤ 9223372036854775807) = true := decide_eq_true c14
                try have c14b2 : (9223372036854775807 < x4_1.size + x5_2.size) = False := eq_false (Nat.not_lt.2 c14)
                obtain rfl := Option.some.inj H
                go_wp2
                go_ret
                exact ⟨by first | rfl | (simp [errW_none, errW_some] <;> rfl) | (simp [*, errW_none, errW_some] <;> rfl), by repeat (first | (with_reducible first | exact HB.out | apply below_alloc | apply pw_below_drewN | apply below_drew1) | exact HB.out)⟩
              · rw [if_neg c14] at H
                exact absurd H (by simp)

/-! ### fleuronref5_MatchAnb: function 12 -/
def fleuronref5_MatchAnb.f (a0 : Int) (a1 : Int) (a2 : Int) : Option (Bool) := if a0 = 0 then (some (a2 == a1)) else (if a2 < a1 then (if a0 < 0 then (if (IntKind.u64.wrap (-(IntKind.u64.wrap (a0)))) = 0 then (none) else (if (Int.tmod (IntKind.u64.wrap ((IntKind.u64.wrap (a1)) - (IntKind.u64.wrap (a2)))) (IntKind.u64.wrap (-(IntKind.u64.wrap (a0))))) = 0 then (if (IntKind.u64.wrap ((IntKind.u64.wrap (a1)) - (IntKind.u64.wrap (a2)))) = 0 then (some true) else (some ((decide (a2 < a1)) == (decide (a0 < 0))))) else (some false))) else (if (IntKind.u64.wrap (a0)) = 0 then (none) else (if (Int.tmod (IntKind.u64.wrap ((IntKind.u64.wrap (a1)) - (IntKind.u64.wrap (a2)))) (IntKind.u64.wrap (a0))) = 0 then (if (IntKind.u64.wrap ((IntKind.u64.wrap (a1)) - (IntKind.u64.wrap (a2)))) = 0 then (some true) else (some ((decide (a2 < a1)) == (decide (a0 < 0))))) else (some false)))) else (if a0 < 0 then (if (IntKind.u64.wrap (-(IntKind.u64.wrap (a0)))) = 0 then (none) else (if (Int.tmod (IntKind.u64.wrap ((IntKind.u64.wrap (a2)) - (IntKind.u64.wrap (a1)))) (IntKind.u64.wrap (-(IntKind.u64.wrap (a0))))) = 0 then (if (IntKind.u64.wrap ((IntKind.u64.wrap (a2)) - (IntKind.u64.wrap (a1)))) = 0 then (some true) else (some ((decide (a2 < a1)) == (decide (a0 < 0))))) else (some false))) else (if (IntKind.u64.wrap (a0)) = 0 then (none) else (if (Int.tmod (IntKind.u64.wrap ((IntKind.u64.wrap (a2)) - (IntKind.u64.wrap (a1)))) (IntKind.u64.wrap (a0))) = 0 then (if (IntKind.u64.wrap ((IntKind.u64.wrap (a2)) - (IntKind.u64.wrap (a1)))) = 0 then (some true) else (some ((decide (a2 < a1)) == (decide (a0 < 0))))) else (some false)))))
set_option maxHeartbeats 8000000 in
set_option maxRecDepth 100000 in
theorem fleuronref5_MatchAnb.calls (a0 : Int) (a1 : Int) (a2 : Int) (r : Bool) (w : World) (h : fleuronref5_MatchAnb.f a0 a1 a2 = some r) :
    Calls Tryd.prog 12 #[.int .i64 a0, .int .i64 a1, .int .i64 a2] w fun e w' => e = .returned (.bool r) ∧ Drawn0 w w' := by
  have H : (if a0 = 0 then (some (a2 == a1)) else (if a2 < a1 then (if a0 < 0 then (if (IntKind.u64.wrap (-(IntKind.u64.wrap (a0)))) = 0 then (none) else (if (Int.tmod (IntKind.u64.wrap ((IntKind.u64.wrap (a1)) - (IntKind.u64.wrap (a2)))) (IntKind.u64.wrap (-(IntKind.u64.wrap (a0))))) = 0 then (if (IntKind.u64.wrap ((IntKind.u64.wrap (a1)) - (IntKind.u64.wrap (a2)))) = 0 then (some true) else (some ((decide (a2 < a1)) == (decide (a0 < 0))))) else (some false))) else (if (IntKind.u64.wrap (a0)) = 0 then (none) else (if (Int.tmod (IntKind.u64.wrap ((IntKind.u64.wrap (a1)) - (IntKind.u64.wrap (a2)))) (IntKind.u64.wrap (a0))) = 0 then (if (IntKind.u64.wrap ((IntKind.u64.wrap (a1)) - (IntKind.u64.wrap (a2)))) = 0 then (some true) else (some ((decide (a2 < a1)) == (decide (a0 < 0))))) else (some false)))) else (if a0 < 0 then (if (IntKind.u64.wrap (-(IntKind.u64.wrap (a0)))) = 0 then (none) else (if (Int.tmod (IntKind.u64.wrap ((IntKind.u64.wrap (a2)) - (IntKind.u64.wrap (a1)))) (IntKind.u64.wrap (-(IntKind.u64.wrap (a0))))) = 0 then (if (IntKind.u64.wrap ((IntKind.u64.wrap (a2)) - (IntKind.u64.wrap (a1)))) = 0 then (some true) else (some ((decide (a2 < a1)) == (decide (a0 < 0))))) else (some false))) else (if (IntKind.u64.wrap (a0)) = 0 then (none) else (if (Int.tmod (IntKind.u64.wrap ((IntKind.u64.wrap (a2)) - (IntKind.u64.wrap (a1)))) (IntKind.u64.wrap (a0))) = 0 then (if (IntKind.u64.wrap ((IntKind.u64.wrap (a2)) - (IntKind.u64.wrap (a1)))) = 0 then (some true) else (some ((decide (a2 < a1)) == (decide (a0 < 0))))) else (some false)))))) = some r := h
  clear h
  by_cases c4 : a0 = 0
  · rw [if_pos c4] at H
    have c4b0 : (a0 == 0) = true := beq_iff_eq.mpr c4
    have c4b1 : (a0 != 0) = false := bne_eq_false_iff_eq.mpr c4
    clear c4
    obtain rfl := Option.some.inj H
    go_enter Tryd.func12, Tryd.ntmps12
    go_wp2
    go_ret
    exact ⟨by first | rfl | (simp; done) | (simp [*]; done), by repeat (first | exact Drawn0.refl _ | apply Drawn0.step)⟩
  · rw [if_neg c4] at H
    have c4b0 : (a0 == 0) = false := beq_eq_false_iff_ne.mpr c4
    have c4b1 : (a0 != 0) = true := bne_iff_ne.mpr c4
    by_cases c5 : a2 < a1
    · rw [if_pos c5] at H
      have c5b0 : decide (a2 < a1) = true := decide_eq_true c5
      clear c5
      by_cases c6 : a0 < 0
      · rw [if_pos c6] at H
        have c6b0 : decide (a0 < 0) = true := decide_eq_true c6
        clear c6
        by_cases c7 : (IntKind.u64.wrap (-(IntKind.u64.wrap (a0)))) = 0
        · rw [if_pos c7] at H
          exact absurd H (by simp)
        · rw [if_neg c7] at H
          have c7b0 : ((IntKind.u64.wrap (-(IntKind.u64.wrap (a0)))) == 0) = false := beq_eq_false_iff_ne.mpr c7
          have c7b1 : ((IntKind.u64.wrap (-(IntKind.u64.wrap (a0)))) != 0) = true := bne_iff_ne.mpr c7
          by_cases c8 : (Int.tmod (IntKind.u64.wrap ((IntKind.u64.wrap (a1)) - (IntKind.u64.wrap (a2)))) (IntKind.u64.wrap (-(IntKind.u64.wrap (a0))))) = 0
          · rw [if_pos c8] at H
            have c8b0 : ((Int.tmod (IntKind.u64.wrap ((IntKind.u64.wrap (a1)) - (IntKind.u64.wrap (a2)))) (IntKind.u64.wrap (-(IntKind.u64.wrap (a0))))) == 0) = true := beq_iff_eq.mpr c8
            have c8b1 : ((Int.tmod (IntKind.u64.wrap ((IntKind.u64.wrap (a1)) - (IntKind.u64.wrap (a2)))) (IntKind.u64.wrap (-(IntKind.u64.wrap (a0))))) != 0) = false := bne_eq_false_iff_eq.mpr c8
            clear c8
            by_cases c9 : (IntKind.u64.wrap ((IntKind.u64.wrap (a1)) - (IntKind.u64.wrap (a2)))) = 0
            · rw [if_pos c9] at H
              have c9b0 : ((IntKind.u64.wrap ((IntKind.u64.wrap (a1)) - (IntKind.u64.wrap (a2)))) == 0) = true := beq_iff_eq.mpr c9
              have c9b1 : ((IntKind.u64.wrap ((IntKind.u64.wrap (a1)) - (IntKind.u64.wrap (a2)))) != 0) = false := bne_eq_false_iff_eq.mpr c9
              clear c9
              obtain rfl := Option.some.inj H
              go_enter Tryd.func12, Tryd.ntmps12
              go_wp2
              go_ret
              exact ⟨by first | rfl | (simp; done) | (simp [*]; done), by repeat (first | exact Drawn0.refl _ | apply Drawn0.step)⟩
            · rw [if_neg c9] at H
              have c9b0 : ((IntKind.u64.wrap ((IntKind.u64.wrap (a1)) - (IntKind.u64.wrap (a2)))) == 0) = false := beq_eq_false_iff_ne.mpr c9
              have c9b1 : ((IntKind.u64.wrap ((IntKind.u64.wrap (a1)) - (IntKind.u64.wrap (a2)))) != 0) = true := bne_iff_ne.mpr c9
              obtain rfl := Option.some.inj H
              go_enter Tryd.func12, Tryd.ntmps12
              go_wp2
              go_ret
              exact ⟨by first | rfl | (simp; done) | (simp [*]; done), by repeat (first | exact Drawn0.refl _ | apply Drawn0.step)⟩
          · rw [if_neg c8] at H
            have c8b0 : ((Int.tmod (IntKind.u64.wrap ((IntKind.u64.wrap (a1)) - (IntKind.u64.wrap (a2)))) (IntKind.u64.wrap (-(IntKind.u64.wrap (a0))))) == 0) = false := beq_eq_false_iff_ne.mpr c8
            have c8b1 : ((Int.tmod (IntKind.u64.wrap ((IntKind.u64.wrap (a1)) - (IntKind.u64.wrap (a2)))) (IntKind.u64.wrap (-(IntKind.u64.wrap (a0))))) != 0) = true := bne_iff_ne.mpr c8
            obtain rfl := Option.some.inj H
            go_enter Tryd.func12, Tryd.ntmps12
            go_wp2
            go_ret
            exact ⟨by first | rfl | (simp; done) | (simp [*]; done), by repeat (first | exact Drawn0.refl _ | apply Drawn0.step)⟩
      · rw [if_neg c6] at H
        have c6b0 : decide (a0 < 0) = false := decide_eq_false c6
        clear c6
        by_cases c10 : (IntKind.u64.wrap (a0)) = 0
        · rw [if_pos c10] at H
          exact absurd H (by simp)
        · rw [if_neg c10] at H
          have c10b0 : ((IntKind.u64.wrap (a0)) == 0) = false := beq_eq_false_iff_ne.mpr c10
          have c10b1 : ((IntKind.u64.wrap (a0)) != 0) = true := bne_iff_ne.mpr c10
          by_cases c11 : (Int.tmod (IntKind.u64.wrap ((IntKind.u64.wrap (a1)) - (IntKind.u64.wrap (a2)))) (IntKind.u64.wrap (a0))) = 0
          · rw [if_pos c11] at H
            have c11b0 : ((Int.tmod (IntKind.u64.wrap ((IntKind.u64.wrap (a1)) - (IntKind.u64.wrap (a2)))) (IntKind.u64.wrap (a0))) == 0) = true := beq_iff_eq.mpr c11
            have c11b1 : ((Int.tmod (IntKind.u64.wrap ((IntKind.u64.wrap (a1)) - (IntKind.u64.wrap (a2)))) (IntKind.u64.wrap (a0))) != 0) = false := bne_eq_false_iff_eq.mpr c11
            clear c11
            by_cases c12 : (IntKind.u64.wrap ((IntKind.u64.wrap (a1)) - (IntKind.u64.wrap (a2)))) = 0
            · rw [if_pos c12] at H
              have c12b0 : ((IntKind.u64.wrap ((IntKind.u64.wrap (a1)) - (IntKind.u64.wrap (a2)))) == 0) = true := beq_iff_eq.mpr c12
              have c12b1 : ((IntKind.u64.wrap ((IntKind.u64.wrap (a1)) - (IntKind.u64.wrap (a2)))) != 0) = false := bne_eq_false_iff_eq.mpr c12
              clear c12
              obtain rfl := Option.some.inj H
              go_enter Tryd.func12, Tryd.ntmps12
              go_wp2
              go_ret
              exact ⟨by first | rfl | (simp; done) | (simp [*]; done), by repeat (first | exact Drawn0.refl _ | apply Drawn0.step)⟩
            · rw [if_neg c12] at H
              have c12b0 : ((IntKind.u64.wrap ((IntKind.u64.wrap (a1)) - (IntKind.u64.wrap (a2)))) == 0) = false := beq_eq_false_iff_ne.mpr c12
              have c12b1 : ((IntKind.u64.wrap ((IntKind.u64.wrap (a1)) - (IntKind.u64.wrap (a2)))) != 0) = true := bne_iff_ne.mpr c12
              obtain rfl := Option.some.inj H
              go_enter Tryd.func12, Tryd.ntmps12
              go_wp2
              go_ret
              exact ⟨by first | rfl | (simp; done) | (simp [*]; done), by repeat (first | exact Drawn0.refl _ | apply Drawn0.step)⟩
          · rw [if_neg c11] at H
            have c11b0 : ((Int.tmod (IntKind.u64.wrap ((IntKind.u64.wrap (a1)) - (IntKind.u64.wrap (a2)))) (IntKind.u64.wrap (a0))) == 0) = false := beq_eq_false_iff_ne.mpr c11
            have c11b1 : ((Int.tmod (IntKind.u64.wrap ((IntKind.u64.wrap (a1)) - (IntKind.u64.wrap (a2)))) (IntKind.u64.wrap (a0))) != 0) = true := bne_iff_ne.mpr c11
            obtain rfl := Option.some.inj H
            go_enter Tryd.func12, Tryd.ntmps12
            go_wp2
            go_ret
            exact ⟨by first | rfl | (simp; done) | (simp [*]; done), by repeat (first | exact Drawn0.refl _ | apply Drawn0.step)⟩
    · rw [if_neg c5] at H
      have c5b0 : decide (a2 < a1) = false := decide_eq_false c5
      clear c5
      by_cases c13 : a0 < 0
      · rw [if_pos c13] at H
        have c13b0 : decide (a0 < 0) = true := decide_eq_true c13
        clear c13
        by_cases c14 : (IntKind.u64.wrap (-(IntKind.u64.wrap (a0)))) = 0
        · rw [if_pos c14] at H
          exact absurd H (by simp)
        · rw [if_neg c14] at H
          have c14b0 : ((IntKind.u64.wrap (-(IntKind.u64.wrap (a0)))) == 0) = false := beq_eq_false_iff_ne.mpr c14
          have c14b1 : ((IntKind.u64.wrap (-(IntKind.u64.wrap (a0)))) != 0) = true := bne_iff_ne.mpr c14
          by_cases c15 : (Int.tmod (IntKind.u64.wrap ((IntKind.u64.wrap (a2)) - (IntKind.u64.wrap (a1)))) (IntKind.u64.wrap (-(IntKind.u64.wrap (a0))))) = 0
          · rw [if_pos c15] at H
            have c15b0 : ((Int.tmod (IntKind.u64.wrap ((IntKind.u64.wrap (a2)) - (IntKind.u64.wrap (a1)))) (IntKind.u64.wrap (-(IntKind.u64.wrap (a0))))) == 0) = true := beq_iff_eq.mpr c15
            have c15b1 : ((Int.tmod (IntKind.u64.wrap ((IntKind.u64.wrap (a2)) - (IntKind.u64.wrap (a1)))) (IntKind.u64.wrap (-(IntKind.u64.wrap (a0))))) != 0) = false := bne_eq_false_iff_eq.mpr c15
            clear c15
            by_cases c16 : (IntKind.u64.wrap ((IntKind.u64.wrap (a2)) - (IntKind.u64.wrap (a1)))) = 0
            · rw [if_pos c16] at H
              have c16b0 : ((IntKind.u64.wrap ((IntKind.u64.wrap (a2)) - (IntKind.u64.wrap (a1)))) == 0) = true := beq_iff_eq.mpr c16
              have c16b1 : ((IntKind.u64.wrap ((IntKind.u64.wrap (a2)) - (IntKind.u64.wrap (a1)))) != 0) = false := bne_eq_false_iff_eq.mpr c16
              clear c16
              obtain rfl := Option.some.inj H
              go_enter Tryd.func12, Tryd.ntmps12
              go_wp2
              go_ret
              exact ⟨by first | rfl | (simp; done) | (simp [*]; done), by repeat (first | exact Drawn0.refl _ | apply Drawn0.step)⟩
            · rw [if_neg c16] at H
              have c16b0 : ((IntKind.u64.wrap ((IntKind.u64.wrap (a2)) - (IntKind.u64.wrap (a1)))) == 0) = false := beq_eq_false_iff_ne.mpr c16
              have c16b1 : ((IntKind.u64.wrap ((IntKind.u64.wrap (a2)) - (IntKind.u64.wrap (a1)))) != 0) = true := bne_iff_ne.mpr c16
              obtain rfl := Option.some.inj H
              go_enter Tryd.func12, Tryd.ntmps12
              go_wp2
              go_ret
              exact ⟨by first | rfl | (simp; done) | (simp [*]; done), by repeat (first | exact Drawn0.refl _ | apply Drawn0.step)⟩
          · rw [if_neg c15] at H
            have c15b0 : ((Int.tmod (IntKind.u64.wrap ((IntKind.u64.wrap (a2)) - (IntKind.u64.wrap (a1)))) (IntKind.u64.wrap (-(IntKind.u64.wrap (a0))))) == 0) = false := beq_eq_false_iff_ne.mpr c15
            have c15b1 : ((Int.tmod (IntKind.u64.wrap ((IntKind.u64.wrap (a2)) - (IntKind.u64.wrap (a1)))) (IntKind.u64.wrap (-(IntKind.u64.wrap (a0))))) != 0) = true := bne_iff_ne.mpr c15
            obtain rfl := Option.some.inj H
            go_enter Tryd.func12, Tryd.ntmps12
            go_wp2
            go_ret
            exact ⟨by first | rfl | (simp; done) | (simp [*]; done), by repeat (first | exact Drawn0.refl _ | apply Drawn0.step)⟩
      · rw [if_neg c13] at H
        have c13b0 : decide (a0 < 0) = false := decide_eq_false c13
        clear c13
        by_cases c17 : (IntKind.u64.wrap (a0)) = 0
        · rw [if_pos c17] at H
          exact absurd H (by simp)
        · rw [if_neg c17] at H
          have c17b0 : ((IntKind.u64.wrap (a0)) == 0) = false := beq_eq_false_iff_ne.mpr c17
          have c17b1 : ((IntKind.u64.wrap (a0)) != 0) = true := bne_iff_ne.mpr c17
          by_cases c18 : (Int.tmod (IntKind.u64.wrap ((IntKind.u64.wrap (a2)) - (IntKind.u64.wrap (a1)))) (IntKind.u64.wrap (a0))) = 0
          · rw [if_pos c18] at H
            have c18b0 : ((Int.tmod (IntKind.u64.wrap ((IntKind.u64.wrap (a2)) - (IntKind.u64.wrap (a1)))) (IntKind.u64.wrap (a0))) == 0) = true := beq_iff_eq.mpr c18
            have c18b1 : ((Int.tmod (IntKind.u64.wrap ((IntKind.u64.wrap (a2)) - (IntKind.u64.wrap (a1)))) (IntKind.u64.wrap (a0))) != 0) = false := bne_eq_false_iff_eq.mpr c18
            clear c18
            by_cases c19 : (IntKind.u64.wrap ((IntKind.u64.wrap (a2)) - (IntKind.u64.wrap (a1)))) = 0
            · rw [if_pos c19] at H
              have c19b0 : ((IntKind.u64.wrap ((IntKind.u64.wrap (a2)) - (IntKind.u64.wrap (a1)))) == 0) = true := beq_iff_eq.mpr c19
              have c19b1 : ((IntKind.u64.wrap ((IntKind.u64.wrap (a2)) - (IntKind.u64.wrap (a1)))) != 0) = false := bne_eq_false_iff_eq.mpr c19
              clear c19
              obtain rfl := Option.some.inj H
              go_enter Tryd.func12, Tryd.ntmps12
              go_wp2
              go_ret
              exact ⟨by first | rfl | (simp; done) | (simp [*]; done), by repeat (first | exact Drawn0.refl _ | apply Drawn0.step)⟩
            · rw [if_neg c19] at H
              have c19b0 : ((IntKind.u64.wrap ((IntKind.u64.wrap (a2)) - (IntKind.u64.wrap (a1)))) == 0) = false := beq_eq_false_iff_ne.mpr c19
              have c19b1 : ((IntKind.u64.wrap ((IntKind.u64.wrap (a2)) - (IntKind.u64.wrap (a1)))) != 0) = true := bne_iff_ne.mpr c19
              obtain rfl := Option.some.inj H
              go_enter Tryd.func12, Tryd.ntmps12
              go_wp2
              go_ret
              exact ⟨by first | rfl | (simp; done) | (simp [*]; done), by repeat (first | exact Drawn0.refl _ | apply Drawn0.step)⟩
          · rw [if_neg c18] at H
            have c18b0 : ((Int.tmod (IntKind.u64.wrap ((IntKind.u64.wrap (a2)) - (IntKind.u64.wrap (a1)))) (IntKind.u64.wrap (a0))) == 0) = false := beq_eq_false_iff_ne.mpr c18
            have c18b1 : ((Int.tmod (IntKind.u64.wrap ((IntKind.u64.wrap (a2)) - (IntKind.u64.wrap (a1)))) (IntKind.u64.wrap (a0))) != 0) = true := bne_iff_ne.mpr c18
            obtain rfl := Option.some.inj H
            go_enter Tryd.func12, Tryd.ntmps12
            go_wp2
            go_ret
            exact ⟨by first | rfl | (simp; done) | (simp [*]; done), by repeat (first | exact Drawn0.refl _ | apply Drawn0.step)⟩

end Go.Proofs.YtgdolholioccdaaDoor.PX
