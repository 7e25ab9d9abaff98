/-
  Contracts of the functions that the law reaches, and what they compute, on lists (part H). No condition.
-/
import Derived.Test.YtgdolholioccdaaDoorMG
import Derived.StillTailTactics
import Derived.IntWalk
set_option linter.unusedVariables false
set_option linter.unusedSimpArgs false
namespace Go.Proofs.YtgdolholioccdaaDoor.PX
open Go.RowKit Go.Proofs.YtgdolholioccdaaDoorW.PrintWords Go.Proofs.YtgdolholioccdaaDoorW.PrintLast Go.Proofs.YtgdolholioccdaaDoorW.PrintMore
set_option maxHeartbeats 8000000 in
set_option maxRecDepth 100000 in
theorem anb_Match_same (k : Nat) (a0 : Int) (a1 : Int) (a2 : Int) (r : Bool) (w : World) (h : anb_Match.f k a0 a1 a2 = some r) :
    Calls Tryd.prog 11 #[.int .i64 a0, .int .i64 a1, .int .i64 a2] w fun e w' => e = .returned (.bool r) ∧ w' = w := by
  have H : (if a0 = 0 then (anb_Match.j0 k a0 a1 a2 true) else (anb_Match.j0 k a0 a1 a2 (a2 == a1))) = some r := h
  clear h
  have HC4 := Aside0.mk H
  clear H
  go_enter Tryd.func11, Tryd.ntmps11
  go_upto_region 1 with (fail)
  go_cut [9] (fun v9 wc => ∃ (kq : Nat) (x9_3 : Bool), v9 = .bool x9_3 ∧ Aside0 (anb_Match.j0 kq a0 a1 a2 x9_3 = some r) ∧ Aside0 (kq ≤ k) ∧ wc = w)
  case first =>
    have H := HC4.out
    clear HC4
    by_cases c5 : a0 = 0
    · rw [if_pos c5] at H
      have c5b0 : (a0 == 0) = true := beq_iff_eq.mpr c5
      have c5b1 : (a0 != 0) = false := bne_eq_false_iff_eq.mpr c5
      clear c5
      (first | rw [c5b0] | (simp only [i64_w, i32_w]; rw [c5b0]) | skip)
      have H' := Aside0.mk H
      clear H
      go_wp2
      go_meet
      case rel => exact ⟨_, (true), (by first | rfl | (simp; done) | (simp [*]; done)), H', ⟨by first | omega | exact Nat.le_refl _⟩, rfl⟩
    · rw [if_neg c5] at H
      have c5b0 : (a0 == 0) = false := beq_eq_false_iff_ne.mpr c5
      have c5b1 : (a0 != 0) = true := bne_iff_ne.mpr c5
      (first | rw [c5b0] | (simp only [i64_w, i32_w]; rw [c5b0]) | skip)
      have H' := Aside0.mk H
      clear H
      go_wp2
      go_meet
      case rel => exact ⟨_, ((a2 == a1)), (by first | rfl | (simp; done) | (simp [*]; done)), H', ⟨by first | omega | exact Nat.le_refl _⟩, rfl⟩
  case rest =>
    clear HC4
    try clear c1
    try clear p2
    try clear c5
    try clear c5b0
    try clear c5b1
    obtain ⟨kq, x9_3, rfl, HA, HJ3, rfl⟩ := hcut
    cases kq with
    | zero => exact absurd HA.out (by simp [anb_Match.j0])
    | succ kj3 =>
      have H := HA.out
      clear HA
      simp only [anb_Match.j0] at H
      by_cases c6 : x9_3 = true
      · subst c6
        have H1 : (some (a2 == a1)) = some r := by rw [if_pos rfl] at H; exact H
        clear H
        have H := H1
        clear H1
        obtain rfl := Option.some.inj H
        go_wp2
        go_ret
        exact ⟨by first | rfl | (simp; done) | (simp [*]; done), rfl⟩
      · replace c6 := Bool.eq_false_iff.mpr c6
        subst c6
        have H1 : (if ((decide (a2 > a1)) != (decide (a0 > 0))) = true then (some false) else (if a0 < 0 then (if a2 < a1 then (if (IntKind.u64.wrap (-(IntKind.u64.wrap (a0)))) = 0 then (none) else (some ((Int.tmod (IntKind.u64.wrap (-(IntKind.u64.wrap ((IntKind.u64.wrap (a2)) - (IntKind.u64.wrap (a1)))))) (IntKind.u64.wrap (-(IntKind.u64.wrap (a0))))) == 0))) else (if (IntKind.u64.wrap (-(IntKind.u64.wrap (a0)))) = 0 then (none) else (some ((Int.tmod (IntKind.u64.wrap ((IntKind.u64.wrap (a2)) - (IntKind.u64.wrap (a1)))) (IntKind.u64.wrap (-(IntKind.u64.wrap (a0))))) == 0)))) else (if a2 < a1 then (if (IntKind.u64.wrap (a0)) = 0 then (none) else (some ((Int.tmod (IntKind.u64.wrap (-(IntKind.u64.wrap ((IntKind.u64.wrap (a2)) - (IntKind.u64.wrap (a1)))))) (IntKind.u64.wrap (a0))) == 0))) else (if (IntKind.u64.wrap (a0)) = 0 then (none) else (some ((Int.tmod (IntKind.u64.wrap ((IntKind.u64.wrap (a2)) - (IntKind.u64.wrap (a1)))) (IntKind.u64.wrap (a0))) == 0)))))) = some r := by rw [if_neg (show ¬ (false = true) by decide)] at H; exact H
        clear H
        have H := H1
        clear H1
        by_cases c7 : ((decide (a2 > a1)) != (decide (a0 > 0))) = true
        · rw [if_pos c7] at H
          have c7b0 : ((decide (a2 > a1)) != (decide (a0 > 0))) = true := c7
          (try (have c7b1 : decide ((decide (a2 > a1)) = (decide (a0 > 0))) = false := by simpa using c7))
          (try (have c7b2 : ((decide (a2 > a1)) == (decide (a0 > 0))) = false := by simpa using c7))
          (try (have c7b3 : ¬ ((decide (a2 > a1)) = (decide (a0 > 0))) := by simpa using c7))
          clear c7
          obtain rfl := Option.some.inj H
          go_wp2
          go_ret
          exact ⟨by first | rfl | (simp; done) | (simp [*]; done), rfl⟩
        · rw [if_neg c7] at H
          have c7b0 : ((decide (a2 > a1)) != (decide (a0 > 0))) = false := by simpa using c7
          (try (have c7b1 : decide ((decide (a2 > a1)) = (decide (a0 > 0))) = true := by simpa using c7))
          (try (have c7b2 : ((decide (a2 > a1)) == (decide (a0 > 0))) = true := by simpa using c7))
          clear c7
          by_cases c8 : a0 < 0
          · rw [if_pos c8] at H
            have c8b0 : decide (a0 < 0) = true := decide_eq_true c8
            clear c8
            by_cases c9 : a2 < a1
            · rw [if_pos c9] at H
              have c9b0 : decide (a2 < a1) = true := decide_eq_true c9
              clear c9
              by_cases c10 : (IntKind.u64.wrap (-(IntKind.u64.wrap (a0)))) = 0
              · rw [if_pos c10] at H
                exact absurd H (by simp)
              · rw [if_neg c10] at H
                have c10b0 : ((IntKind.u64.wrap (-(IntKind.u64.wrap (a0)))) == 0) = false := beq_eq_false_iff_ne.mpr c10
                have c10b1 : ((IntKind.u64.wrap (-(IntKind.u64.wrap (a0)))) != 0) = true := bne_iff_ne.mpr c10
                obtain rfl := Option.some.inj H
                go_wp2
                go_ret
                exact ⟨by first | rfl | (simp; done) | (simp [*]; done), rfl⟩
            · rw [if_neg c9] at H
              have c9b0 : decide (a2 < a1) = false := decide_eq_false c9
              clear c9
              by_cases c11 : (IntKind.u64.wrap (-(IntKind.u64.wrap (a0)))) = 0
              · rw [if_pos c11] at H
                exact absurd H (by simp)
              · rw [if_neg c11] at H
                have c11b0 : ((IntKind.u64.wrap (-(IntKind.u64.wrap (a0)))) == 0) = false := beq_eq_false_iff_ne.mpr c11
                have c11b1 : ((IntKind.u64.wrap (-(IntKind.u64.wrap (a0)))) != 0) = true := bne_iff_ne.mpr c11
                obtain rfl := Option.some.inj H
                go_wp2
                go_ret
                exact ⟨by first | rfl | (simp; done) | (simp [*]; done), rfl⟩
          · rw [if_neg c8] at H
            have c8b0 : decide (a0 < 0) = false := decide_eq_false c8
            clear c8
            by_cases c12 : a2 < a1
            · rw [if_pos c12] at H
              have c12b0 : decide (a2 < a1) = true := decide_eq_true c12
              clear c12
              by_cases c13 : (IntKind.u64.wrap (a0)) = 0
              · rw [if_pos c13] at H
                exact absurd H (by simp)
              · rw [if_neg c13] at H
                have c13b0 : ((IntKind.u64.wrap (a0)) == 0) = false := beq_eq_false_iff_ne.mpr c13
                have c13b1 : ((IntKind.u64.wrap (a0)) != 0) = true := bne_iff_ne.mpr c13
                obtain rfl := Option.some.inj H
                go_wp2
                go_ret
                exact ⟨by first | rfl | (simp; done) | (simp [*]; done), rfl⟩
            · rw [if_neg c12] at H
              have c12b0 : decide (a2 < a1) = false := decide_eq_false c12
              clear c12
              by_cases c14 : (IntKind.u64.wrap (a0)) = 0
              · rw [if_pos c14] at H
                exact absurd H (by simp)
              · rw [if_neg c14] at H
                have c14b0 : ((IntKind.u64.wrap (a0)) == 0) = false := beq_eq_false_iff_ne.mpr c14
                have c14b1 : ((IntKind.u64.wrap (a0)) != 0) = true := bne_iff_ne.mpr c14
                obtain rfl := Option.some.inj H
                go_wp2
                go_ret
                exact ⟨by first | rfl | (simp; done) | (simp [*]; done), rfl⟩
theorem mat_s (a b n : Int) (ha0 : -9223372036854775808 ≤ a) (ha1 : a ≤ 9223372036854775807) (hb0 : -9223372036854775808 ≤ b) (hb1 : b ≤ 9223372036854775807) (hn0 : -9223372036854775808 ≤ n) (hn1 : n ≤ 9223372036854775807) (w : World) :
    Calls Tryd.prog 11 #[.int .i64 a, .int .i64 b, .int .i64 n] w fun e w' => e = .returned (.bool (matB a b n)) ∧ w' = w :=
  anb_Match_same 2 a b n _ w (mat_f a b n ha0 ha1 hb0 hb1 hn0 hn1)

theorem tabP_drew {w : World} (h : TabP w) : TabP w.drew := tabP_below h (below_drew (Below.refl _ _))
theorem mulr {a x : Int} (h0 : -1000 ≤ a) (h1 : a ≤ 1000) (h2 : 0 ≤ x) (h3 : x ≤ 1000) : -1000000 ≤ a * x ∧ a * x ≤ 1000000 := by
  have e1 := Int.mul_le_mul_of_nonneg_right h0 h2
  have e2 := Int.mul_le_mul_of_nonneg_right h1 h2
  constructor <;> omega
theorem mt1 {a b x : Int} (h2 : 0 ≤ x) : matB a b (a * x + b) = true := by
  unfold matB
  have e : a * x + b - b = a * x := by omega
  by_cases h : a = 0
  · subst h; simp
  · rw [if_neg h, e, decide_eq_true (Int.dvd_mul_right a x), Bool.true_and]
    by_cases hx : x = 0
    · subst hx; simp
    · by_cases ha : 0 < a
      · have := Int.mul_pos ha (show 0 < x by omega)
        rw [decide_eq_true (show b < a * x + b by omega), decide_eq_true ha]; simp
      · have := Int.mul_neg_of_neg_of_pos (show a < 0 by omega) (show 0 < x by omega)
        rw [decide_eq_false (show ¬ b < a * x + b by omega), decide_eq_false ha]; simp
theorem mt2 {a b off : Int} (ha : 0 < a) (h2 : 0 ≤ off) : matB a b (b - 1 - off) = false := by
  unfold matB
  rw [if_neg (by omega), beq_eq_false_iff_ne.2 (show b - 1 - off ≠ b by omega), decide_eq_false (show ¬ b < b - 1 - off by omega), decide_eq_true ha]
  simp
theorem mt3 {a b off : Int} (ha : a < 0) (h2 : 0 ≤ off) : matB a b (b + 1 + off) = false := by
  unfold matB
  rw [if_neg (by omega), beq_eq_false_iff_ne.2 (show b + 1 + off ≠ b by omega), decide_eq_true (show b < b + 1 + off by omega), decide_eq_false (show ¬ 0 < a by omega)]
  simp
theorem dvd_mid {a b x off : Int} : (a ∣ a * x + b + off - b) ↔ a ∣ off := by
  rw [show a * x + b + off - b = a * x + off by omega]
  exact Int.dvd_add_right (Int.dvd_mul_right a x)
theorem mt4 {a b x off : Int} (ha : 2 ≤ a) (hx : 0 ≤ x) (h2 : 0 ≤ off) : matB a b (a * x + b + off) = decide (a ∣ off) := by
  unfold matB
  have h := Int.mul_nonneg (show 0 ≤ a by omega) hx
  rw [if_neg (by omega), show decide (a ∣ a * x + b + off - b) = decide (a ∣ off) from decide_eq_decide.2 dvd_mid]
  by_cases h0 : a * x + off = 0
  · rw [beq_iff_eq.2 (show a * x + b + off = b by omega)]; simp
  · rw [decide_eq_true (show b < a * x + b + off by omega), decide_eq_true (show 0 < a by omega)]; simp
theorem mt5 {a b x off : Int} (ha : a ≤ -2) (h2 : 0 ≤ off) : matB a b (a * x + b + off) = (decide (a ∣ off) && decide (a * x + off ≤ 0)) := by
  unfold matB
  rw [if_neg (by omega), show decide (a ∣ a * x + b + off - b) = decide (a ∣ off) from decide_eq_decide.2 dvd_mid, decide_eq_false (show ¬ 0 < a by omega)]
  by_cases h0 : a * x + off = 0
  · rw [beq_iff_eq.2 (show a * x + b + off = b by omega), decide_eq_true (show a * x + off ≤ 0 by omega)]; simp
  · rw [beq_eq_false_iff_ne.2 (show a * x + b + off ≠ b by omega)]
    by_cases h1 : a * x + off ≤ 0
    · rw [decide_eq_false (show ¬ b < a * x + b + off by omega), decide_eq_true h1]; simp
    · rw [decide_eq_true (show b < a * x + b + off by omega), decide_eq_false h1]; simp
theorem mod_dvd_t {a off : Int} (h : a ∣ off) : (off % a == 0) = true := beq_iff_eq.2 (Int.emod_eq_zero_of_dvd h)
theorem mod_dvd_f {a off : Int} (h : ¬ a ∣ off) : (off % a == 0) = false := beq_eq_false_iff_ne.2 (fun e => h (Int.dvd_of_emod_eq_zero e))
theorem mod_dvd_nt {a off : Int} (h : a ∣ off) : (off % (-a) == 0) = true := mod_dvd_t (Int.neg_dvd.2 h)
theorem mod_dvd_nf {a off : Int} (h : ¬ a ∣ off) : (off % (-a) == 0) = false := mod_dvd_f (fun e => h (Int.neg_dvd.1 e))
set_option maxHeartbeats 8000000 in
set_option maxRecDepth 100000 in
theorem lawMatch_g0 (a b x off : Int) (h0 : a < -1000) (w : World) (ht : TabP w) :
    Calls Tryd.prog 5 #[.int .i64 a, .int .i64 b, .int .i64 x, .int .i64 off] w fun e w' => e = .returned (.bool true) ∧ Below w.heap.size w w' := by
  have HT := Aside0.mk ht
  have HB := Aside0.mk (Below.refl w.heap.size w)
  have tok1 : True := trivial
  have tok2 : True := trivial
  have tok3 : True := trivial
  clear ht
  have d0 : decide (a < -1000) = true := decide_eq_true h0
  go_enter Tryd.func5, Tryd.ntmps5
  go_wp2_with (go_at_call 7; refine (awake_c _ HT.out).mono ?_; rintro e w1 ⟨rfl, hb⟩; have h := HB.out.trans (hb.mono HB.out.size); have h2 := tabP_below HT.out hb; clear HB HT; have HB := Aside0.mk h; have HT := Aside0.mk h2; clear hb h h2)
  go_ret
  exact ⟨rfl, HB.out⟩
set_option maxHeartbeats 8000000 in
set_option maxRecDepth 100000 in
theorem lawMatch_g1 (a b x off : Int) (h0 : ¬ a < -1000) (h1 : 1000 < a) (w : World) (ht : TabP w) :
    Calls Tryd.prog 5 #[.int .i64 a, .int .i64 b, .int .i64 x, .int .i64 off] w fun e w' => e = .returned (.bool true) ∧ Below w.heap.size w w' := by
  have HT := Aside0.mk ht
  have HB := Aside0.mk (Below.refl w.heap.size w)
  have tok1 : True := trivial
  have tok2 : True := trivial
  have tok3 : True := trivial
  clear ht
  have d0 : decide (a < -1000) = false := decide_eq_false h0
  have d1 : decide (1000 < a) = true := decide_eq_true h1
  go_enter Tryd.func5, Tryd.ntmps5
  go_wp2_with (go_at_call 7; refine (awake_c _ HT.out).mono ?_; rintro e w1 ⟨rfl, hb⟩; have h := HB.out.trans (hb.mono HB.out.size); have h2 := tabP_below HT.out hb; clear HB HT; have HB := Aside0.mk h; have HT := Aside0.mk h2; clear hb h h2)
  go_ret
  exact ⟨rfl, HB.out⟩
set_option maxHeartbeats 8000000 in
set_option maxRecDepth 100000 in
theorem lawMatch_g2 (a b x off : Int) (h0 : ¬ a < -1000) (h1 : ¬ 1000 < a) (h2 : b < -1000) (w : World) (ht : TabP w) :
    Calls Tryd.prog 5 #[.int .i64 a, .int .i64 b, .int .i64 x, .int .i64 off] w fun e w' => e = .returned (.bool true) ∧ Below w.heap.size w w' := by
  have HT := Aside0.mk ht
  have HB := Aside0.mk (Below.refl w.heap.size w)
  have tok1 : True := trivial
  have tok2 : True := trivial
  have tok3 : True := trivial
  clear ht
  have d0 : decide (a < -1000) = false := decide_eq_false h0
  have d1 : decide (1000 < a) = false := decide_eq_false h1
  have d2 : decide (b < -1000) = true := decide_eq_true h2
  go_enter Tryd.func5, Tryd.ntmps5
  go_wp2_with (go_at_call 7; refine (awake_c _ HT.out).mono ?_; rintro e w1 ⟨rfl, hb⟩; have h := HB.out.trans (hb.mono HB.out.size); have h2 := tabP_below HT.out hb; clear HB HT; have HB := Aside0.mk h; have HT := Aside0.mk h2; clear hb h h2)
  go_ret
  exact ⟨rfl, HB.out⟩
set_option maxHeartbeats 8000000 in
set_option maxRecDepth 100000 in
theorem lawMatch_g3 (a b x off : Int) (h0 : ¬ a < -1000) (h1 : ¬ 1000 < a) (h2 : ¬ b < -1000) (h3 : 1000 < b) (w : World) (ht : TabP w) :
    Calls Tryd.prog 5 #[.int .i64 a, .int .i64 b, .int .i64 x, .int .i64 off] w fun e w' => e = .returned (.bool true) ∧ Below w.heap.size w w' := by
  have HT := Aside0.mk ht
  have HB := Aside0.mk (Below.refl w.heap.size w)
  have tok1 : True := trivial
  have tok2 : True := trivial
  have tok3 : True := trivial
  clear ht
  have d0 : decide (a < -1000) = false := decide_eq_false h0
  have d1 : decide (1000 < a) = false := decide_eq_false h1
  have d2 : decide (b < -1000) = false := decide_eq_false h2
  have d3 : decide (1000 < b) = true := decide_eq_true h3
  go_enter Tryd.func5, Tryd.ntmps5
  go_wp2_with (go_at_call 7; refine (awake_c _ HT.out).mono ?_; rintro e w1 ⟨rfl, hb⟩; have h := HB.out.trans (hb.mono HB.out.size); have h2 := tabP_below HT.out hb; clear HB HT; have HB := Aside0.mk h; have HT := Aside0.mk h2; clear hb h h2)
  go_ret
  exact ⟨rfl, HB.out⟩
set_option maxHeartbeats 8000000 in
set_option maxRecDepth 100000 in
theorem lawMatch_g4 (a b x off : Int) (h0 : ¬ a < -1000) (h1 : ¬ 1000 < a) (h2 : ¬ b < -1000) (h3 : ¬ 1000 < b) (h4 : x < 0) (w : World) (ht : TabP w) :
    Calls Tryd.prog 5 #[.int .i64 a, .int .i64 b, .int .i64 x, .int .i64 off] w fun e w' => e = .returned (.bool true) ∧ Below w.heap.size w w' := by
  have HT := Aside0.mk ht
  have HB := Aside0.mk (Below.refl w.heap.size w)
  have tok1 : True := trivial
  have tok2 : True := trivial
  have tok3 : True := trivial
  clear ht
  have d0 : decide (a < -1000) = false := decide_eq_false h0
  have d1 : decide (1000 < a) = false := decide_eq_false h1
  have d2 : decide (b < -1000) = false := decide_eq_false h2
  have d3 : decide (1000 < b) = false := decide_eq_false h3
  have d4 : decide (x < 0) = true := decide_eq_true h4
  go_enter Tryd.func5, Tryd.ntmps5
  go_wp2_with (go_at_call 7; refine (awake_c _ HT.out).mono ?_; rintro e w1 ⟨rfl, hb⟩; have h := HB.out.trans (hb.mono HB.out.size); have h2 := tabP_below HT.out hb; clear HB HT; have HB := Aside0.mk h; have HT := Aside0.mk h2; clear hb h h2)
  go_ret
  exact ⟨rfl, HB.out⟩
set_option maxHeartbeats 8000000 in
set_option maxRecDepth 100000 in
theorem lawMatch_g5 (a b x off : Int) (h0 : ¬ a < -1000) (h1 : ¬ 1000 < a) (h2 : ¬ b < -1000) (h3 : ¬ 1000 < b) (h4 : ¬ x < 0) (h5 : 1000 < x) (w : World) (ht : TabP w) :
    Calls Tryd.prog 5 #[.int .i64 a, .int .i64 b, .int .i64 x, .int .i64 off] w fun e w' => e = .returned (.bool true) ∧ Below w.heap.size w w' := by
  have HT := Aside0.mk ht
  have HB := Aside0.mk (Below.refl w.heap.size w)
  have tok1 : True := trivial
  have tok2 : True := trivial
  have tok3 : True := trivial
  clear ht
  have d0 : decide (a < -1000) = false := decide_eq_false h0
  have d1 : decide (1000 < a) = false := decide_eq_false h1
  have d2 : decide (b < -1000) = false := decide_eq_false h2
  have d3 : decide (1000 < b) = false := decide_eq_false h3
  have d4 : decide (x < 0) = false := decide_eq_false h4
  have d5 : decide (1000 < x) = true := decide_eq_true h5
  go_enter Tryd.func5, Tryd.ntmps5
  go_wp2_with (go_at_call 7; refine (awake_c _ HT.out).mono ?_; rintro e w1 ⟨rfl, hb⟩; have h := HB.out.trans (hb.mono HB.out.size); have h2 := tabP_below HT.out hb; clear HB HT; have HB := Aside0.mk h; have HT := Aside0.mk h2; clear hb h h2)
  go_ret
  exact ⟨rfl, HB.out⟩
set_option maxHeartbeats 8000000 in
set_option maxRecDepth 100000 in
theorem lawMatch_g6 (a b x off : Int) (h0 : ¬ a < -1000) (h1 : ¬ 1000 < a) (h2 : ¬ b < -1000) (h3 : ¬ 1000 < b) (h4 : ¬ x < 0) (h5 : ¬ 1000 < x) (h6 : off < 0) (w : World) (ht : TabP w) :
    Calls Tryd.prog 5 #[.int .i64 a, .int .i64 b, .int .i64 x, .int .i64 off] w fun e w' => e = .returned (.bool true) ∧ Below w.heap.size w w' := by
  have HT := Aside0.mk ht
  have HB := Aside0.mk (Below.refl w.heap.size w)
  have tok1 : True := trivial
  have tok2 : True := trivial
  have tok3 : True := trivial
  clear ht
  have d0 : decide (a < -1000) = false := decide_eq_false h0
  have d1 : decide (1000 < a) = false := decide_eq_false h1
  have d2 : decide (b < -1000) = false := decide_eq_false h2
  have d3 : decide (1000 < b) = false := decide_eq_false h3
  have d4 : decide (x < 0) = false := decide_eq_false h4
  have d5 : decide (1000 < x) = false := decide_eq_false h5
  have d6 : decide (off < 0) = true := decide_eq_true h6
  go_enter Tryd.func5, Tryd.ntmps5
  go_wp2_with (go_at_call 7; refine (awake_c _ HT.out).mono ?_; rintro e w1 ⟨rfl, hb⟩; have h := HB.out.trans (hb.mono HB.out.size); have h2 := tabP_below HT.out hb; clear HB HT; have HB := Aside0.mk h; have HT := Aside0.mk h2; clear hb h h2)
  go_ret
  exact ⟨rfl, HB.out⟩
set_option maxHeartbeats 8000000 in
set_option maxRecDepth 100000 in
theorem lawMatch_g7 (a b x off : Int) (h0 : ¬ a < -1000) (h1 : ¬ 1000 < a) (h2 : ¬ b < -1000) (h3 : ¬ 1000 < b) (h4 : ¬ x < 0) (h5 : ¬ 1000 < x) (h6 : ¬ off < 0) (h7 : 1000 < off) (w : World) (ht : TabP w) :
    Calls Tryd.prog 5 #[.int .i64 a, .int .i64 b, .int .i64 x, .int .i64 off] w fun e w' => e = .returned (.bool true) ∧ Below w.heap.size w w' := by
  have HT := Aside0.mk ht
  have HB := Aside0.mk (Below.refl w.heap.size w)
  have tok1 : True := trivial
  have tok2 : True := trivial
  have tok3 : True := trivial
  clear ht
  have d0 : decide (a < -1000) = false := decide_eq_false h0
  have d1 : decide (1000 < a) = false := decide_eq_false h1
  have d2 : decide (b < -1000) = false := decide_eq_false h2
  have d3 : decide (1000 < b) = false := decide_eq_false h3
  have d4 : decide (x < 0) = false := decide_eq_false h4
  have d5 : decide (1000 < x) = false := decide_eq_false h5
  have d6 : decide (off < 0) = false := decide_eq_false h6
  have d7 : decide (1000 < off) = true := decide_eq_true h7
  go_enter Tryd.func5, Tryd.ntmps5
  go_wp2_with (go_at_call 7; refine (awake_c _ HT.out).mono ?_; rintro e w1 ⟨rfl, hb⟩; have h := HB.out.trans (hb.mono HB.out.size); have h2 := tabP_below HT.out hb; clear HB HT; have HB := Aside0.mk h; have HT := Aside0.mk h2; clear hb h h2)
  go_ret
  exact ⟨rfl, HB.out⟩
set_option maxHeartbeats 8000000 in
set_option maxRecDepth 100000 in
theorem lawMatch_z (a b x off : Int) (ha0 : -1000 ≤ a) (ha1 : a ≤ 1000) (hb0 : -1000 ≤ b) (hb1 : b ≤ 1000) (hx0 : 0 ≤ x) (hx1 : x ≤ 1000) (ho0 : 0 ≤ off) (ho1 : off ≤ 1000) (hs : a = 0) (w : World) (ht : TabP w) :
    Calls Tryd.prog 5 #[.int .i64 a, .int .i64 b, .int .i64 x, .int .i64 off] w fun e w' => e = .returned (.bool true) ∧ Below w.heap.size w w' := by
  have HT := Aside0.mk ht
  have HB := Aside0.mk (Below.refl w.heap.size w)
  have tok1 : True := trivial
  have tok2 : True := trivial
  have tok3 : True := trivial
  clear ht
  have d0 : decide (a < -1000) = false := decide_eq_false (by omega)
  have d1 : decide (1000 < a) = false := decide_eq_false (by omega)
  have d2 : decide (b < -1000) = false := decide_eq_false (by omega)
  have d3 : decide (1000 < b) = false := decide_eq_false (by omega)
  have d4 : decide (x < 0) = false := decide_eq_false (by omega)
  have d5 : decide (1000 < x) = false := decide_eq_false (by omega)
  have d6 : decide (off < 0) = false := decide_eq_false (by omega)
  have d7 : decide (1000 < off) = false := decide_eq_false (by omega)
  obtain ⟨p0, p1⟩ := mulr ha0 ha1 hx0 hx1
  have M1 := Aside0.mk (mt1 (a := a) (b := b) hx0)
  have e1 : decide (0 < a) = false := decide_eq_false (by omega)
  have e2 : decide (a < 0) = false := decide_eq_false (by omega)
  have e3 : decide (max a (-a) < 2) = true := decide_eq_true (by omega)
  clear hs
  go_enter Tryd.func5, Tryd.ntmps5
  go_wp2_with (first
    | (go_at_call 11; have _t := tok1; refine (mat_c a b (a * x + b) (by omega) (by omega) (by omega) (by omega) (by omega) (by omega) _).mono ?_; rw [M1.out]; rintro e w1 ⟨rfl, hb⟩; clear tok1; have h := HB.out.trans (hb.mono HB.out.size); have h2 := tabP_below HT.out hb; clear HB HT; have HB := Aside0.mk h; have HT := Aside0.mk h2; clear hb h h2)
    | (go_at_call 7; refine (awake_c _ HT.out).mono ?_; rintro e w1 ⟨rfl, hb⟩; have h := HB.out.trans (hb.mono HB.out.size); have h2 := tabP_below HT.out hb; clear HB HT; have HB := Aside0.mk h; have HT := Aside0.mk h2; clear hb h h2))
  go_ret
  exact ⟨rfl, HB.out⟩
set_option maxHeartbeats 8000000 in
set_option maxRecDepth 100000 in
theorem lawMatch_p (a b x off : Int) (ha0 : -1000 ≤ a) (ha1 : a ≤ 1000) (hb0 : -1000 ≤ b) (hb1 : b ≤ 1000) (hx0 : 0 ≤ x) (hx1 : x ≤ 1000) (ho0 : 0 ≤ off) (ho1 : off ≤ 1000) (hs : a = 1) (w : World) (ht : TabP w) :
    Calls Tryd.prog 5 #[.int .i64 a, .int .i64 b, .int .i64 x, .int .i64 off] w fun e w' => e = .returned (.bool true) ∧ Below w.heap.size w w' := by
  have HT := Aside0.mk ht
  have HB := Aside0.mk (Below.refl w.heap.size w)
  have tok1 : True := trivial
  have tok2 : True := trivial
  have tok3 : True := trivial
  clear ht
  have d0 : decide (a < -1000) = false := decide_eq_false (by omega)
  have d1 : decide (1000 < a) = false := decide_eq_false (by omega)
  have d2 : decide (b < -1000) = false := decide_eq_false (by omega)
  have d3 : decide (1000 < b) = false := decide_eq_false (by omega)
  have d4 : decide (x < 0) = false := decide_eq_false (by omega)
  have d5 : decide (1000 < x) = false := decide_eq_false (by omega)
  have d6 : decide (off < 0) = false := decide_eq_false (by omega)
  have d7 : decide (1000 < off) = false := decide_eq_false (by omega)
  obtain ⟨p0, p1⟩ := mulr ha0 ha1 hx0 hx1
  have M1 := Aside0.mk (mt1 (a := a) (b := b) hx0)
  have e1 : decide (0 < a) = true := decide_eq_true (by omega)
  have e2 : decide (a < 0) = false := decide_eq_false (by omega)
  have M2 := Aside0.mk (mt2 (a := a) (b := b) (off := off) (by omega) ho0)
  have e3 : decide (max a (-a) < 2) = true := decide_eq_true (by omega)
  clear hs
  go_enter Tryd.func5, Tryd.ntmps5
  go_wp2_with (first
    | (go_at_call 11; have _t := tok1; refine (mat_c a b (a * x + b) (by omega) (by omega) (by omega) (by omega) (by omega) (by omega) _).mono ?_; rw [M1.out]; rintro e w1 ⟨rfl, hb⟩; clear tok1; have h := HB.out.trans (hb.mono HB.out.size); have h2 := tabP_below HT.out hb; clear HB HT; have HB := Aside0.mk h; have HT := Aside0.mk h2; clear hb h h2)
    | (go_at_call 11; have _t := tok2; refine (mat_c a b (b - 1 - off) (by omega) (by omega) (by omega) (by omega) (by omega) (by omega) _).mono ?_; rw [M2.out]; rintro e w1 ⟨rfl, hb⟩; clear tok2; have h := HB.out.trans (hb.mono HB.out.size); have h2 := tabP_below HT.out hb; clear HB HT; have HB := Aside0.mk h; have HT := Aside0.mk h2; clear hb h h2)
    | (go_at_call 7; refine (awake_c _ HT.out).mono ?_; rintro e w1 ⟨rfl, hb⟩; have h := HB.out.trans (hb.mono HB.out.size); have h2 := tabP_below HT.out hb; clear HB HT; have HB := Aside0.mk h; have HT := Aside0.mk h2; clear hb h h2))
  go_ret
  exact ⟨rfl, HB.out⟩
set_option maxHeartbeats 8000000 in
set_option maxRecDepth 100000 in
theorem lawMatch_m (a b x off : Int) (ha0 : -1000 ≤ a) (ha1 : a ≤ 1000) (hb0 : -1000 ≤ b) (hb1 : b ≤ 1000) (hx0 : 0 ≤ x) (hx1 : x ≤ 1000) (ho0 : 0 ≤ off) (ho1 : off ≤ 1000) (hs : a = -1) (w : World) (ht : TabP w) :
    Calls Tryd.prog 5 #[.int .i64 a, .int .i64 b, .int .i64 x, .int .i64 off] w fun e w' => e = .returned (.bool true) ∧ Below w.heap.size w w' := by
  have HT := Aside0.mk ht
  have HB := Aside0.mk (Below.refl w.heap.size w)
  have tok1 : True := trivial
  have tok2 : True := trivial
  have tok3 : True := trivial
  clear ht
  have d0 : decide (a < -1000) = false := decide_eq_false (by omega)
  have d1 : decide (1000 < a) = false := decide_eq_false (by omega)
  have d2 : decide (b < -1000) = false := decide_eq_false (by omega)
  have d3 : decide (1000 < b) = false := decide_eq_false (by omega)
  have d4 : decide (x < 0) = false := decide_eq_false (by omega)
  have d5 : decide (1000 < x) = false := decide_eq_false (by omega)
  have d6 : decide (off < 0) = false := decide_eq_false (by omega)
  have d7 : decide (1000 < off) = false := decide_eq_false (by omega)
  obtain ⟨p0, p1⟩ := mulr ha0 ha1 hx0 hx1
  have M1 := Aside0.mk (mt1 (a := a) (b := b) hx0)
  have e1 : decide (0 < a) = false := decide_eq_false (by omega)
  have e2 : decide (a < 0) = true := decide_eq_true (by omega)
  have M3 := Aside0.mk (mt3 (a := a) (b := b) (off := off) (by omega) ho0)
  have e3 : decide (max a (-a) < 2) = true := decide_eq_true (by omega)
  clear hs
  go_enter Tryd.func5, Tryd.ntmps5
  go_wp2_with (first
    | (go_at_call 11; have _t := tok1; refine (mat_c a b (a * x + b) (by omega) (by omega) (by omega) (by omega) (by omega) (by omega) _).mono ?_; rw [M1.out]; rintro e w1 ⟨rfl, hb⟩; clear tok1; have h := HB.out.trans (hb.mono HB.out.size); have h2 := tabP_below HT.out hb; clear HB HT; have HB := Aside0.mk h; have HT := Aside0.mk h2; clear hb h h2)
    | (go_at_call 11; have _t := tok2; refine (mat_c a b (b + 1 + off) (by omega) (by omega) (by omega) (by omega) (by omega) (by omega) _).mono ?_; rw [M3.out]; rintro e w1 ⟨rfl, hb⟩; clear tok2; have h := HB.out.trans (hb.mono HB.out.size); have h2 := tabP_below HT.out hb; clear HB HT; have HB := Aside0.mk h; have HT := Aside0.mk h2; clear hb h h2)
    | (go_at_call 7; refine (awake_c _ HT.out).mono ?_; rintro e w1 ⟨rfl, hb⟩; have h := HB.out.trans (hb.mono HB.out.size); have h2 := tabP_below HT.out hb; clear HB HT; have HB := Aside0.mk h; have HT := Aside0.mk h2; clear hb h h2))
  go_ret
  exact ⟨rfl, HB.out⟩
set_option maxHeartbeats 8000000 in
set_option maxRecDepth 100000 in
theorem lawMatch_Pt (a b x off : Int) (ha0 : -1000 ≤ a) (ha1 : a ≤ 1000) (hb0 : -1000 ≤ b) (hb1 : b ≤ 1000) (hx0 : 0 ≤ x) (hx1 : x ≤ 1000) (ho0 : 0 ≤ off) (ho1 : off ≤ 1000) (hs : 2 ≤ a) (hd : a ∣ off) (w : World) (ht : TabP w) :
    Calls Tryd.prog 5 #[.int .i64 a, .int .i64 b, .int .i64 x, .int .i64 off] w fun e w' => e = .returned (.bool true) ∧ Below w.heap.size w w' := by
  have HT := Aside0.mk ht
  have HB := Aside0.mk (Below.refl w.heap.size w)
  have tok1 : True := trivial
  have tok2 : True := trivial
  have tok3 : True := trivial
  clear ht
  have d0 : decide (a < -1000) = false := decide_eq_false (by omega)
  have d1 : decide (1000 < a) = false := decide_eq_false (by omega)
  have d2 : decide (b < -1000) = false := decide_eq_false (by omega)
  have d3 : decide (1000 < b) = false := decide_eq_false (by omega)
  have d4 : decide (x < 0) = false := decide_eq_false (by omega)
  have d5 : decide (1000 < x) = false := decide_eq_false (by omega)
  have d6 : decide (off < 0) = false := decide_eq_false (by omega)
  have d7 : decide (1000 < off) = false := decide_eq_false (by omega)
  obtain ⟨p0, p1⟩ := mulr ha0 ha1 hx0 hx1
  have M1 := Aside0.mk (mt1 (a := a) (b := b) hx0)
  have e1 : decide (0 < a) = true := decide_eq_true (by omega)
  have e2 : decide (a < 0) = false := decide_eq_false (by omega)
  have M2 := Aside0.mk (mt2 (a := a) (b := b) (off := off) (by omega) ho0)
  have e3 : max a (-a) = a := by omega
  have e4 : decide (a < 2) = false := decide_eq_false (by omega)
  have e5 : (0 : Int) < a := by omega
  have e6 : (off % (a) == 0) = true := by first | exact mod_dvd_t hd | exact mod_dvd_f hd | exact mod_dvd_nt hd | exact mod_dvd_nf hd
  have e7 : (off.tmod (a) == 0) = true := by rw [Int.tmod_eq_emod_of_nonneg ho0]; exact e6
  have M4 := Aside0.mk (show matB a b (a * x + b + off) = true by rw [mt4 hs hx0 ho0]; exact decide_eq_true hd)
  have MC := Aside0.mk (fun W => mat_s a b (a * x + b + off) (by omega) (by omega) (by omega) (by omega) (by omega) (by omega) W)
  have W0 : Aside0 (IntKind.i64.wrap (a * x) = a * x) := ⟨IntWalk.i64_in _ (by omega)⟩
  have W1 : Aside0 (IntKind.i64.wrap (a * x + b) = a * x + b) := ⟨IntWalk.i64_in _ (by omega)⟩
  have W2 : Aside0 (IntKind.i64.wrap (a * x + b + off) = a * x + b + off) := ⟨IntWalk.i64_in _ (by omega)⟩
  have W3 : Aside0 (IntKind.i64.wrap (a * x + off) = a * x + off) := ⟨IntWalk.i64_in _ (by omega)⟩
  clear hs hd
  go_enter Tryd.func5, Tryd.ntmps5
  go_wp2_with (first
    | (go_at_call 11; have _t := tok1; refine (mat_c a b (a * x + b) (by omega) (by omega) (by omega) (by omega) (by omega) (by omega) _).mono ?_; rw [M1.out]; rintro e w1 ⟨rfl, hb⟩; clear tok1; have h := HB.out.trans (hb.mono HB.out.size); have h2 := tabP_below HT.out hb; clear HB HT; have HB := Aside0.mk h; have HT := Aside0.mk h2; clear hb h h2)
    | (go_at_call 11; have _t := tok2; refine (mat_c a b (b - 1 - off) (by omega) (by omega) (by omega) (by omega) (by omega) (by omega) _).mono ?_; rw [M2.out]; rintro e w1 ⟨rfl, hb⟩; clear tok2; have h := HB.out.trans (hb.mono HB.out.size); have h2 := tabP_below HT.out hb; clear HB HT; have HB := Aside0.mk h; have HT := Aside0.mk h2; clear hb h h2))
  have e10 : ((a) == 0) = false := beq_eq_false_iff_ne.2 (by omega)
  have e11 : ¬ a = 0 := by omega
  have w4_ : IntKind.i64.wrap (off.tmod (a)) = off.tmod (a) := IntWalk.i64_in _ (by rw [Int.tmod_eq_emod_of_nonneg ho0]; have h8 := Int.emod_nonneg off e11; have h9 := Int.emod_lt_of_pos off e5; omega)
  clear d0 d1 d2 d3 d4 d5 d6 d7 ha0 ha1 hb0 hb1 hx0 hx1 ho0 ho1 p0 p1
  have w0 := W0.out
  have w1_ := W1.out
  have w2_ := W2.out
  have w3_ := W3.out
  have MC1 := Aside0.mk (show ∀ W : World, Calls Tryd.prog 11 #[.int .i64 a, .int .i64 b, .int .i64 (a * x + b + off)] W fun e w' => e = .returned (.bool true) ∧ w' = W from fun W => by have h := MC.out W; rw [M4.out] at h; exact h)
  clear MC M4
  go_still_tail 32, (by kernel_rfl)
  still_call (MC1.out _)
  (refine wpStill_step (fun K hK => ?_); go_simp; generalize hA : Act.mk _ _ = A; refine hK A ?_; clear hK K)
  repeat (refine wpStill_step (fun K hK => ?_); subst hA; (first | (go_simp; generalize hA : Act.mk _ _ = A; refine hK A ?_) | (rw [if_neg (by exact Bool.false_ne_true)]; (try simp only [Act.put, List.setIfInBounds_toArray, List.set_cons_zero, List.set_cons_succ]); generalize hA : Act.mk _ _ = A; refine hK A ?_)); clear hK K)
  refine wpStill_nil ?_
  subst hA
  change wpList _ _ _ _ _ w1.drew
  have h3 := tabP_drew HT.out
  have h4 := below_drew HB.out
  generalize w1.drew = wd at h3 h4 ⊢
  clear HT HB
  have HT := Aside0.mk h3
  have HB := Aside0.mk h4
  clear h3 h4
  go_wp2_with (go_at_call 7; refine (awake_c _ HT.out).mono ?_; rintro e w1 ⟨rfl, hb⟩; have h := HB.out.trans (hb.mono HB.out.size); have h2 := tabP_below HT.out hb; clear HB HT; have HB := Aside0.mk h; have HT := Aside0.mk h2; clear hb h h2)
  go_ret
  exact ⟨rfl, HB.out⟩
set_option maxHeartbeats 8000000 in
set_option maxRecDepth 100000 in
theorem lawMatch_Pf (a b x off : Int) (ha0 : -1000 ≤ a) (ha1 : a ≤ 1000) (hb0 : -1000 ≤ b) (hb1 : b ≤ 1000) (hx0 : 0 ≤ x) (hx1 : x ≤ 1000) (ho0 : 0 ≤ off) (ho1 : off ≤ 1000) (hs : 2 ≤ a) (hd : ¬ a ∣ off) (w : World) (ht : TabP w) :
    Calls Tryd.prog 5 #[.int .i64 a, .int .i64 b, .int .i64 x, .int .i64 off] w fun e w' => e = .returned (.bool true) ∧ Below w.heap.size w w' := by
  have HT := Aside0.mk ht
  have HB := Aside0.mk (Below.refl w.heap.size w)
  have tok1 : True := trivial
  have tok2 : True := trivial
  have tok3 : True := trivial
  clear ht
  have d0 : decide (a < -1000) = false := decide_eq_false (by omega)
  have d1 : decide (1000 < a) = false := decide_eq_false (by omega)
  have d2 : decide (b < -1000) = false := decide_eq_false (by omega)
  have d3 : decide (1000 < b) = false := decide_eq_false (by omega)
  have d4 : decide (x < 0) = false := decide_eq_false (by omega)
  have d5 : decide (1000 < x) = false := decide_eq_false (by omega)
  have d6 : decide (off < 0) = false := decide_eq_false (by omega)
  have d7 : decide (1000 < off) = false := decide_eq_false (by omega)
  obtain ⟨p0, p1⟩ := mulr ha0 ha1 hx0 hx1
  have M1 := Aside0.mk (mt1 (a := a) (b := b) hx0)
  have e1 : decide (0 < a) = true := decide_eq_true (by omega)
  have e2 : decide (a < 0) = false := decide_eq_false (by omega)
  have M2 := Aside0.mk (mt2 (a := a) (b := b) (off := off) (by omega) ho0)
  have e3 : max a (-a) = a := by omega
  have e4 : decide (a < 2) = false := decide_eq_false (by omega)
  have e5 : (0 : Int) < a := by omega
  have e6 : (off % (a) == 0) = false := by first | exact mod_dvd_t hd | exact mod_dvd_f hd | exact mod_dvd_nt hd | exact mod_dvd_nf hd
  have e7 : (off.tmod (a) == 0) = false := by rw [Int.tmod_eq_emod_of_nonneg ho0]; exact e6
  have M4 := Aside0.mk (show matB a b (a * x + b + off) = false by rw [mt4 hs hx0 ho0]; exact decide_eq_false hd)
  have MC := Aside0.mk (fun W => mat_s a b (a * x + b + off) (by omega) (by omega) (by omega) (by omega) (by omega) (by omega) W)
  have W0 : Aside0 (IntKind.i64.wrap (a * x) = a * x) := ⟨IntWalk.i64_in _ (by omega)⟩
  have W1 : Aside0 (IntKind.i64.wrap (a * x + b) = a * x + b) := ⟨IntWalk.i64_in _ (by omega)⟩
  have W2 : Aside0 (IntKind.i64.wrap (a * x + b + off) = a * x + b + off) := ⟨IntWalk.i64_in _ (by omega)⟩
  have W3 : Aside0 (IntKind.i64.wrap (a * x + off) = a * x + off) := ⟨IntWalk.i64_in _ (by omega)⟩
  clear hs hd
  go_enter Tryd.func5, Tryd.ntmps5
  go_wp2_with (first
    | (go_at_call 11; have _t := tok1; refine (mat_c a b (a * x + b) (by omega) (by omega) (by omega) (by omega) (by omega) (by omega) _).mono ?_; rw [M1.out]; rintro e w1 ⟨rfl, hb⟩; clear tok1; have h := HB.out.trans (hb.mono HB.out.size); have h2 := tabP_below HT.out hb; clear HB HT; have HB := Aside0.mk h; have HT := Aside0.mk h2; clear hb h h2)
    | (go_at_call 11; have _t := tok2; refine (mat_c a b (b - 1 - off) (by omega) (by omega) (by omega) (by omega) (by omega) (by omega) _).mono ?_; rw [M2.out]; rintro e w1 ⟨rfl, hb⟩; clear tok2; have h := HB.out.trans (hb.mono HB.out.size); have h2 := tabP_below HT.out hb; clear HB HT; have HB := Aside0.mk h; have HT := Aside0.mk h2; clear hb h h2))
  have e10 : ((a) == 0) = false := beq_eq_false_iff_ne.2 (by omega)
  have e11 : ¬ a = 0 := by omega
  have w4_ : IntKind.i64.wrap (off.tmod (a)) = off.tmod (a) := IntWalk.i64_in _ (by rw [Int.tmod_eq_emod_of_nonneg ho0]; have h8 := Int.emod_nonneg off e11; have h9 := Int.emod_lt_of_pos off e5; omega)
  clear d0 d1 d2 d3 d4 d5 d6 d7 ha0 ha1 hb0 hb1 hx0 hx1 ho0 ho1 p0 p1
  have w0 := W0.out
  have w1_ := W1.out
  have w2_ := W2.out
  have w3_ := W3.out
  have MC1 := Aside0.mk (show ∀ W : World, Calls Tryd.prog 11 #[.int .i64 a, .int .i64 b, .int .i64 (a * x + b + off)] W fun e w' => e = .returned (.bool false) ∧ w' = W from fun W => by have h := MC.out W; rw [M4.out] at h; exact h)
  clear MC M4
  go_still_tail 32, (by kernel_rfl)
  still_call (MC1.out _)
  (refine wpStill_step (fun K hK => ?_); go_simp; generalize hA : Act.mk _ _ = A; refine hK A ?_; clear hK K)
  repeat (refine wpStill_step (fun K hK => ?_); subst hA; (first | (go_simp; generalize hA : Act.mk _ _ = A; refine hK A ?_) | (rw [if_neg (by exact Bool.false_ne_true)]; (try simp only [Act.put, List.setIfInBounds_toArray, List.set_cons_zero, List.set_cons_succ]); generalize hA : Act.mk _ _ = A; refine hK A ?_)); clear hK K)
  refine wpStill_nil ?_
  subst hA
  change wpList _ _ _ _ _ w1.drew
  have h3 := tabP_drew HT.out
  have h4 := below_drew HB.out
  generalize w1.drew = wd at h3 h4 ⊢
  clear HT HB
  have HT := Aside0.mk h3
  have HB := Aside0.mk h4
  clear h3 h4
  go_wp2_with (go_at_call 7; refine (awake_c _ HT.out).mono ?_; rintro e w1 ⟨rfl, hb⟩; have h := HB.out.trans (hb.mono HB.out.size); have h2 := tabP_below HT.out hb; clear HB HT; have HB := Aside0.mk h; have HT := Aside0.mk h2; clear hb h h2)
  go_ret
  exact ⟨rfl, HB.out⟩
set_option maxHeartbeats 8000000 in
set_option maxRecDepth 100000 in
theorem lawMatch_Mtt (a b x off : Int) (ha0 : -1000 ≤ a) (ha1 : a ≤ 1000) (hb0 : -1000 ≤ b) (hb1 : b ≤ 1000) (hx0 : 0 ≤ x) (hx1 : x ≤ 1000) (ho0 : 0 ≤ off) (ho1 : off ≤ 1000) (hs : a ≤ -2) (hd : a ∣ off) (hq : a * x + off ≤ 0) (w : World) (ht : TabP w) :
    Calls Tryd.prog 5 #[.int .i64 a, .int .i64 b, .int .i64 x, .int .i64 off] w fun e w' => e = .returned (.bool true) ∧ Below w.heap.size w w' := by
  have HT := Aside0.mk ht
  have HB := Aside0.mk (Below.refl w.heap.size w)
  have tok1 : True := trivial
  have tok2 : True := trivial
  have tok3 : True := trivial
  clear ht
  have d0 : decide (a < -1000) = false := decide_eq_false (by omega)
  have d1 : decide (1000 < a) = false := decide_eq_false (by omega)
  have d2 : decide (b < -1000) = false := decide_eq_false (by omega)
  have d3 : decide (1000 < b) = false := decide_eq_false (by omega)
  have d4 : decide (x < 0) = false := decide_eq_false (by omega)
  have d5 : decide (1000 < x) = false := decide_eq_false (by omega)
  have d6 : decide (off < 0) = false := decide_eq_false (by omega)
  have d7 : decide (1000 < off) = false := decide_eq_false (by omega)
  obtain ⟨p0, p1⟩ := mulr ha0 ha1 hx0 hx1
  have M1 := Aside0.mk (mt1 (a := a) (b := b) hx0)
  have e1 : decide (0 < a) = false := decide_eq_false (by omega)
  have e2 : decide (a < 0) = true := decide_eq_true (by omega)
  have M3 := Aside0.mk (mt3 (a := a) (b := b) (off := off) (by omega) ho0)
  have e3 : max a (-a) = -a := by omega
  have e4 : decide (-a < 2) = false := decide_eq_false (by omega)
  have e5 : (0 : Int) < -a := by omega
  have e6 : (off % (-a) == 0) = true := by first | exact mod_dvd_t hd | exact mod_dvd_f hd | exact mod_dvd_nt hd | exact mod_dvd_nf hd
  have e7 : (off.tmod (-a) == 0) = true := by rw [Int.tmod_eq_emod_of_nonneg ho0]; exact e6
  have e12 : (off.tmod a == 0) = true := by rw [Int.tmod_neg] at e7; exact e7
  have M4 := Aside0.mk (show matB a b (a * x + b + off) = true by rw [mt5 hs ho0, decide_eq_true hd, decide_eq_true hq]; rfl)
  have e8 : decide (a * x + off ≤ 0) = true := decide_eq_true hq
  have MC := Aside0.mk (fun W => mat_s a b (a * x + b + off) (by omega) (by omega) (by omega) (by omega) (by omega) (by omega) W)
  have W0 : Aside0 (IntKind.i64.wrap (a * x) = a * x) := ⟨IntWalk.i64_in _ (by omega)⟩
  have W1 : Aside0 (IntKind.i64.wrap (a * x + b) = a * x + b) := ⟨IntWalk.i64_in _ (by omega)⟩
  have W2 : Aside0 (IntKind.i64.wrap (a * x + b + off) = a * x + b + off) := ⟨IntWalk.i64_in _ (by omega)⟩
  have W3 : Aside0 (IntKind.i64.wrap (a * x + off) = a * x + off) := ⟨IntWalk.i64_in _ (by omega)⟩
  clear hs hd hq
  go_enter Tryd.func5, Tryd.ntmps5
  go_wp2_with (first
    | (go_at_call 11; have _t := tok1; refine (mat_c a b (a * x + b) (by omega) (by omega) (by omega) (by omega) (by omega) (by omega) _).mono ?_; rw [M1.out]; rintro e w1 ⟨rfl, hb⟩; clear tok1; have h := HB.out.trans (hb.mono HB.out.size); have h2 := tabP_below HT.out hb; clear HB HT; have HB := Aside0.mk h; have HT := Aside0.mk h2; clear hb h h2)
    | (go_at_call 11; have _t := tok2; refine (mat_c a b (b + 1 + off) (by omega) (by omega) (by omega) (by omega) (by omega) (by omega) _).mono ?_; rw [M3.out]; rintro e w1 ⟨rfl, hb⟩; clear tok2; have h := HB.out.trans (hb.mono HB.out.size); have h2 := tabP_below HT.out hb; clear HB HT; have HB := Aside0.mk h; have HT := Aside0.mk h2; clear hb h h2))
  have e10 : ((-a) == 0) = false := beq_eq_false_iff_ne.2 (by omega)
  have e11 : ¬ -a = 0 := by omega
  have w4_ : IntKind.i64.wrap (off.tmod (-a)) = off.tmod (-a) := IntWalk.i64_in _ (by rw [Int.tmod_eq_emod_of_nonneg ho0]; have h8 := Int.emod_nonneg off e11; have h9 := Int.emod_lt_of_pos off e5; omega)
  have w5_ : IntKind.i64.wrap (off.tmod a) = off.tmod a := by rw [Int.tmod_neg] at w4_; exact w4_
  have e13 : (a == 0) = false := beq_eq_false_iff_ne.2 (by omega)
  have e14 : ¬ a = 0 := by omega
  clear d0 d1 d2 d3 d4 d5 d6 d7 ha0 ha1 hb0 hb1 hx0 hx1 ho0 ho1 p0 p1
  have w0 := W0.out
  have w1_ := W1.out
  have w2_ := W2.out
  have w3_ := W3.out
  have MC1 := Aside0.mk (show ∀ W : World, Calls Tryd.prog 11 #[.int .i64 a, .int .i64 b, .int .i64 (a * x + b + off)] W fun e w' => e = .returned (.bool true) ∧ w' = W from fun W => by have h := MC.out W; rw [M4.out] at h; exact h)
  clear MC M4
  go_still_tail 32, (by kernel_rfl)
  still_call (MC1.out _)
  (refine wpStill_step (fun K hK => ?_); go_simp; generalize hA : Act.mk _ _ = A; refine hK A ?_; clear hK K)
  repeat (refine wpStill_step (fun K hK => ?_); subst hA; (first | (go_simp; generalize hA : Act.mk _ _ = A; refine hK A ?_) | (rw [if_neg (by exact Bool.false_ne_true)]; (try simp only [Act.put, List.setIfInBounds_toArray, List.set_cons_zero, List.set_cons_succ]); generalize hA : Act.mk _ _ = A; refine hK A ?_)); clear hK K)
  refine wpStill_nil ?_
  subst hA
  change wpList _ _ _ _ _ w1.drew
  have h3 := tabP_drew HT.out
  have h4 := below_drew HB.out
  generalize w1.drew = wd at h3 h4 ⊢
  clear HT HB
  have HT := Aside0.mk h3
  have HB := Aside0.mk h4
  clear h3 h4
  go_wp2_with (go_at_call 7; refine (awake_c _ HT.out).mono ?_; rintro e w1 ⟨rfl, hb⟩; have h := HB.out.trans (hb.mono HB.out.size); have h2 := tabP_below HT.out hb; clear HB HT; have HB := Aside0.mk h; have HT := Aside0.mk h2; clear hb h h2)
  go_ret
  exact ⟨rfl, HB.out⟩
set_option maxHeartbeats 8000000 in
set_option maxRecDepth 100000 in
theorem lawMatch_Mtf (a b x off : Int) (ha0 : -1000 ≤ a) (ha1 : a ≤ 1000) (hb0 : -1000 ≤ b) (hb1 : b ≤ 1000) (hx0 : 0 ≤ x) (hx1 : x ≤ 1000) (ho0 : 0 ≤ off) (ho1 : off ≤ 1000) (hs : a ≤ -2) (hd : a ∣ off) (hq : ¬ a * x + off ≤ 0) (w : World) (ht : TabP w) :
    Calls Tryd.prog 5 #[.int .i64 a, .int .i64 b, .int .i64 x, .int .i64 off] w fun e w' => e = .returned (.bool true) ∧ Below w.heap.size w w' := by
  have HT := Aside0.mk ht
  have HB := Aside0.mk (Below.refl w.heap.size w)
  have tok1 : True := trivial
  have tok2 : True := trivial
  have tok3 : True := trivial
  clear ht
  have d0 : decide (a < -1000) = false := decide_eq_false (by omega)
  have d1 : decide (1000 < a) = false := decide_eq_false (by omega)
  have d2 : decide (b < -1000) = false := decide_eq_false (by omega)
  have d3 : decide (1000 < b) = false := decide_eq_false (by omega)
  have d4 : decide (x < 0) = false := decide_eq_false (by omega)
  have d5 : decide (1000 < x) = false := decide_eq_false (by omega)
  have d6 : decide (off < 0) = false := decide_eq_false (by omega)
  have d7 : decide (1000 < off) = false := decide_eq_false (by omega)
  obtain ⟨p0, p1⟩ := mulr ha0 ha1 hx0 hx1
  have M1 := Aside0.mk (mt1 (a := a) (b := b) hx0)
  have e1 : decide (0 < a) = false := decide_eq_false (by omega)
  have e2 : decide (a < 0) = true := decide_eq_true (by omega)
  have M3 := Aside0.mk (mt3 (a := a) (b := b) (off := off) (by omega) ho0)
  have e3 : max a (-a) = -a := by omega
  have e4 : decide (-a < 2) = false := decide_eq_false (by omega)
  have e5 : (0 : Int) < -a := by omega
  have e6 : (off % (-a) == 0) = true := by first | exact mod_dvd_t hd | exact mod_dvd_f hd | exact mod_dvd_nt hd | exact mod_dvd_nf hd
  have e7 : (off.tmod (-a) == 0) = true := by rw [Int.tmod_eq_emod_of_nonneg ho0]; exact e6
  have e12 : (off.tmod a == 0) = true := by rw [Int.tmod_neg] at e7; exact e7
  have M4 := Aside0.mk (show matB a b (a * x + b + off) = false by rw [mt5 hs ho0, decide_eq_true hd, decide_eq_false hq]; rfl)
  have e8 : decide (a * x + off ≤ 0) = false := decide_eq_false hq
  have MC := Aside0.mk (fun W => mat_s a b (a * x + b + off) (by omega) (by omega) (by omega) (by omega) (by omega) (by omega) W)
  have W0 : Aside0 (IntKind.i64.wrap (a * x) = a * x) := ⟨IntWalk.i64_in _ (by omega)⟩
  have W1 : Aside0 (IntKind.i64.wrap (a * x + b) = a * x + b) := ⟨IntWalk.i64_in _ (by omega)⟩
  have W2 : Aside0 (IntKind.i64.wrap (a * x + b + off) = a * x + b + off) := ⟨IntWalk.i64_in _ (by omega)⟩
  have W3 : Aside0 (IntKind.i64.wrap (a * x + off) = a * x + off) := ⟨IntWalk.i64_in _ (by omega)⟩
  clear hs hd hq
  go_enter Tryd.func5, Tryd.ntmps5
  go_wp2_with (first
    | (go_at_call 11; have _t := tok1; refine (mat_c a b (a * x + b) (by omega) (by omega) (by omega) (by omega) (by omega) (by omega) _).mono ?_; rw [M1.out]; rintro e w1 ⟨rfl, hb⟩; clear tok1; have h := HB.out.trans (hb.mono HB.out.size); have h2 := tabP_below HT.out hb; clear HB HT; have HB := Aside0.mk h; have HT := Aside0.mk h2; clear hb h h2)
    | (go_at_call 11; have _t := tok2; refine (mat_c a b (b + 1 + off) (by omega) (by omega) (by omega) (by omega) (by omega) (by omega) _).mono ?_; rw [M3.out]; rintro e w1 ⟨rfl, hb⟩; clear tok2; have h := HB.out.trans (hb.mono HB.out.size); have h2 := tabP_below HT.out hb; clear HB HT; have HB := Aside0.mk h; have HT := Aside0.mk h2; clear hb h h2))
  have e10 : ((-a) == 0) = false := beq_eq_false_iff_ne.2 (by omega)
  have e11 : ¬ -a = 0 := by omega
  have w4_ : IntKind.i64.wrap (off.tmod (-a)) = off.tmod (-a) := IntWalk.i64_in _ (by rw [Int.tmod_eq_emod_of_nonneg ho0]; have h8 := Int.emod_nonneg off e11; have h9 := Int.emod_lt_of_pos off e5; omega)
  have w5_ : IntKind.i64.wrap (off.tmod a) = off.tmod a := by rw [Int.tmod_neg] at w4_; exact w4_
  have e13 : (a == 0) = false := beq_eq_false_iff_ne.2 (by omega)
  have e14 : ¬ a = 0 := by omega
  clear d0 d1 d2 d3 d4 d5 d6 d7 ha0 ha1 hb0 hb1 hx0 hx1 ho0 ho1 p0 p1
  have w0 := W0.out
  have w1_ := W1.out
  have w2_ := W2.out
  have w3_ := W3.out
  have MC1 := Aside0.mk (show ∀ W : World, Calls Tryd.prog 11 #[.int .i64 a, .int .i64 b, .int .i64 (a * x + b + off)] W fun e w' => e = .returned (.bool false) ∧ w' = W from fun W => by have h := MC.out W; rw [M4.out] at h; exact h)
  clear MC M4
  go_still_tail 32, (by kernel_rfl)
  still_call (MC1.out _)
  (refine wpStill_step (fun K hK => ?_); go_simp; generalize hA : Act.mk _ _ = A; refine hK A ?_; clear hK K)
  repeat (refine wpStill_step (fun K hK => ?_); subst hA; (first | (go_simp; generalize hA : Act.mk _ _ = A; refine hK A ?_) | (rw [if_neg (by exact Bool.false_ne_true)]; (try simp only [Act.put, List.setIfInBounds_toArray, List.set_cons_zero, List.set_cons_succ]); generalize hA : Act.mk _ _ = A; refine hK A ?_)); clear hK K)
  refine wpStill_nil ?_
  subst hA
  change wpList _ _ _ _ _ w1.drew
  have h3 := tabP_drew HT.out
  have h4 := below_drew HB.out
  generalize w1.drew = wd at h3 h4 ⊢
  clear HT HB
  have HT := Aside0.mk h3
  have HB := Aside0.mk h4
  clear h3 h4
  go_wp2_with (go_at_call 7; refine (awake_c _ HT.out).mono ?_; rintro e w1 ⟨rfl, hb⟩; have h := HB.out.trans (hb.mono HB.out.size); have h2 := tabP_below HT.out hb; clear HB HT; have HB := Aside0.mk h; have HT := Aside0.mk h2; clear hb h h2)
  go_ret
  exact ⟨rfl, HB.out⟩
set_option maxHeartbeats 8000000 in
set_option maxRecDepth 100000 in
theorem lawMatch_Mf (a b x off : Int) (ha0 : -1000 ≤ a) (ha1 : a ≤ 1000) (hb0 : -1000 ≤ b) (hb1 : b ≤ 1000) (hx0 : 0 ≤ x) (hx1 : x ≤ 1000) (ho0 : 0 ≤ off) (ho1 : off ≤ 1000) (hs : a ≤ -2) (hd : ¬ a ∣ off) (w : World) (ht : TabP w) :
    Calls Tryd.prog 5 #[.int .i64 a, .int .i64 b, .int .i64 x, .int .i64 off] w fun e w' => e = .returned (.bool true) ∧ Below w.heap.size w w' := by
  have HT := Aside0.mk ht
  have HB := Aside0.mk (Below.refl w.heap.size w)
  have tok1 : True := trivial
  have tok2 : True := trivial
  have tok3 : True := trivial
  clear ht
  have d0 : decide (a < -1000) = false := decide_eq_false (by omega)
  have d1 : decide (1000 < a) = false := decide_eq_false (by omega)
  have d2 : decide (b < -1000) = false := decide_eq_false (by omega)
  have d3 : decide (1000 < b) = false := decide_eq_false (by omega)
  have d4 : decide (x < 0) = false := decide_eq_false (by omega)
  have d5 : decide (1000 < x) = false := decide_eq_false (by omega)
  have d6 : decide (off < 0) = false := decide_eq_false (by omega)
  have d7 : decide (1000 < off) = false := decide_eq_false (by omega)
  obtain ⟨p0, p1⟩ := mulr ha0 ha1 hx0 hx1
  have M1 := Aside0.mk (mt1 (a := a) (b := b) hx0)
  have e1 : decide (0 < a) = false := decide_eq_false (by omega)
  have e2 : decide (a < 0) = true := decide_eq_true (by omega)
  have M3 := Aside0.mk (mt3 (a := a) (b := b) (off := off) (by omega) ho0)
  have e3 : max a (-a) = -a := by omega
  have e4 : decide (-a < 2) = false := decide_eq_false (by omega)
  have e5 : (0 : Int) < -a := by omega
  have e6 : (off % (-a) == 0) = false := by first | exact mod_dvd_t hd | exact mod_dvd_f hd | exact mod_dvd_nt hd | exact mod_dvd_nf hd
  have e7 : (off.tmod (-a) == 0) = false := by rw [Int.tmod_eq_emod_of_nonneg ho0]; exact e6
  have e12 : (off.tmod a == 0) = false := by rw [Int.tmod_neg] at e7; exact e7
  have M4 := Aside0.mk (show matB a b (a * x + b + off) = false by rw [mt5 hs ho0, decide_eq_false hd]; rfl)
  have MC := Aside0.mk (fun W => mat_s a b (a * x + b + off) (by omega) (by omega) (by omega) (by omega) (by omega) (by omega) W)
  have W0 : Aside0 (IntKind.i64.wrap (a * x) = a * x) := ⟨IntWalk.i64_in _ (by omega)⟩
  have W1 : Aside0 (IntKind.i64.wrap (a * x + b) = a * x + b) := ⟨IntWalk.i64_in _ (by omega)⟩
  have W2 : Aside0 (IntKind.i64.wrap (a * x + b + off) = a * x + b + off) := ⟨IntWalk.i64_in _ (by omega)⟩
  have W3 : Aside0 (IntKind.i64.wrap (a * x + off) = a * x + off) := ⟨IntWalk.i64_in _ (by omega)⟩
  clear hs hd
  go_enter Tryd.func5, Tryd.ntmps5
  go_wp2_with (first
    | (go_at_call 11; have _t := tok1; refine (mat_c a b (a * x + b) (by omega) (by omega) (by omega) (by omega) (by omega) (by omega) _).mono ?_; rw [M1.out]; rintro e w1 ⟨rfl, hb⟩; clear tok1; have h := HB.out.trans (hb.mono HB.out.size); have h2 := tabP_below HT.out hb; clear HB HT; have HB := Aside0.mk h; have HT := Aside0.mk h2; clear hb h h2)
    | (go_at_call 11; have _t := tok2; refine (mat_c a b (b + 1 + off) (by omega) (by omega) (by omega) (by omega) (by omega) (by omega) _).mono ?_; rw [M3.out]; rintro e w1 ⟨rfl, hb⟩; clear tok2; have h := HB.out.trans (hb.mono HB.out.size); have h2 := tabP_below HT.out hb; clear HB HT; have HB := Aside0.mk h; have HT := Aside0.mk h2; clear hb h h2))
  have e10 : ((-a) == 0) = false := beq_eq_false_iff_ne.2 (by omega)
  have e11 : ¬ -a = 0 := by omega
  have w4_ : IntKind.i64.wrap (off.tmod (-a)) = off.tmod (-a) := IntWalk.i64_in _ (by rw [Int.tmod_eq_emod_of_nonneg ho0]; have h8 := Int.emod_nonneg off e11; have h9 := Int.emod_lt_of_pos off e5; omega)
  have w5_ : IntKind.i64.wrap (off.tmod a) = off.tmod a := by rw [Int.tmod_neg] at w4_; exact w4_
  have e13 : (a == 0) = false := beq_eq_false_iff_ne.2 (by omega)
  have e14 : ¬ a = 0 := by omega
  clear d0 d1 d2 d3 d4 d5 d6 d7 ha0 ha1 hb0 hb1 hx0 hx1 ho0 ho1 p0 p1
  have w0 := W0.out
  have w1_ := W1.out
  have w2_ := W2.out
  have w3_ := W3.out
  have MC1 := Aside0.mk (show ∀ W : World, Calls Tryd.prog 11 #[.int .i64 a, .int .i64 b, .int .i64 (a * x + b + off)] W fun e w' => e = .returned (.bool false) ∧ w' = W from fun W => by have h := MC.out W; rw [M4.out] at h; exact h)
  clear MC M4
  go_still_tail 32, (by kernel_rfl)
  still_call (MC1.out _)
  (refine wpStill_step (fun K hK => ?_); go_simp; generalize hA : Act.mk _ _ = A; refine hK A ?_; clear hK K)
  repeat (refine wpStill_step (fun K hK => ?_); subst hA; (first | (go_simp; generalize hA : Act.mk _ _ = A; refine hK A ?_) | (rw [if_neg (by exact Bool.false_ne_true)]; (try simp only [Act.put, List.setIfInBounds_toArray, List.set_cons_zero, List.set_cons_succ]); generalize hA : Act.mk _ _ = A; refine hK A ?_)); clear hK K)
  refine wpStill_nil ?_
  subst hA
  change wpList _ _ _ _ _ w1.drew
  have h3 := tabP_drew HT.out
  have h4 := below_drew HB.out
  generalize w1.drew = wd at h3 h4 ⊢
  clear HT HB
  have HT := Aside0.mk h3
  have HB := Aside0.mk h4
  clear h3 h4
  go_wp2_with (go_at_call 7; refine (awake_c _ HT.out).mono ?_; rintro e w1 ⟨rfl, hb⟩; have h := HB.out.trans (hb.mono HB.out.size); have h2 := tabP_below HT.out hb; clear HB HT; have HB := Aside0.mk h; have HT := Aside0.mk h2; clear hb h h2)
  go_ret
  exact ⟨rfl, HB.out⟩
theorem lawMatch_c (a b x off : Int) (w : World) (ht : TabP w) :
    Calls Tryd.prog 5 #[.int .i64 a, .int .i64 b, .int .i64 x, .int .i64 off] w fun e w' => e = .returned (.bool true) ∧ Below w.heap.size w w' := by
  by_cases h0 : a < -1000
  · exact lawMatch_g0 a b x off h0 w ht
  by_cases h1 : 1000 < a
  · exact lawMatch_g1 a b x off h0 h1 w ht
  by_cases h2 : b < -1000
  · exact lawMatch_g2 a b x off h0 h1 h2 w ht
  by_cases h3 : 1000 < b
  · exact lawMatch_g3 a b x off h0 h1 h2 h3 w ht
  by_cases h4 : x < 0
  · exact lawMatch_g4 a b x off h0 h1 h2 h3 h4 w ht
  by_cases h5 : 1000 < x
  · exact lawMatch_g5 a b x off h0 h1 h2 h3 h4 h5 w ht
  by_cases h6 : off < 0
  · exact lawMatch_g6 a b x off h0 h1 h2 h3 h4 h5 h6 w ht
  by_cases h7 : 1000 < off
  · exact lawMatch_g7 a b x off h0 h1 h2 h3 h4 h5 h6 h7 w ht
  by_cases z : a = 0
  · exact lawMatch_z a b x off (by omega) (by omega) (by omega) (by omega) (by omega) (by omega) (by omega) (by omega) z w ht
  by_cases p : a = 1
  · exact lawMatch_p a b x off (by omega) (by omega) (by omega) (by omega) (by omega) (by omega) (by omega) (by omega) p w ht
  by_cases m : a = -1
  · exact lawMatch_m a b x off (by omega) (by omega) (by omega) (by omega) (by omega) (by omega) (by omega) (by omega) m w ht
  by_cases hs : 2 ≤ a
  · by_cases hd : a ∣ off
    · exact lawMatch_Pt a b x off (by omega) (by omega) (by omega) (by omega) (by omega) (by omega) (by omega) (by omega) hs hd w ht
    · exact lawMatch_Pf a b x off (by omega) (by omega) (by omega) (by omega) (by omega) (by omega) (by omega) (by omega) hs hd w ht
  · by_cases hd : a ∣ off
    · by_cases hq : a * x + off ≤ 0
      · exact lawMatch_Mtt a b x off (by omega) (by omega) (by omega) (by omega) (by omega) (by omega) (by omega) (by omega) (by omega) hd hq w ht
      · exact lawMatch_Mtf a b x off (by omega) (by omega) (by omega) (by omega) (by omega) (by omega) (by omega) (by omega) (by omega) hd hq w ht
    · exact lawMatch_Mf a b x off (by omega) (by omega) (by omega) (by omega) (by omega) (by omega) (by omega) (by omega) (by omega) hd w ht

end Go.Proofs.YtgdolholioccdaaDoor.PX
