/-
  Contracts of the functions that the law reaches, and what they compute, on lists (part G). No condition.
-/
import Derived.Test.YtgdolholioccdaaDoorMF
import Derived.Test.YtgdolholioccdaaDoorMD
import Derived.Test.YtgdolholioccdaaDoorMC
import Derived.Test.YtgdolholioccdaaDoorMB
import Derived.Lib.AppendIntMem
set_option linter.unusedVariables false
set_option linter.unusedSimpArgs false
namespace Go.Proofs.YtgdolholioccdaaDoor.PX
open Go.RowKit Go.Proofs.YtgdolholioccdaaDoorW.PrintWords Go.Proofs.YtgdolholioccdaaDoorW.PrintLast Go.Proofs.YtgdolholioccdaaDoorW.PrintMore
theorem An.fresh {ws w : World} {g : Nat} {l : List N51} {bad : Bool} (h : An ws w g l bad) (hg : ws.heap.size ≤ g) : Below ws.heap.size ws w :=
  ⟨h.low.os, h.low.tape, h.low.output, h.keep.1, fun i hi => h.keep.2 i hi (by omega) (by simp)⟩
theorem any_first (m : List N51) : (∀ j, j < m.length → opB (m.getD j z51) = false) ∨ ∃ q, q < m.length ∧ opB (m.getD q z51) = true := by
  by_cases h : ∃ q, q < m.length ∧ opB (m.getD q z51) = true
  · exact .inr h
  · exact .inl fun j hj => by
      cases hb : opB (m.getD j z51) with
      | false => rfl
      | true => exact absurd ⟨j, hj, hb⟩ h
theorem opB_no {x : N51} (h : opB x = false) : ¬ 0 < x.f1.length ∧ (x.f0.f0 == 19) = false ∧ (x.f0.f0 == 2) = false := by
  unfold opB at h
  rw [Bool.or_eq_false_iff, Bool.or_eq_false_iff] at h
  exact ⟨of_decide_eq_false h.1.1, h.1.2, h.2⟩
theorem opB_yes {x : N51} (h : opB x = true) : 0 < x.f1.length ∨ ¬ 0 < x.f1.length ∧ (x.f0.f0 == 19) = true ∨ ¬ 0 < x.f1.length ∧ (x.f0.f0 == 19) = false ∧ (x.f0.f0 == 2) = true := by
  unfold opB at h
  by_cases h1 : 0 < x.f1.length
  · exact .inl h1
  · rw [decide_eq_false h1, Bool.false_or] at h
    cases h2 : (x.f0.f0 == 19) with
    | true => exact .inr (.inl ⟨h1, rfl⟩)
    | false => rw [h2, Bool.false_or] at h; exact .inr (.inr ⟨h1, rfl, h⟩)
set_option maxHeartbeats 8000000 in
set_option maxRecDepth 100000 in
theorem parse_0 (l : List N51) (h : Ok51 l) (hgood : ∀ x, x ∈ l → GoodN x) (ok : Nat → Prop) (A : Option Addr) (c : Nat) (w : World) (hf : Kd.F k51 w ok A l.length l) (hc : l.length ≤ c)
    (m : List N51) (hm : trimN l = m)
    (q : Nat) (hq : q < m.length) (hop : opB (m.getD q z51) = true) :
    Calls Tryd.prog 9 #[.slice A l.length c] w fun e w' => e = .returned (.tuple #[.int .i64 0, .int .i64 0, .int .i64 2]) ∧ Below w.heap.size w w' := by
  have HG := Aside0.mk (good_trimN hgood)
  have HF0 := Aside0.mk hf
  have HOK := Aside0.mk h
  have HZ : (trimN l).length ≤ 1000000000 := Nat.le_trans (trimN_len l) h.len
  have HM := Aside0.mk hm
  rw [hm] at HG HZ
  have HOP := Aside0.mk hop
  clear hop
  clear hf h hgood hm
  go_enter Tryd.func9, Tryd.ntmps9
  go_wp2_with (fail)
  refine (Trim_c l HOK.out ok A c w HF0.out hc).mono ?_
  rw [HM.out]
  rintro e w1 ⟨v2, rfl, hn2, hb2⟩
  obtain ⟨A2, c2, rfl⟩ := Kd.N_slice hn2
  obtain ⟨h1, h2⟩ := An.mk0 hn2 HZ HG.out
  have HS := Aside0.mk h1
  have HF := Aside0.mk h2
  have HB := Aside0.mk hb2
  clear hn2 h1 h2 hb2 HF0 HOK HM
  go_wp2_with (fail)
  generalize w1.alloc (.cells #[.slice A2 m.length c2, .bool false] 47) = wA at HS HF ⊢
  obtain ⟨g, hg⟩ : ∃ g, w1.heap.size = g := ⟨_, rfl⟩
  have HGE : Aside0 (w1.heap.size ≤ g) := ⟨Nat.le_of_eq hg⟩
  rw [hg] at HS HF ⊢
  clear hg
  obtain ⟨n, hn⟩ : ∃ n, m.length = n := ⟨_, rfl⟩
  rw [hn]
  have hz2 : n ≤ 1000000000 := by omega
  have HN := Aside0.mk hn
  clear hn HZ hc
  go_loopg [20] n (fun gk v wr => ∃ k : Nat, n ≤ k + gk ∧ k ≤ q ∧ v = .int .i64 k ∧ Aside0 (An w1 wr g m false) ∧ Aside0 (Kd.F k51 wr (fun k => k ≠ g) A2 m.length m))
  case atStart => exact ⟨0, by omega, Nat.zero_le _, rfl, HS, HF⟩
  case round =>
    obtain ⟨k, hkn, hkq, rfl, HR, HFR⟩ := hrel
    clear HS HF
    have hlt : k < n := by have := HN.out; omega
    obtain ⟨ad, A6, c6, hA2, x0, x1, x2, x3, x4, x5, x6, hl6, hi6⟩ := at_T51 (Kd.F_now HFR.out) k (by omega) (by have := HN.out; omega)
    subst hA2
    have e0 : rd_T51 m k = m.getD k z51 := rfl
    rw [e0] at x0 x1 x2 x3 x4 x5 x6 hl6 hi6
    obtain ⟨x, hx⟩ : ∃ x, m.getD k z51 = x := ⟨_, rfl⟩
    rw [hx] at x0 x1 x2 x3 x4 x5 x6 hl6 hi6
    rw [Int.toNat_natCast] at x0 x1 x2 x3 x4 x5 x6
    have HX := Aside0.mk hx
    have hkn2 : (k : Int) < (n : Int) := by omega
    clear hx e0 hl6 hi6
    cases hox : opB x with
    | true =>
      rcases opB_yes hox with b1 | ⟨b1, b2⟩ | ⟨b1, b2, b3⟩
      · have b1i : (0 : Int) < (x.f1.length : Int) := by omega
        clear hox
        go_wp2
        go_ret3
        exact ⟨rfl, HB.out.trans (((HR.out.alloc _).fresh HGE.out).mono HB.out.size)⟩
      · have b1i : decide ((0 : Int) < (x.f1.length : Int)) = false := decide_eq_false (by omega)
        have b1j : decide (0 < x.f1.length) = false := decide_eq_false (by omega)
        clear hox b1
        go_wp2
        go_ret3
        exact ⟨rfl, HB.out.trans (((HR.out.alloc _).fresh HGE.out).mono HB.out.size)⟩
      · have b1i : decide ((0 : Int) < (x.f1.length : Int)) = false := decide_eq_false (by omega)
        have b1j : decide (0 < x.f1.length) = false := decide_eq_false (by omega)
        clear hox b1
        go_wp2
        go_ret3
        exact ⟨rfl, HB.out.trans (((HR.out.alloc _).fresh HGE.out).mono HB.out.size)⟩
    | false =>
      obtain ⟨b1, b2, b3⟩ := opB_no hox
      have b1i : decide ((0 : Int) < (x.f1.length : Int)) = false := decide_eq_false (by omega)
      have b1j : decide (0 < x.f1.length) = false := decide_eq_false (by omega)
      have HKQ : Aside0 (k + 1 ≤ q) := ⟨by
        rcases Nat.lt_or_ge k q with h | h
        · exact h
        · have e : k = q := by omega
          have h2 := HOP.out
          rw [← e, HX.out, hox] at h2
          cases h2⟩
      clear hox b1
      go_wp2
      go_roundg (gk - 1)
      case measure => omega
      case rel => exact ⟨k + 1, by omega, HKQ.out, by go_num, ⟨HR.out.alloc _⟩, ⟨Kd.F_alloc HFR.out _⟩⟩
set_option maxHeartbeats 8000000 in
set_option maxRecDepth 100000 in
theorem parse_1 (l : List N51) (h : Ok51 l) (hgood : ∀ x, x ∈ l → GoodN x) (ok : Nat → Prop) (A : Option Addr) (c : Nat) (w : World) (hf : Kd.F k51 w ok A l.length l) (hc : l.length ≤ c)
    (m : List N51) (hm : trimN l = m) (hop : ∀ j, j < m.length → opB (m.getD j z51) = false) (hlen : m.length = 1) (hk : seeK m = 1) (hodd : seeT m = ⟨#[111, 100, 100]⟩) :
    Calls Tryd.prog 9 #[.slice A l.length c] w fun e w' => e = .returned (.tuple #[.int .i64 2, .int .i64 1, .int .i64 0]) ∧ Below w.heap.size w w' := by
  obtain ⟨K, hK⟩ : ∃ K, seeK m = K := ⟨_, rfl⟩
  obtain ⟨T, hT⟩ : ∃ T, seeT m = T := ⟨_, rfl⟩
  rw [hK] at hk
  rw [hT] at hodd
  have k1 : (K == 1) = true := beq_iff_eq.2 (by omega)
  have k10 : (K == 10) = false := beq_eq_false_iff_ne.2 (by omega)
  have t1 := str_eqT (show T = ⟨[111, 100, 100].toArray⟩ from hodd)
  have HK := Aside0.mk hK
  have HT := Aside0.mk hT
  have HLN := Aside0.mk hlen
  clear hK hT hlen hk hodd
  have HG := Aside0.mk (good_trimN hgood)
  have HF0 := Aside0.mk hf
  have HOK := Aside0.mk h
  have HZ : (trimN l).length ≤ 1000000000 := Nat.le_trans (trimN_len l) h.len
  have HM := Aside0.mk hm
  rw [hm] at HG HZ
  have HOP := Aside0.mk hop
  clear hop
  clear hf h hgood hm
  go_enter Tryd.func9, Tryd.ntmps9
  go_wp2_with (fail)
  refine (Trim_c l HOK.out ok A c w HF0.out hc).mono ?_
  rw [HM.out]
  rintro e w1 ⟨v2, rfl, hn2, hb2⟩
  obtain ⟨A2, c2, rfl⟩ := Kd.N_slice hn2
  obtain ⟨h1, h2⟩ := An.mk0 hn2 HZ HG.out
  have HS := Aside0.mk h1
  have HF := Aside0.mk h2
  have HB := Aside0.mk hb2
  clear hn2 h1 h2 hb2 HF0 HOK HM
  go_wp2_with (fail)
  generalize w1.alloc (.cells #[.slice A2 m.length c2, .bool false] 47) = wA at HS HF ⊢
  obtain ⟨g, hg⟩ : ∃ g, w1.heap.size = g := ⟨_, rfl⟩
  have HGE : Aside0 (w1.heap.size ≤ g) := ⟨Nat.le_of_eq hg⟩
  rw [hg] at HS HF ⊢
  clear hg
  obtain ⟨n, hn⟩ : ∃ n, m.length = n := ⟨_, rfl⟩
  rw [hn]
  have hz2 : n ≤ 1000000000 := by omega
  have HN := Aside0.mk hn
  clear hn HZ hc
  go_loopg [20] n (fun gk v wr => ∃ k : Nat, n ≤ k + gk ∧ k ≤ n ∧ v = .int .i64 k ∧ Aside0 (An w1 wr g m false) ∧ Aside0 (Kd.F k51 wr (fun k => k ≠ g) A2 m.length m))
  case atStart => exact ⟨0, by omega, by omega, rfl, HS, HF⟩
  case round =>
    obtain ⟨k, hkn, hkl, rfl, HR, HFR⟩ := hrel
    clear HS HF
    by_cases hlt : k < n
    · as_aux_lemma =>
      obtain ⟨ad, A6, c6, hA2, x0, x1, x2, x3, x4, x5, x6, hl6, hi6⟩ := at_T51 (Kd.F_now HFR.out) k (by omega) (by have := HN.out; omega)
      subst hA2
      have e0 : rd_T51 m k = m.getD k z51 := rfl
      rw [e0] at x0 x1 x2 x3 x4 x5 x6 hl6 hi6
      obtain ⟨x, hx⟩ : ∃ x, m.getD k z51 = x := ⟨_, rfl⟩
      rw [hx] at x0 x1 x2 x3 x4 x5 x6 hl6 hi6
      rw [Int.toNat_natCast] at x0 x1 x2 x3 x4 x5 x6
      have HX := Aside0.mk hx
      have hkn2 : (k : Int) < (n : Int) := by omega
      clear hx e0 hl6 hi6
      have hox := HOP.out k (by have := HN.out; omega)
      rw [HX.out] at hox
      obtain ⟨b1, b2, b3⟩ := opB_no hox
      have b1i : decide ((0 : Int) < (x.f1.length : Int)) = false := decide_eq_false (by omega)
      have b1j : decide (0 < x.f1.length) = false := decide_eq_false (by omega)
      clear hox b1
      go_wp2
      go_roundg (gk - 1)
      case measure => omega
      case rel => exact ⟨k + 1, by omega, by omega, by go_num, ⟨HR.out.alloc _⟩, ⟨Kd.F_alloc HFR.out _⟩⟩
    · have hke : k = n := by omega
      have HS := HR
      clear HR HFR hlt hkn hkl
      subst hke
      have hsl : decide ((k : Int) < (k : Int)) = false := decide_eq_false (by omega)
      have hn1 : ((k : Int) == 1) = true := beq_iff_eq.2 (by have := HLN.out; have := HN.out; omega)
      go_wp2_with (first
        | (go_at_call 21; refine (see_c HS.out).mono ?_; rw [HK.out, HT.out]; rintro e w2 ⟨rfl, hb⟩; have h1 := HS.out.below hb; clear HS; obtain ⟨A, c, hc0, hc1, hf0, hf1, -, -⟩ := h1.c0; rw [HN.out] at hc0; have HS := Aside0.mk h1; clear hb h1))
      go_ret3
      exact ⟨rfl, HB.out.trans ((HS.out.fresh HGE.out).mono HB.out.size)⟩
set_option maxHeartbeats 8000000 in
set_option maxRecDepth 100000 in
theorem parse_2 (l : List N51) (h : Ok51 l) (hgood : ∀ x, x ∈ l → GoodN x) (ok : Nat → Prop) (A : Option Addr) (c : Nat) (w : World) (hf : Kd.F k51 w ok A l.length l) (hc : l.length ≤ c)
    (m : List N51) (hm : trimN l = m) (hop : ∀ j, j < m.length → opB (m.getD j z51) = false) (hlen : m.length = 1) (hk : seeK m = 1) (hodd : ¬ seeT m = ⟨#[111, 100, 100]⟩) (heven : seeT m = ⟨#[101, 118, 101, 110]⟩) :
    Calls Tryd.prog 9 #[.slice A l.length c] w fun e w' => e = .returned (.tuple #[.int .i64 2, .int .i64 0, .int .i64 0]) ∧ Below w.heap.size w w' := by
  obtain ⟨K, hK⟩ : ∃ K, seeK m = K := ⟨_, rfl⟩
  obtain ⟨T, hT⟩ : ∃ T, seeT m = T := ⟨_, rfl⟩
  rw [hK] at hk
  rw [hT] at hodd
  rw [hT] at heven
  have k1 : (K == 1) = true := beq_iff_eq.2 (by omega)
  have k10 : (K == 10) = false := beq_eq_false_iff_ne.2 (by omega)
  have t1 := str_eqF (show ¬ T = ⟨[111, 100, 100].toArray⟩ from hodd)
  have t2 := str_eqT (show T = ⟨[101, 118, 101, 110].toArray⟩ from heven)
  have HK := Aside0.mk hK
  have HT := Aside0.mk hT
  have HLN := Aside0.mk hlen
  clear hK hT hlen hk hodd heven
  have HG := Aside0.mk (good_trimN hgood)
  have HF0 := Aside0.mk hf
  have HOK := Aside0.mk h
  have HZ : (trimN l).length ≤ 1000000000 := Nat.le_trans (trimN_len l) h.len
  have HM := Aside0.mk hm
  rw [hm] at HG HZ
  have HOP := Aside0.mk hop
  clear hop
  clear hf h hgood hm
  go_enter Tryd.func9, Tryd.ntmps9
  go_wp2_with (fail)
  refine (Trim_c l HOK.out ok A c w HF0.out hc).mono ?_
  rw [HM.out]
  rintro e w1 ⟨v2, rfl, hn2, hb2⟩
  obtain ⟨A2, c2, rfl⟩ := Kd.N_slice hn2
  obtain ⟨h1, h2⟩ := An.mk0 hn2 HZ HG.out
  have HS := Aside0.mk h1
  have HF := Aside0.mk h2
  have HB := Aside0.mk hb2
  clear hn2 h1 h2 hb2 HF0 HOK HM
  go_wp2_with (fail)
  generalize w1.alloc (.cells #[.slice A2 m.length c2, .bool false] 47) = wA at HS HF ⊢
  obtain ⟨g, hg⟩ : ∃ g, w1.heap.size = g := ⟨_, rfl⟩
  have HGE : Aside0 (w1.heap.size ≤ g) := ⟨Nat.le_of_eq hg⟩
  rw [hg] at HS HF ⊢
  clear hg
  obtain ⟨n, hn⟩ : ∃ n, m.length = n := ⟨_, rfl⟩
  rw [hn]
  have hz2 : n ≤ 1000000000 := by omega
  have HN := Aside0.mk hn
  clear hn HZ hc
  go_loopg [20] n (fun gk v wr => ∃ k : Nat, n ≤ k + gk ∧ k ≤ n ∧ v = .int .i64 k ∧ Aside0 (An w1 wr g m false) ∧ Aside0 (Kd.F k51 wr (fun k => k ≠ g) A2 m.length m))
  case atStart => exact ⟨0, by omega, by omega, rfl, HS, HF⟩
  case round =>
    obtain ⟨k, hkn, hkl, rfl, HR, HFR⟩ := hrel
    clear HS HF
    by_cases hlt : k < n
    · as_aux_lemma =>
      obtain ⟨ad, A6, c6, hA2, x0, x1, x2, x3, x4, x5, x6, hl6, hi6⟩ := at_T51 (Kd.F_now HFR.out) k (by omega) (by have := HN.out; omega)
      subst hA2
      have e0 : rd_T51 m k = m.getD k z51 := rfl
      rw [e0] at x0 x1 x2 x3 x4 x5 x6 hl6 hi6
      obtain ⟨x, hx⟩ : ∃ x, m.getD k z51 = x := ⟨_, rfl⟩
      rw [hx] at x0 x1 x2 x3 x4 x5 x6 hl6 hi6
      rw [Int.toNat_natCast] at x0 x1 x2 x3 x4 x5 x6
      have HX := Aside0.mk hx
      have hkn2 : (k : Int) < (n : Int) := by omega
      clear hx e0 hl6 hi6
      have hox := HOP.out k (by have := HN.out; omega)
      rw [HX.out] at hox
      obtain ⟨b1, b2, b3⟩ := opB_no hox
      have b1i : decide ((0 : Int) < (x.f1.length : Int)) = false := decide_eq_false (by omega)
      have b1j : decide (0 < x.f1.length) = false := decide_eq_false (by omega)
      clear hox b1
      go_wp2
      go_roundg (gk - 1)
      case measure => omega
      case rel => exact ⟨k + 1, by omega, by omega, by go_num, ⟨HR.out.alloc _⟩, ⟨Kd.F_alloc HFR.out _⟩⟩
    · have hke : k = n := by omega
      have HS := HR
      clear HR HFR hlt hkn hkl
      subst hke
      have hsl : decide ((k : Int) < (k : Int)) = false := decide_eq_false (by omega)
      have hn1 : ((k : Int) == 1) = true := beq_iff_eq.2 (by have := HLN.out; have := HN.out; omega)
      go_wp2_with (first
        | (go_at_call 21; refine (see_c HS.out).mono ?_; rw [HK.out, HT.out]; rintro e w2 ⟨rfl, hb⟩; have h1 := HS.out.below hb; clear HS; obtain ⟨A, c, hc0, hc1, hf0, hf1, -, -⟩ := h1.c0; rw [HN.out] at hc0; have HS := Aside0.mk h1; clear hb h1))
      go_ret3
      exact ⟨rfl, HB.out.trans ((HS.out.fresh HGE.out).mono HB.out.size)⟩
set_option maxHeartbeats 8000000 in
set_option maxRecDepth 100000 in
theorem parse_3 (l : List N51) (h : Ok51 l) (hgood : ∀ x, x ∈ l → GoodN x) (ok : Nat → Prop) (A : Option Addr) (c : Nat) (w : World) (hf : Kd.F k51 w ok A l.length l) (hc : l.length ≤ c)
    (x9 : N51) (m : List N51) (hmx : m = [x9]) (hm : trimN l = m) (hop : ∀ j, j < m.length → opB (m.getD j z51) = false) (hk : seeK m = 10) (h3 : x9.f0.f3 = true) :
    Calls Tryd.prog 9 #[.slice A l.length c] w fun e w' => e = .returned (.tuple #[.int .i64 0, .int .i64 x9.f0.f2, .int .i64 0]) ∧ Below w.heap.size w w' := by
  obtain ⟨K, hK⟩ : ∃ K, seeK m = K := ⟨_, rfl⟩
  obtain ⟨T, hT⟩ : ∃ T, seeT m = T := ⟨_, rfl⟩
  rw [hK] at hk
  have k1 : (K == 1) = false := beq_eq_false_iff_ne.2 (by omega)
  have k10 : (K == 10) = true := beq_iff_eq.2 (by omega)
  have HK := Aside0.mk hK
  have HT := Aside0.mk hT
  have H3 := Aside0.mk h3
  have HMX := Aside0.mk hmx
  clear hK hT hk h3 hmx
  have HG := Aside0.mk (good_trimN hgood)
  have HF0 := Aside0.mk hf
  have HOK := Aside0.mk h
  have HZ : (trimN l).length ≤ 1000000000 := Nat.le_trans (trimN_len l) h.len
  have HM := Aside0.mk hm
  rw [hm] at HG HZ
  have HOP := Aside0.mk hop
  clear hop
  clear hf h hgood hm
  go_enter Tryd.func9, Tryd.ntmps9
  go_wp2_with (fail)
  refine (Trim_c l HOK.out ok A c w HF0.out hc).mono ?_
  rw [HM.out]
  rintro e w1 ⟨v2, rfl, hn2, hb2⟩
  obtain ⟨A2, c2, rfl⟩ := Kd.N_slice hn2
  obtain ⟨h1, h2⟩ := An.mk0 hn2 HZ HG.out
  have HS := Aside0.mk h1
  have HF := Aside0.mk h2
  have HB := Aside0.mk hb2
  clear hn2 h1 h2 hb2 HF0 HOK HM
  go_wp2_with (fail)
  generalize w1.alloc (.cells #[.slice A2 m.length c2, .bool false] 47) = wA at HS HF ⊢
  obtain ⟨g, hg⟩ : ∃ g, w1.heap.size = g := ⟨_, rfl⟩
  have HGE : Aside0 (w1.heap.size ≤ g) := ⟨Nat.le_of_eq hg⟩
  rw [hg] at HS HF ⊢
  clear hg
  obtain ⟨n, hn⟩ : ∃ n, m.length = n := ⟨_, rfl⟩
  rw [hn]
  have hz2 : n ≤ 1000000000 := by omega
  have HN := Aside0.mk hn
  clear hn HZ hc
  go_loopg [20] n (fun gk v wr => ∃ k : Nat, n ≤ k + gk ∧ k ≤ n ∧ v = .int .i64 k ∧ Aside0 (An w1 wr g m false) ∧ Aside0 (Kd.F k51 wr (fun k => k ≠ g) A2 m.length m))
  case atStart => exact ⟨0, by omega, by omega, rfl, HS, HF⟩
  case round =>
    obtain ⟨k, hkn, hkl, rfl, HR, HFR⟩ := hrel
    clear HS HF
    by_cases hlt : k < n
    · as_aux_lemma =>
      obtain ⟨ad, A6, c6, hA2, x0, x1, x2, x3, x4, x5, x6, hl6, hi6⟩ := at_T51 (Kd.F_now HFR.out) k (by omega) (by have := HN.out; omega)
      subst hA2
      have e0 : rd_T51 m k = m.getD k z51 := rfl
      rw [e0] at x0 x1 x2 x3 x4 x5 x6 hl6 hi6
      obtain ⟨x, hx⟩ : ∃ x, m.getD k z51 = x := ⟨_, rfl⟩
      rw [hx] at x0 x1 x2 x3 x4 x5 x6 hl6 hi6
      rw [Int.toNat_natCast] at x0 x1 x2 x3 x4 x5 x6
      have HX := Aside0.mk hx
      have hkn2 : (k : Int) < (n : Int) := by omega
      clear hx e0 hl6 hi6
      have hox := HOP.out k (by have := HN.out; omega)
      rw [HX.out] at hox
      obtain ⟨b1, b2, b3⟩ := opB_no hox
      have b1i : decide ((0 : Int) < (x.f1.length : Int)) = false := decide_eq_false (by omega)
      have b1j : decide (0 < x.f1.length) = false := decide_eq_false (by omega)
      clear hox b1
      go_wp2
      go_roundg (gk - 1)
      case measure => omega
      case rel => exact ⟨k + 1, by omega, by omega, by go_num, ⟨HR.out.alloc _⟩, ⟨Kd.F_alloc HFR.out _⟩⟩
    · have hke : k = n := by omega
      have HS := HR
      clear HR HFR hlt hkn hkl
      subst hke
      have hsl : decide ((k : Int) < (k : Int)) = false := decide_eq_false (by omega)
      have hm1 := HMX.out
      subst hm1
      go_wp2_with (first
        | (go_at_call 21; refine (see_c HS.out).mono ?_; rw [HK.out, HT.out]; rintro e w2 ⟨rfl, hb⟩; have h1 := HS.out.below hb; clear HS; obtain ⟨ad, n', c, A6, c6, A', c', m_, hc0, hc1, hf0, hf1, hn', hnm, x0, x1, x2, x3, x4, x5, x6, hl6, hi6, hN, hcut, hS, hM⟩ := h1.hd; rw [H3.out] at x3; have hn1 : ((n' : Int) == 1) = true := beq_iff_eq.2 (by have := hN.out; simp at this; omega); have hpos : decide (0 < n') = true := decide_eq_true hn'; have HS := Aside0.mk h1; clear hb h1 hcut hS hM hl6 hi6 hN))
      go_quiet (fail)
      go_wp2
      go_ret3
      exact ⟨rfl, HB.out.trans (((HS.out.drewN _).fresh HGE.out).mono HB.out.size)⟩
set_option maxHeartbeats 8000000 in
set_option maxRecDepth 100000 in
theorem parse_fa (l : List N51) (h : Ok51 l) (hgood : ∀ x, x ∈ l → GoodN x) (ok : Nat → Prop) (A : Option Addr) (c : Nat) (w : World) (hf : Kd.F k51 w ok A l.length l) (hc : l.length ≤ c)
    (m : List N51) (hm : trimN l = m) (hop : ∀ j, j < m.length → opB (m.getD j z51) = false) (hlen : ¬ m.length = 1) (a : Int) (r : ByteArray) (L : List N51) (hF1 : (fst5 m).1 = a) (hF2 : (fst5 m).2.1 = r) (hF3 : (fst5 m).2.2.1 = L) (hF4 : (fst5 m).2.2.2 = true) :
    Calls Tryd.prog 9 #[.slice A l.length c] w fun e w' => e = .returned (.tuple #[.int .i64 0, .int .i64 0, .int .i64 2]) ∧ Below w.heap.size w w' := by
  obtain ⟨K, hK⟩ : ∃ K, seeK m = K := ⟨_, rfl⟩
  obtain ⟨T, hT⟩ : ∃ T, seeT m = T := ⟨_, rfl⟩
  have HK := Aside0.mk hK
  have HT := Aside0.mk hT
  have HLN := Aside0.mk hlen
  clear hK hT hlen
  have HG := Aside0.mk (good_trimN hgood)
  have HF0 := Aside0.mk hf
  have HOK := Aside0.mk h
  have HZ : (trimN l).length ≤ 1000000000 := Nat.le_trans (trimN_len l) h.len
  have HM := Aside0.mk hm
  rw [hm] at HG HZ
  have HOP := Aside0.mk hop
  clear hop
  have HF_1 := Aside0.mk hF1
  clear hF1
  have HF_2 := Aside0.mk hF2
  clear hF2
  have HF_3 := Aside0.mk hF3
  clear hF3
  have HF_4 := Aside0.mk hF4
  clear hF4
  clear hf h hgood hm
  go_enter Tryd.func9, Tryd.ntmps9
  go_wp2_with (fail)
  refine (Trim_c l HOK.out ok A c w HF0.out hc).mono ?_
  rw [HM.out]
  rintro e w1 ⟨v2, rfl, hn2, hb2⟩
  obtain ⟨A2, c2, rfl⟩ := Kd.N_slice hn2
  obtain ⟨h1, h2⟩ := An.mk0 hn2 HZ HG.out
  have HS := Aside0.mk h1
  have HF := Aside0.mk h2
  have HB := Aside0.mk hb2
  clear hn2 h1 h2 hb2 HF0 HOK HM
  go_wp2_with (fail)
  generalize w1.alloc (.cells #[.slice A2 m.length c2, .bool false] 47) = wA at HS HF ⊢
  obtain ⟨g, hg⟩ : ∃ g, w1.heap.size = g := ⟨_, rfl⟩
  have HGE : Aside0 (w1.heap.size ≤ g) := ⟨Nat.le_of_eq hg⟩
  rw [hg] at HS HF ⊢
  clear hg
  obtain ⟨n, hn⟩ : ∃ n, m.length = n := ⟨_, rfl⟩
  rw [hn]
  have hz2 : n ≤ 1000000000 := by omega
  have HN := Aside0.mk hn
  clear hn HZ hc
  go_loopg [20] n (fun gk v wr => ∃ k : Nat, n ≤ k + gk ∧ k ≤ n ∧ v = .int .i64 k ∧ Aside0 (An w1 wr g m false) ∧ Aside0 (Kd.F k51 wr (fun k => k ≠ g) A2 m.length m))
  case atStart => exact ⟨0, by omega, by omega, rfl, HS, HF⟩
  case round =>
    obtain ⟨k, hkn, hkl, rfl, HR, HFR⟩ := hrel
    clear HS HF
    by_cases hlt : k < n
    · as_aux_lemma =>
      obtain ⟨ad, A6, c6, hA2, x0, x1, x2, x3, x4, x5, x6, hl6, hi6⟩ := at_T51 (Kd.F_now HFR.out) k (by omega) (by have := HN.out; omega)
      subst hA2
      have e0 : rd_T51 m k = m.getD k z51 := rfl
      rw [e0] at x0 x1 x2 x3 x4 x5 x6 hl6 hi6
      obtain ⟨x, hx⟩ : ∃ x, m.getD k z51 = x := ⟨_, rfl⟩
      rw [hx] at x0 x1 x2 x3 x4 x5 x6 hl6 hi6
      rw [Int.toNat_natCast] at x0 x1 x2 x3 x4 x5 x6
      have HX := Aside0.mk hx
      have hkn2 : (k : Int) < (n : Int) := by omega
      clear hx e0 hl6 hi6
      have hox := HOP.out k (by have := HN.out; omega)
      rw [HX.out] at hox
      obtain ⟨b1, b2, b3⟩ := opB_no hox
      have b1i : decide ((0 : Int) < (x.f1.length : Int)) = false := decide_eq_false (by omega)
      have b1j : decide (0 < x.f1.length) = false := decide_eq_false (by omega)
      clear hox b1
      go_wp2
      go_roundg (gk - 1)
      case measure => omega
      case rel => exact ⟨k + 1, by omega, by omega, by go_num, ⟨HR.out.alloc _⟩, ⟨Kd.F_alloc HFR.out _⟩⟩
    · have hke : k = n := by omega
      have HS := HR
      clear HR HFR hlt hkn hkl
      subst hke
      have hsl : decide ((k : Int) < (k : Int)) = false := decide_eq_false (by omega)
      have hn1 : ((k : Int) == 1) = false := beq_eq_false_iff_ne.2 (by have := HLN.out; have := HN.out; omega)
      go_wp2_with (first
        | (go_at_call 21; refine (see_c HS.out).mono ?_; rw [HK.out, HT.out]; rintro e w2 ⟨rfl, hb⟩; have h1 := HS.out.below hb; clear HS; obtain ⟨A, c, hc0, hc1, hf0, hf1, -, -⟩ := h1.c0; rw [HN.out] at hc0; have HS := Aside0.mk h1; clear hb h1)
        | (go_at_call 22; refine (first_c HS.out).mono ?_; rw [HF_1.out, HF_2.out, HF_3.out, HF_4.out]; rintro e w3 ⟨rfl, h1⟩; clear HS hc0 hc1 hf0 hf1; obtain ⟨A, c, hc0, hc1, hf0, hf1, -, -⟩ := h1.c0; have HS := Aside0.mk h1; clear h1))
      go_ret3
      exact ⟨rfl, HB.out.trans ((HS.out.fresh HGE.out).mono HB.out.size)⟩
set_option maxHeartbeats 8000000 in
set_option maxRecDepth 100000 in
theorem parse_sa (l : List N51) (h : Ok51 l) (hgood : ∀ x, x ∈ l → GoodN x) (ok : Nat → Prop) (A : Option Addr) (c : Nat) (w : World) (hf : Kd.F k51 w ok A l.length l) (hc : l.length ≤ c)
    (m : List N51) (hm : trimN l = m) (hop : ∀ j, j < m.length → opB (m.getD j z51) = false) (hlen : ¬ m.length = 1) (a : Int) (r : ByteArray) (L : List N51) (hF1 : (fst5 m).1 = a) (hF2 : (fst5 m).2.1 = r) (hF3 : (fst5 m).2.2.1 = L) (hF4 : (fst5 m).2.2.2 = false) (hr : r.size ≤ 1000000000) (b : Int) (L2 : List N51) (hS1 : (secP r L).1 = b) (hS2 : (secP r L).2.1 = L2) (hS3 : (secP r L).2.2 = true) :
    Calls Tryd.prog 9 #[.slice A l.length c] w fun e w' => e = .returned (.tuple #[.int .i64 0, .int .i64 0, .int .i64 2]) ∧ Below w.heap.size w w' := by
  obtain ⟨K, hK⟩ : ∃ K, seeK m = K := ⟨_, rfl⟩
  obtain ⟨T, hT⟩ : ∃ T, seeT m = T := ⟨_, rfl⟩
  have HR9 := Aside0.mk hr
  have HK := Aside0.mk hK
  have HT := Aside0.mk hT
  have HLN := Aside0.mk hlen
  clear hK hT hlen hr
  have HG := Aside0.mk (good_trimN hgood)
  have HF0 := Aside0.mk hf
  have HOK := Aside0.mk h
  have HZ : (trimN l).length ≤ 1000000000 := Nat.le_trans (trimN_len l) h.len
  have HM := Aside0.mk hm
  rw [hm] at HG HZ
  have HOP := Aside0.mk hop
  clear hop
  have HF_1 := Aside0.mk hF1
  clear hF1
  have HF_2 := Aside0.mk hF2
  clear hF2
  have HF_3 := Aside0.mk hF3
  clear hF3
  have HF_4 := Aside0.mk hF4
  clear hF4
  have HS_1 := Aside0.mk hS1
  clear hS1
  have HS_2 := Aside0.mk hS2
  clear hS2
  have HS_3 := Aside0.mk hS3
  clear hS3
  clear hf h hgood hm
  go_enter Tryd.func9, Tryd.ntmps9
  go_wp2_with (fail)
  refine (Trim_c l HOK.out ok A c w HF0.out hc).mono ?_
  rw [HM.out]
  rintro e w1 ⟨v2, rfl, hn2, hb2⟩
  obtain ⟨A2, c2, rfl⟩ := Kd.N_slice hn2
  obtain ⟨h1, h2⟩ := An.mk0 hn2 HZ HG.out
  have HS := Aside0.mk h1
  have HF := Aside0.mk h2
  have HB := Aside0.mk hb2
  clear hn2 h1 h2 hb2 HF0 HOK HM
  go_wp2_with (fail)
  generalize w1.alloc (.cells #[.slice A2 m.length c2, .bool false] 47) = wA at HS HF ⊢
  obtain ⟨g, hg⟩ : ∃ g, w1.heap.size = g := ⟨_, rfl⟩
  have HGE : Aside0 (w1.heap.size ≤ g) := ⟨Nat.le_of_eq hg⟩
  rw [hg] at HS HF ⊢
  clear hg
  obtain ⟨n, hn⟩ : ∃ n, m.length = n := ⟨_, rfl⟩
  rw [hn]
  have hz2 : n ≤ 1000000000 := by omega
  have HN := Aside0.mk hn
  clear hn HZ hc
  go_loopg [20] n (fun gk v wr => ∃ k : Nat, n ≤ k + gk ∧ k ≤ n ∧ v = .int .i64 k ∧ Aside0 (An w1 wr g m false) ∧ Aside0 (Kd.F k51 wr (fun k => k ≠ g) A2 m.length m))
  case atStart => exact ⟨0, by omega, by omega, rfl, HS, HF⟩
  case round =>
    obtain ⟨k, hkn, hkl, rfl, HR, HFR⟩ := hrel
    clear HS HF
    by_cases hlt : k < n
    · as_aux_lemma =>
      obtain ⟨ad, A6, c6, hA2, x0, x1, x2, x3, x4, x5, x6, hl6, hi6⟩ := at_T51 (Kd.F_now HFR.out) k (by omega) (by have := HN.out; omega)
      subst hA2
      have e0 : rd_T51 m k = m.getD k z51 := rfl
      rw [e0] at x0 x1 x2 x3 x4 x5 x6 hl6 hi6
      obtain ⟨x, hx⟩ : ∃ x, m.getD k z51 = x := ⟨_, rfl⟩
      rw [hx] at x0 x1 x2 x3 x4 x5 x6 hl6 hi6
      rw [Int.toNat_natCast] at x0 x1 x2 x3 x4 x5 x6
      have HX := Aside0.mk hx
      have hkn2 : (k : Int) < (n : Int) := by omega
      clear hx e0 hl6 hi6
      have hox := HOP.out k (by have := HN.out; omega)
      rw [HX.out] at hox
      obtain ⟨b1, b2, b3⟩ := opB_no hox
      have b1i : decide ((0 : Int) < (x.f1.length : Int)) = false := decide_eq_false (by omega)
      have b1j : decide (0 < x.f1.length) = false := decide_eq_false (by omega)
      clear hox b1
      go_wp2
      go_roundg (gk - 1)
      case measure => omega
      case rel => exact ⟨k + 1, by omega, by omega, by go_num, ⟨HR.out.alloc _⟩, ⟨Kd.F_alloc HFR.out _⟩⟩
    · have hke : k = n := by omega
      have HS := HR
      clear HR HFR hlt hkn hkl
      subst hke
      have hsl : decide ((k : Int) < (k : Int)) = false := decide_eq_false (by omega)
      have hn1 : ((k : Int) == 1) = false := beq_eq_false_iff_ne.2 (by have := HLN.out; have := HN.out; omega)
      go_wp2_with (first
        | (go_at_call 21; refine (see_c HS.out).mono ?_; rw [HK.out, HT.out]; rintro e w2 ⟨rfl, hb⟩; have h1 := HS.out.below hb; clear HS; obtain ⟨A, c, hc0, hc1, hf0, hf1, -, -⟩ := h1.c0; rw [HN.out] at hc0; have HS := Aside0.mk h1; clear hb h1)
        | (go_at_call 22; refine (first_c HS.out).mono ?_; rw [HF_1.out, HF_2.out, HF_3.out, HF_4.out]; rintro e w3 ⟨rfl, h1⟩; clear HS hc0 hc1 hf0 hf1; obtain ⟨A, c, hc0, hc1, hf0, hf1, -, -⟩ := h1.c0; have HS := Aside0.mk h1; clear h1)
        | (go_at_call 23; refine (second_c r HR9.out HS.out).mono ?_; rw [HS_1.out, HS_2.out, HS_3.out]; rintro e w4 ⟨rfl, h1⟩; clear HS hc0 hc1 hf0 hf1; obtain ⟨A, c, hc0, hc1, hf0, hf1, -, -⟩ := h1.c0; have HS := Aside0.mk h1; clear h1))
      go_ret3
      exact ⟨rfl, HB.out.trans ((HS.out.fresh HGE.out).mono HB.out.size)⟩
set_option maxHeartbeats 8000000 in
set_option maxRecDepth 100000 in
theorem parse_ta (l : List N51) (h : Ok51 l) (hgood : ∀ x, x ∈ l → GoodN x) (ok : Nat → Prop) (A : Option Addr) (c : Nat) (w : World) (hf : Kd.F k51 w ok A l.length l) (hc : l.length ≤ c)
    (m : List N51) (hm : trimN l = m) (hop : ∀ j, j < m.length → opB (m.getD j z51) = false) (hlen : ¬ m.length = 1) (a : Int) (r : ByteArray) (L : List N51) (hF1 : (fst5 m).1 = a) (hF2 : (fst5 m).2.1 = r) (hF3 : (fst5 m).2.2.1 = L) (hF4 : (fst5 m).2.2.2 = false) (hr : r.size ≤ 1000000000) (b : Int) (L2 : List N51) (hS1 : (secP r L).1 = b) (hS2 : (secP r L).2.1 = L2) (hS3 : (secP r L).2.2 = false) (hL : 0 < L2.length) :
    Calls Tryd.prog 9 #[.slice A l.length c] w fun e w' => e = .returned (.tuple #[.int .i64 0, .int .i64 0, .int .i64 2]) ∧ Below w.heap.size w w' := by
  obtain ⟨K, hK⟩ : ∃ K, seeK m = K := ⟨_, rfl⟩
  obtain ⟨T, hT⟩ : ∃ T, seeT m = T := ⟨_, rfl⟩
  have HR9 := Aside0.mk hr
  have hL0 : (0 : Int) < (L2.length : Int) := by omega
  have HK := Aside0.mk hK
  have HT := Aside0.mk hT
  have HLN := Aside0.mk hlen
  clear hK hT hlen hr hL
  have HG := Aside0.mk (good_trimN hgood)
  have HF0 := Aside0.mk hf
  have HOK := Aside0.mk h
  have HZ : (trimN l).length ≤ 1000000000 := Nat.le_trans (trimN_len l) h.len
  have HM := Aside0.mk hm
  rw [hm] at HG HZ
  have HOP := Aside0.mk hop
  clear hop
  have HF_1 := Aside0.mk hF1
  clear hF1
  have HF_2 := Aside0.mk hF2
  clear hF2
  have HF_3 := Aside0.mk hF3
  clear hF3
  have HF_4 := Aside0.mk hF4
  clear hF4
  have HS_1 := Aside0.mk hS1
  clear hS1
  have HS_2 := Aside0.mk hS2
  clear hS2
  have HS_3 := Aside0.mk hS3
  clear hS3
  clear hf h hgood hm
  go_enter Tryd.func9, Tryd.ntmps9
  go_wp2_with (fail)
  refine (Trim_c l HOK.out ok A c w HF0.out hc).mono ?_
  rw [HM.out]
  rintro e w1 ⟨v2, rfl, hn2, hb2⟩
  obtain ⟨A2, c2, rfl⟩ := Kd.N_slice hn2
  obtain ⟨h1, h2⟩ := An.mk0 hn2 HZ HG.out
  have HS := Aside0.mk h1
  have HF := Aside0.mk h2
  have HB := Aside0.mk hb2
  clear hn2 h1 h2 hb2 HF0 HOK HM
  go_wp2_with (fail)
  generalize w1.alloc (.cells #[.slice A2 m.length c2, .bool false] 47) = wA at HS HF ⊢
  obtain ⟨g, hg⟩ : ∃ g, w1.heap.size = g := ⟨_, rfl⟩
  have HGE : Aside0 (w1.heap.size ≤ g) := ⟨Nat.le_of_eq hg⟩
  rw [hg] at HS HF ⊢
  clear hg
  obtain ⟨n, hn⟩ : ∃ n, m.length = n := ⟨_, rfl⟩
  rw [hn]
  have hz2 : n ≤ 1000000000 := by omega
  have HN := Aside0.mk hn
  clear hn HZ hc
  go_loopg [20] n (fun gk v wr => ∃ k : Nat, n ≤ k + gk ∧ k ≤ n ∧ v = .int .i64 k ∧ Aside0 (An w1 wr g m false) ∧ Aside0 (Kd.F k51 wr (fun k => k ≠ g) A2 m.length m))
  case atStart => exact ⟨0, by omega, by omega, rfl, HS, HF⟩
  case round =>
    obtain ⟨k, hkn, hkl, rfl, HR, HFR⟩ := hrel
    clear HS HF
    by_cases hlt : k < n
    · as_aux_lemma =>
      obtain ⟨ad, A6, c6, hA2, x0, x1, x2, x3, x4, x5, x6, hl6, hi6⟩ := at_T51 (Kd.F_now HFR.out) k (by omega) (by have := HN.out; omega)
      subst hA2
      have e0 : rd_T51 m k = m.getD k z51 := rfl
      rw [e0] at x0 x1 x2 x3 x4 x5 x6 hl6 hi6
      obtain ⟨x, hx⟩ : ∃ x, m.getD k z51 = x := ⟨_, rfl⟩
      rw [hx] at x0 x1 x2 x3 x4 x5 x6 hl6 hi6
      rw [Int.toNat_natCast] at x0 x1 x2 x3 x4 x5 x6
      have HX := Aside0.mk hx
      have hkn2 : (k : Int) < (n : Int) := by omega
      clear hx e0 hl6 hi6
      have hox := HOP.out k (by have := HN.out; omega)
      rw [HX.out] at hox
      obtain ⟨b1, b2, b3⟩ := opB_no hox
      have b1i : decide ((0 : Int) < (x.f1.length : Int)) = false := decide_eq_false (by omega)
      have b1j : decide (0 < x.f1.length) = false := decide_eq_false (by omega)
      clear hox b1
      go_wp2
      go_roundg (gk - 1)
      case measure => omega
      case rel => exact ⟨k + 1, by omega, by omega, by go_num, ⟨HR.out.alloc _⟩, ⟨Kd.F_alloc HFR.out _⟩⟩
    · have hke : k = n := by omega
      have HS := HR
      clear HR HFR hlt hkn hkl
      subst hke
      have hsl : decide ((k : Int) < (k : Int)) = false := decide_eq_false (by omega)
      have hn1 : ((k : Int) == 1) = false := beq_eq_false_iff_ne.2 (by have := HLN.out; have := HN.out; omega)
      go_wp2_with (first
        | (go_at_call 21; refine (see_c HS.out).mono ?_; rw [HK.out, HT.out]; rintro e w2 ⟨rfl, hb⟩; have h1 := HS.out.below hb; clear HS; obtain ⟨A, c, hc0, hc1, hf0, hf1, -, -⟩ := h1.c0; rw [HN.out] at hc0; have HS := Aside0.mk h1; clear hb h1)
        | (go_at_call 22; refine (first_c HS.out).mono ?_; rw [HF_1.out, HF_2.out, HF_3.out, HF_4.out]; rintro e w3 ⟨rfl, h1⟩; clear HS hc0 hc1 hf0 hf1; obtain ⟨A, c, hc0, hc1, hf0, hf1, -, -⟩ := h1.c0; have HS := Aside0.mk h1; clear h1)
        | (go_at_call 23; refine (second_c r HR9.out HS.out).mono ?_; rw [HS_1.out, HS_2.out, HS_3.out]; rintro e w4 ⟨rfl, h1⟩; clear HS hc0 hc1 hf0 hf1; obtain ⟨A, c, hc0, hc1, hf0, hf1, -, -⟩ := h1.c0; have HS := Aside0.mk h1; clear h1))
      go_ret3
      exact ⟨rfl, HB.out.trans ((HS.out.fresh HGE.out).mono HB.out.size)⟩
set_option maxHeartbeats 8000000 in
set_option maxRecDepth 100000 in
theorem parse_ua (l : List N51) (h : Ok51 l) (hgood : ∀ x, x ∈ l → GoodN x) (ok : Nat → Prop) (A : Option Addr) (c : Nat) (w : World) (hf : Kd.F k51 w ok A l.length l) (hc : l.length ≤ c)
    (m : List N51) (hm : trimN l = m) (hop : ∀ j, j < m.length → opB (m.getD j z51) = false) (hlen : ¬ m.length = 1) (a : Int) (r : ByteArray) (L : List N51) (hF1 : (fst5 m).1 = a) (hF2 : (fst5 m).2.1 = r) (hF3 : (fst5 m).2.2.1 = L) (hF4 : (fst5 m).2.2.2 = false) (hr : r.size ≤ 1000000000) (b : Int) (hS1 : (secP r L).1 = b) (hS2 : (secP r L).2.1 = []) (hS3 : (secP r L).2.2 = false) :
    Calls Tryd.prog 9 #[.slice A l.length c] w fun e w' => e = .returned (.tuple #[.int .i64 a, .int .i64 b, .int .i64 0]) ∧ Below w.heap.size w w' := by
  obtain ⟨K, hK⟩ : ∃ K, seeK m = K := ⟨_, rfl⟩
  obtain ⟨T, hT⟩ : ∃ T, seeT m = T := ⟨_, rfl⟩
  have HR9 := Aside0.mk hr
  have HK := Aside0.mk hK
  have HT := Aside0.mk hT
  have HLN := Aside0.mk hlen
  clear hK hT hlen hr
  have HG := Aside0.mk (good_trimN hgood)
  have HF0 := Aside0.mk hf
  have HOK := Aside0.mk h
  have HZ : (trimN l).length ≤ 1000000000 := Nat.le_trans (trimN_len l) h.len
  have HM := Aside0.mk hm
  rw [hm] at HG HZ
  have HOP := Aside0.mk hop
  clear hop
  have HF_1 := Aside0.mk hF1
  clear hF1
  have HF_2 := Aside0.mk hF2
  clear hF2
  have HF_3 := Aside0.mk hF3
  clear hF3
  have HF_4 := Aside0.mk hF4
  clear hF4
  have HS_1 := Aside0.mk hS1
  clear hS1
  have HS_2 := Aside0.mk hS2
  clear hS2
  have HS_3 := Aside0.mk hS3
  clear hS3
  clear hf h hgood hm
  go_enter Tryd.func9, Tryd.ntmps9
  go_wp2_with (fail)
  refine (Trim_c l HOK.out ok A c w HF0.out hc).mono ?_
  rw [HM.out]
  rintro e w1 ⟨v2, rfl, hn2, hb2⟩
  obtain ⟨A2, c2, rfl⟩ := Kd.N_slice hn2
  obtain ⟨h1, h2⟩ := An.mk0 hn2 HZ HG.out
  have HS := Aside0.mk h1
  have HF := Aside0.mk h2
  have HB := Aside0.mk hb2
  clear hn2 h1 h2 hb2 HF0 HOK HM
  go_wp2_with (fail)
  generalize w1.alloc (.cells #[.slice A2 m.length c2, .bool false] 47) = wA at HS HF ⊢
  obtain ⟨g, hg⟩ : ∃ g, w1.heap.size = g := ⟨_, rfl⟩
  have HGE : Aside0 (w1.heap.size ≤ g) := ⟨Nat.le_of_eq hg⟩
  rw [hg] at HS HF ⊢
  clear hg
  obtain ⟨n, hn⟩ : ∃ n, m.length = n := ⟨_, rfl⟩
  rw [hn]
  have hz2 : n ≤ 1000000000 := by omega
  have HN := Aside0.mk hn
  clear hn HZ hc
  go_loopg [20] n (fun gk v wr => ∃ k : Nat, n ≤ k + gk ∧ k ≤ n ∧ v = .int .i64 k ∧ Aside0 (An w1 wr g m false) ∧ Aside0 (Kd.F k51 wr (fun k => k ≠ g) A2 m.length m))
  case atStart => exact ⟨0, by omega, by omega, rfl, HS, HF⟩
  case round =>
    obtain ⟨k, hkn, hkl, rfl, HR, HFR⟩ := hrel
    clear HS HF
    by_cases hlt : k < n
    · as_aux_lemma =>
      obtain ⟨ad, A6, c6, hA2, x0, x1, x2, x3, x4, x5, x6, hl6, hi6⟩ := at_T51 (Kd.F_now HFR.out) k (by omega) (by have := HN.out; omega)
      subst hA2
      have e0 : rd_T51 m k = m.getD k z51 := rfl
      rw [e0] at x0 x1 x2 x3 x4 x5 x6 hl6 hi6
      obtain ⟨x, hx⟩ : ∃ x, m.getD k z51 = x := ⟨_, rfl⟩
      rw [hx] at x0 x1 x2 x3 x4 x5 x6 hl6 hi6
      rw [Int.toNat_natCast] at x0 x1 x2 x3 x4 x5 x6
      have HX := Aside0.mk hx
      have hkn2 : (k : Int) < (n : Int) := by omega
      clear hx e0 hl6 hi6
      have hox := HOP.out k (by have := HN.out; omega)
      rw [HX.out] at hox
      obtain ⟨b1, b2, b3⟩ := opB_no hox
      have b1i : decide ((0 : Int) < (x.f1.length : Int)) = false := decide_eq_false (by omega)
      have b1j : decide (0 < x.f1.length) = false := decide_eq_false (by omega)
      clear hox b1
      go_wp2
      go_roundg (gk - 1)
      case measure => omega
      case rel => exact ⟨k + 1, by omega, by omega, by go_num, ⟨HR.out.alloc _⟩, ⟨Kd.F_alloc HFR.out _⟩⟩
    · have hke : k = n := by omega
      have HS := HR
      clear HR HFR hlt hkn hkl
      subst hke
      have hsl : decide ((k : Int) < (k : Int)) = false := decide_eq_false (by omega)
      have hn1 : ((k : Int) == 1) = false := beq_eq_false_iff_ne.2 (by have := HLN.out; have := HN.out; omega)
      go_wp2_with (first
        | (go_at_call 21; refine (see_c HS.out).mono ?_; rw [HK.out, HT.out]; rintro e w2 ⟨rfl, hb⟩; have h1 := HS.out.below hb; clear HS; obtain ⟨A, c, hc0, hc1, hf0, hf1, -, -⟩ := h1.c0; rw [HN.out] at hc0; have HS := Aside0.mk h1; clear hb h1)
        | (go_at_call 22; refine (first_c HS.out).mono ?_; rw [HF_1.out, HF_2.out, HF_3.out, HF_4.out]; rintro e w3 ⟨rfl, h1⟩; clear HS hc0 hc1 hf0 hf1; obtain ⟨A, c, hc0, hc1, hf0, hf1, -, -⟩ := h1.c0; have HS := Aside0.mk h1; clear h1)
        | (go_at_call 23; refine (second_c r HR9.out HS.out).mono ?_; rw [HS_1.out, HS_2.out, HS_3.out]; rintro e w4 ⟨rfl, h1⟩; clear HS hc0 hc1 hf0 hf1; obtain ⟨A, c, hc0, hc1, hf0, hf1, -, -⟩ := h1.c0; have HS := Aside0.mk h1; clear h1))
      go_ret3
      exact ⟨rfl, HB.out.trans ((HS.out.fresh HGE.out).mono HB.out.size)⟩
set_option maxHeartbeats 8000000 in
set_option maxRecDepth 100000 in
theorem parse_fb (l : List N51) (h : Ok51 l) (hgood : ∀ x, x ∈ l → GoodN x) (ok : Nat → Prop) (A : Option Addr) (c : Nat) (w : World) (hf : Kd.F k51 w ok A l.length l) (hc : l.length ≤ c)
    (m : List N51) (hm : trimN l = m) (hop : ∀ j, j < m.length → opB (m.getD j z51) = false) (hlen : m.length = 1) (hk : seeK m = 1) (hodd : ¬ seeT m = ⟨#[111, 100, 100]⟩) (heven : ¬ seeT m = ⟨#[101, 118, 101, 110]⟩) (a : Int) (r : ByteArray) (L : List N51) (hF1 : (fst5 m).1 = a) (hF2 : (fst5 m).2.1 = r) (hF3 : (fst5 m).2.2.1 = L) (hF4 : (fst5 m).2.2.2 = true) :
    Calls Tryd.prog 9 #[.slice A l.length c] w fun e w' => e = .returned (.tuple #[.int .i64 0, .int .i64 0, .int .i64 2]) ∧ Below w.heap.size w w' := by
  obtain ⟨K, hK⟩ : ∃ K, seeK m = K := ⟨_, rfl⟩
  obtain ⟨T, hT⟩ : ∃ T, seeT m = T := ⟨_, rfl⟩
  rw [hK] at hk
  rw [hT] at hodd
  rw [hT] at heven
  have k1 : (K == 1) = true := beq_iff_eq.2 (by omega)
  have k10 : (K == 10) = false := beq_eq_false_iff_ne.2 (by omega)
  have t1 := str_eqF (show ¬ T = ⟨[111, 100, 100].toArray⟩ from hodd)
  have t2 := str_eqF (show ¬ T = ⟨[101, 118, 101, 110].toArray⟩ from heven)
  have HK := Aside0.mk hK
  have HT := Aside0.mk hT
  have HLN := Aside0.mk hlen
  clear hK hT hlen hk hodd heven
  have HG := Aside0.mk (good_trimN hgood)
  have HF0 := Aside0.mk hf
  have HOK := Aside0.mk h
  have HZ : (trimN l).length ≤ 1000000000 := Nat.le_trans (trimN_len l) h.len
  have HM := Aside0.mk hm
  rw [hm] at HG HZ
  have HOP := Aside0.mk hop
  clear hop
  have HF_1 := Aside0.mk hF1
  clear hF1
  have HF_2 := Aside0.mk hF2
  clear hF2
  have HF_3 := Aside0.mk hF3
  clear hF3
  have HF_4 := Aside0.mk hF4
  clear hF4
  clear hf h hgood hm
  go_enter Tryd.func9, Tryd.ntmps9
  go_wp2_with (fail)
  refine (Trim_c l HOK.out ok A c w HF0.out hc).mono ?_
  rw [HM.out]
  rintro e w1 ⟨v2, rfl, hn2, hb2⟩
  obtain ⟨A2, c2, rfl⟩ := Kd.N_slice hn2
  obtain ⟨h1, h2⟩ := An.mk0 hn2 HZ HG.out
  have HS := Aside0.mk h1
  have HF := Aside0.mk h2
  have HB := Aside0.mk hb2
  clear hn2 h1 h2 hb2 HF0 HOK HM
  go_wp2_with (fail)
  generalize w1.alloc (.cells #[.slice A2 m.length c2, .bool false] 47) = wA at HS HF ⊢
  obtain ⟨g, hg⟩ : ∃ g, w1.heap.size = g := ⟨_, rfl⟩
  have HGE : Aside0 (w1.heap.size ≤ g) := ⟨Nat.le_of_eq hg⟩
  rw [hg] at HS HF ⊢
  clear hg
  obtain ⟨n, hn⟩ : ∃ n, m.length = n := ⟨_, rfl⟩
  rw [hn]
  have hz2 : n ≤ 1000000000 := by omega
  have HN := Aside0.mk hn
  clear hn HZ hc
  go_loopg [20] n (fun gk v wr => ∃ k : Nat, n ≤ k + gk ∧ k ≤ n ∧ v = .int .i64 k ∧ Aside0 (An w1 wr g m false) ∧ Aside0 (Kd.F k51 wr (fun k => k ≠ g) A2 m.length m))
  case atStart => exact ⟨0, by omega, by omega, rfl, HS, HF⟩
  case round =>
    obtain ⟨k, hkn, hkl, rfl, HR, HFR⟩ := hrel
    clear HS HF
    by_cases hlt : k < n
    · as_aux_lemma =>
      obtain ⟨ad, A6, c6, hA2, x0, x1, x2, x3, x4, x5, x6, hl6, hi6⟩ := at_T51 (Kd.F_now HFR.out) k (by omega) (by have := HN.out; omega)
      subst hA2
      have e0 : rd_T51 m k = m.getD k z51 := rfl
      rw [e0] at x0 x1 x2 x3 x4 x5 x6 hl6 hi6
      obtain ⟨x, hx⟩ : ∃ x, m.getD k z51 = x := ⟨_, rfl⟩
      rw [hx] at x0 x1 x2 x3 x4 x5 x6 hl6 hi6
      rw [Int.toNat_natCast] at x0 x1 x2 x3 x4 x5 x6
      have HX := Aside0.mk hx
      have hkn2 : (k : Int) < (n : Int) := by omega
      clear hx e0 hl6 hi6
      have hox := HOP.out k (by have := HN.out; omega)
      rw [HX.out] at hox
      obtain ⟨b1, b2, b3⟩ := opB_no hox
      have b1i : decide ((0 : Int) < (x.f1.length : Int)) = false := decide_eq_false (by omega)
      have b1j : decide (0 < x.f1.length) = false := decide_eq_false (by omega)
      clear hox b1
      go_wp2
      go_roundg (gk - 1)
      case measure => omega
      case rel => exact ⟨k + 1, by omega, by omega, by go_num, ⟨HR.out.alloc _⟩, ⟨Kd.F_alloc HFR.out _⟩⟩
    · have hke : k = n := by omega
      have HS := HR
      clear HR HFR hlt hkn hkl
      subst hke
      have hsl : decide ((k : Int) < (k : Int)) = false := decide_eq_false (by omega)
      have hn1 : ((k : Int) == 1) = true := beq_iff_eq.2 (by have := HLN.out; have := HN.out; omega)
      go_wp2_with (first
        | (go_at_call 21; refine (see_c HS.out).mono ?_; rw [HK.out, HT.out]; rintro e w2 ⟨rfl, hb⟩; have h1 := HS.out.below hb; clear HS; obtain ⟨A, c, hc0, hc1, hf0, hf1, -, -⟩ := h1.c0; rw [HN.out] at hc0; have HS := Aside0.mk h1; clear hb h1)
        | (go_at_call 22; refine (first_c HS.out).mono ?_; rw [HF_1.out, HF_2.out, HF_3.out, HF_4.out]; rintro e w3 ⟨rfl, h1⟩; clear HS hc0 hc1 hf0 hf1; obtain ⟨A, c, hc0, hc1, hf0, hf1, -, -⟩ := h1.c0; have HS := Aside0.mk h1; clear h1))
      go_ret3
      exact ⟨rfl, HB.out.trans ((HS.out.fresh HGE.out).mono HB.out.size)⟩
set_option maxHeartbeats 8000000 in
set_option maxRecDepth 100000 in
theorem parse_sb (l : List N51) (h : Ok51 l) (hgood : ∀ x, x ∈ l → GoodN x) (ok : Nat → Prop) (A : Option Addr) (c : Nat) (w : World) (hf : Kd.F k51 w ok A l.length l) (hc : l.length ≤ c)
    (m : List N51) (hm : trimN l = m) (hop : ∀ j, j < m.length → opB (m.getD j z51) = false) (hlen : m.length = 1) (hk : seeK m = 1) (hodd : ¬ seeT m = ⟨#[111, 100, 100]⟩) (heven : ¬ seeT m = ⟨#[101, 118, 101, 110]⟩) (a : Int) (r : ByteArray) (L : List N51) (hF1 : (fst5 m).1 = a) (hF2 : (fst5 m).2.1 = r) (hF3 : (fst5 m).2.2.1 = L) (hF4 : (fst5 m).2.2.2 = false) (hr : r.size ≤ 1000000000) (b : Int) (L2 : List N51) (hS1 : (secP r L).1 = b) (hS2 : (secP r L).2.1 = L2) (hS3 : (secP r L).2.2 = true) :
    Calls Tryd.prog 9 #[.slice A l.length c] w fun e w' => e = .returned (.tuple #[.int .i64 0, .int .i64 0, .int .i64 2]) ∧ Below w.heap.size w w' := by
  obtain ⟨K, hK⟩ : ∃ K, seeK m = K := ⟨_, rfl⟩
  obtain ⟨T, hT⟩ : ∃ T, seeT m = T := ⟨_, rfl⟩
  rw [hK] at hk
  rw [hT] at hodd
  rw [hT] at heven
  have k1 : (K == 1) = true := beq_iff_eq.2 (by omega)
  have k10 : (K == 10) = false := beq_eq_false_iff_ne.2 (by omega)
  have t1 := str_eqF (show ¬ T = ⟨[111, 100, 100].toArray⟩ from hodd)
  have t2 := str_eqF (show ¬ T = ⟨[101, 118, 101, 110].toArray⟩ from heven)
  have HR9 := Aside0.mk hr
  have HK := Aside0.mk hK
  have HT := Aside0.mk hT
  have HLN := Aside0.mk hlen
  clear hK hT hlen hk hodd heven hr
  have HG := Aside0.mk (good_trimN hgood)
  have HF0 := Aside0.mk hf
  have HOK := Aside0.mk h
  have HZ : (trimN l).length ≤ 1000000000 := Nat.le_trans (trimN_len l) h.len
  have HM := Aside0.mk hm
  rw [hm] at HG HZ
  have HOP := Aside0.mk hop
  clear hop
  have HF_1 := Aside0.mk hF1
  clear hF1
  have HF_2 := Aside0.mk hF2
  clear hF2
  have HF_3 := Aside0.mk hF3
  clear hF3
  have HF_4 := Aside0.mk hF4
  clear hF4
  have HS_1 := Aside0.mk hS1
  clear hS1
  have HS_2 := Aside0.mk hS2
  clear hS2
  have HS_3 := Aside0.mk hS3
  clear hS3
  clear hf h hgood hm
  go_enter Tryd.func9, Tryd.ntmps9
  go_wp2_with (fail)
  refine (Trim_c l HOK.out ok A c w HF0.out hc).mono ?_
  rw [HM.out]
  rintro e w1 ⟨v2, rfl, hn2, hb2⟩
  obtain ⟨A2, c2, rfl⟩ := Kd.N_slice hn2
  obtain ⟨h1, h2⟩ := An.mk0 hn2 HZ HG.out
  have HS := Aside0.mk h1
  have HF := Aside0.mk h2
  have HB := Aside0.mk hb2
  clear hn2 h1 h2 hb2 HF0 HOK HM
  go_wp2_with (fail)
  generalize w1.alloc (.cells #[.slice A2 m.length c2, .bool false] 47) = wA at HS HF ⊢
  obtain ⟨g, hg⟩ : ∃ g, w1.heap.size = g := ⟨_, rfl⟩
  have HGE : Aside0 (w1.heap.size ≤ g) := ⟨Nat.le_of_eq hg⟩
  rw [hg] at HS HF ⊢
  clear hg
  obtain ⟨n, hn⟩ : ∃ n, m.length = n := ⟨_, rfl⟩
  rw [hn]
  have hz2 : n ≤ 1000000000 := by omega
  have HN := Aside0.mk hn
  clear hn HZ hc
  go_loopg [20] n (fun gk v wr => ∃ k : Nat, n ≤ k + gk ∧ k ≤ n ∧ v = .int .i64 k ∧ Aside0 (An w1 wr g m false) ∧ Aside0 (Kd.F k51 wr (fun k => k ≠ g) A2 m.length m))
  case atStart => exact ⟨0, by omega, by omega, rfl, HS, HF⟩
  case round =>
    obtain ⟨k, hkn, hkl, rfl, HR, HFR⟩ := hrel
    clear HS HF
    by_cases hlt : k < n
    · as_aux_lemma =>
      obtain ⟨ad, A6, c6, hA2, x0, x1, x2, x3, x4, x5, x6, hl6, hi6⟩ := at_T51 (Kd.F_now HFR.out) k (by omega) (by have := HN.out; omega)
      subst hA2
      have e0 : rd_T51 m k = m.getD k z51 := rfl
      rw [e0] at x0 x1 x2 x3 x4 x5 x6 hl6 hi6
      obtain ⟨x, hx⟩ : ∃ x, m.getD k z51 = x := ⟨_, rfl⟩
      rw [hx] at x0 x1 x2 x3 x4 x5 x6 hl6 hi6
      rw [Int.toNat_natCast] at x0 x1 x2 x3 x4 x5 x6
      have HX := Aside0.mk hx
      have hkn2 : (k : Int) < (n : Int) := by omega
      clear hx e0 hl6 hi6
      have hox := HOP.out k (by have := HN.out; omega)
      rw [HX.out] at hox
      obtain ⟨b1, b2, b3⟩ := opB_no hox
      have b1i : decide ((0 : Int) < (x.f1.length : Int)) = false := decide_eq_false (by omega)
      have b1j : decide (0 < x.f1.length) = false := decide_eq_false (by omega)
      clear hox b1
      go_wp2
      go_roundg (gk - 1)
      case measure => omega
      case rel => exact ⟨k + 1, by omega, by omega, by go_num, ⟨HR.out.alloc _⟩, ⟨Kd.F_alloc HFR.out _⟩⟩
    · have hke : k = n := by omega
      have HS := HR
      clear HR HFR hlt hkn hkl
      subst hke
      have hsl : decide ((k : Int) < (k : Int)) = false := decide_eq_false (by omega)
      have hn1 : ((k : Int) == 1) = true := beq_iff_eq.2 (by have := HLN.out; have := HN.out; omega)
      go_wp2_with (first
        | (go_at_call 21; refine (see_c HS.out).mono ?_; rw [HK.out, HT.out]; rintro e w2 ⟨rfl, hb⟩; have h1 := HS.out.below hb; clear HS; obtain ⟨A, c, hc0, hc1, hf0, hf1, -, -⟩ := h1.c0; rw [HN.out] at hc0; have HS := Aside0.mk h1; clear hb h1)
        | (go_at_call 22; refine (first_c HS.out).mono ?_; rw [HF_1.out, HF_2.out, HF_3.out, HF_4.out]; rintro e w3 ⟨rfl, h1⟩; clear HS hc0 hc1 hf0 hf1; obtain ⟨A, c, hc0, hc1, hf0, hf1, -, -⟩ := h1.c0; have HS := Aside0.mk h1; clear h1)
        | (go_at_call 23; refine (second_c r HR9.out HS.out).mono ?_; rw [HS_1.out, HS_2.out, HS_3.out]; rintro e w4 ⟨rfl, h1⟩; clear HS hc0 hc1 hf0 hf1; obtain ⟨A, c, hc0, hc1, hf0, hf1, -, -⟩ := h1.c0; have HS := Aside0.mk h1; clear h1))
      go_ret3
      exact ⟨rfl, HB.out.trans ((HS.out.fresh HGE.out).mono HB.out.size)⟩
set_option maxHeartbeats 8000000 in
set_option maxRecDepth 100000 in
theorem parse_tb (l : List N51) (h : Ok51 l) (hgood : ∀ x, x ∈ l → GoodN x) (ok : Nat → Prop) (A : Option Addr) (c : Nat) (w : World) (hf : Kd.F k51 w ok A l.length l) (hc : l.length ≤ c)
    (m : List N51) (hm : trimN l = m) (hop : ∀ j, j < m.length → opB (m.getD j z51) = false) (hlen : m.length = 1) (hk : seeK m = 1) (hodd : ¬ seeT m = ⟨#[111, 100, 100]⟩) (heven : ¬ seeT m = ⟨#[101, 118, 101, 110]⟩) (a : Int) (r : ByteArray) (L : List N51) (hF1 : (fst5 m).1 = a) (hF2 : (fst5 m).2.1 = r) (hF3 : (fst5 m).2.2.1 = L) (hF4 : (fst5 m).2.2.2 = false) (hr : r.size ≤ 1000000000) (b : Int) (L2 : List N51) (hS1 : (secP r L).1 = b) (hS2 : (secP r L).2.1 = L2) (hS3 : (secP r L).2.2 = false) (hL : 0 < L2.length) :
    Calls Tryd.prog 9 #[.slice A l.length c] w fun e w' => e = .returned (.tuple #[.int .i64 0, .int .i64 0, .int .i64 2]) ∧ Below w.heap.size w w' := by
  obtain ⟨K, hK⟩ : ∃ K, seeK m = K := ⟨_, rfl⟩
  obtain ⟨T, hT⟩ : ∃ T, seeT m = T := ⟨_, rfl⟩
  rw [hK] at hk
  rw [hT] at hodd
  rw [hT] at heven
  have k1 : (K == 1) = true := beq_iff_eq.2 (by omega)
  have k10 : (K == 10) = false := beq_eq_false_iff_ne.2 (by omega)
  have t1 := str_eqF (show ¬ T = ⟨[111, 100, 100].toArray⟩ from hodd)
  have t2 := str_eqF (show ¬ T = ⟨[101, 118, 101, 110].toArray⟩ from heven)
  have HR9 := Aside0.mk hr
  have hL0 : (0 : Int) < (L2.length : Int) := by omega
  have HK := Aside0.mk hK
  have HT := Aside0.mk hT
  have HLN := Aside0.mk hlen
  clear hK hT hlen hk hodd heven hr hL
  have HG := Aside0.mk (good_trimN hgood)
  have HF0 := Aside0.mk hf
  have HOK := Aside0.mk h
  have HZ : (trimN l).length ≤ 1000000000 := Nat.le_trans (trimN_len l) h.len
  have HM := Aside0.mk hm
  rw [hm] at HG HZ
  have HOP := Aside0.mk hop
  clear hop
  have HF_1 := Aside0.mk hF1
  clear hF1
  have HF_2 := Aside0.mk hF2
  clear hF2
  have HF_3 := Aside0.mk hF3
  clear hF3
  have HF_4 := Aside0.mk hF4
  clear hF4
  have HS_1 := Aside0.mk hS1
  clear hS1
  have HS_2 := Aside0.mk hS2
  clear hS2
  have HS_3 := Aside0.mk hS3
  clear hS3
  clear hf h hgood hm
  go_enter Tryd.func9, Tryd.ntmps9
  go_wp2_with (fail)
  refine (Trim_c l HOK.out ok A c w HF0.out hc).mono ?_
  rw [HM.out]
  rintro e w1 ⟨v2, rfl, hn2, hb2⟩
  obtain ⟨A2, c2, rfl⟩ := Kd.N_slice hn2
  obtain ⟨h1, h2⟩ := An.mk0 hn2 HZ HG.out
  have HS := Aside0.mk h1
  have HF := Aside0.mk h2
  have HB := Aside0.mk hb2
  clear hn2 h1 h2 hb2 HF0 HOK HM
  go_wp2_with (fail)
  generalize w1.alloc (.cells #[.slice A2 m.length c2, .bool false] 47) = wA at HS HF ⊢
  obtain ⟨g, hg⟩ : ∃ g, w1.heap.size = g := ⟨_, rfl⟩
  have HGE : Aside0 (w1.heap.size ≤ g) := ⟨Nat.le_of_eq hg⟩
  rw [hg] at HS HF ⊢
  clear hg
  obtain ⟨n, hn⟩ : ∃ n, m.length = n := ⟨_, rfl⟩
  rw [hn]
  have hz2 : n ≤ 1000000000 := by omega
  have HN := Aside0.mk hn
  clear hn HZ hc
  go_loopg [20] n (fun gk v wr => ∃ k : Nat, n ≤ k + gk ∧ k ≤ n ∧ v = .int .i64 k ∧ Aside0 (An w1 wr g m false) ∧ Aside0 (Kd.F k51 wr (fun k => k ≠ g) A2 m.length m))
  case atStart => exact ⟨0, by omega, by omega, rfl, HS, HF⟩
  case round =>
    obtain ⟨k, hkn, hkl, rfl, HR, HFR⟩ := hrel
    clear HS HF
    by_cases hlt : k < n
    · as_aux_lemma =>
      obtain ⟨ad, A6, c6, hA2, x0, x1, x2, x3, x4, x5, x6, hl6, hi6⟩ := at_T51 (Kd.F_now HFR.out) k (by omega) (by have := HN.out; omega)
      subst hA2
      have e0 : rd_T51 m k = m.getD k z51 := rfl
      rw [e0] at x0 x1 x2 x3 x4 x5 x6 hl6 hi6
      obtain ⟨x, hx⟩ : ∃ x, m.getD k z51 = x := ⟨_, rfl⟩
      rw [hx] at x0 x1 x2 x3 x4 x5 x6 hl6 hi6
      rw [Int.toNat_natCast] at x0 x1 x2 x3 x4 x5 x6
      have HX := Aside0.mk hx
      have hkn2 : (k : Int) < (n : Int) := by omega
      clear hx e0 hl6 hi6
      have hox := HOP.out k (by have := HN.out; omega)
      rw [HX.out] at hox
      obtain ⟨b1, b2, b3⟩ := opB_no hox
      have b1i : decide ((0 : Int) < (x.f1.length : Int)) = false := decide_eq_false (by omega)
      have b1j : decide (0 < x.f1.length) = false := decide_eq_false (by omega)
      clear hox b1
      go_wp2
      go_roundg (gk - 1)
      case measure => omega
      case rel => exact ⟨k + 1, by omega, by omega, by go_num, ⟨HR.out.alloc _⟩, ⟨Kd.F_alloc HFR.out _⟩⟩
    · have hke : k = n := by omega
      have HS := HR
      clear HR HFR hlt hkn hkl
      subst hke
      have hsl : decide ((k : Int) < (k : Int)) = false := decide_eq_false (by omega)
      have hn1 : ((k : Int) == 1) = true := beq_iff_eq.2 (by have := HLN.out; have := HN.out; omega)
      go_wp2_with (first
        | (go_at_call 21; refine (see_c HS.out).mono ?_; rw [HK.out, HT.out]; rintro e w2 ⟨rfl, hb⟩; have h1 := HS.out.below hb; clear HS; obtain ⟨A, c, hc0, hc1, hf0, hf1, -, -⟩ := h1.c0; rw [HN.out] at hc0; have HS := Aside0.mk h1; clear hb h1)
        | (go_at_call 22; refine (first_c HS.out).mono ?_; rw [HF_1.out, HF_2.out, HF_3.out, HF_4.out]; rintro e w3 ⟨rfl, h1⟩; clear HS hc0 hc1 hf0 hf1; obtain ⟨A, c, hc0, hc1, hf0, hf1, -, -⟩ := h1.c0; have HS := Aside0.mk h1; clear h1)
        | (go_at_call 23; refine (second_c r HR9.out HS.out).mono ?_; rw [HS_1.out, HS_2.out, HS_3.out]; rintro e w4 ⟨rfl, h1⟩; clear HS hc0 hc1 hf0 hf1; obtain ⟨A, c, hc0, hc1, hf0, hf1, -, -⟩ := h1.c0; have HS := Aside0.mk h1; clear h1))
      go_ret3
      exact ⟨rfl, HB.out.trans ((HS.out.fresh HGE.out).mono HB.out.size)⟩
set_option maxHeartbeats 8000000 in
set_option maxRecDepth 100000 in
theorem parse_ub (l : List N51) (h : Ok51 l) (hgood : ∀ x, x ∈ l → GoodN x) (ok : Nat → Prop) (A : Option Addr) (c : Nat) (w : World) (hf : Kd.F k51 w ok A l.length l) (hc : l.length ≤ c)
    (m : List N51) (hm : trimN l = m) (hop : ∀ j, j < m.length → opB (m.getD j z51) = false) (hlen : m.length = 1) (hk : seeK m = 1) (hodd : ¬ seeT m = ⟨#[111, 100, 100]⟩) (heven : ¬ seeT m = ⟨#[101, 118, 101, 110]⟩) (a : Int) (r : ByteArray) (L : List N51) (hF1 : (fst5 m).1 = a) (hF2 : (fst5 m).2.1 = r) (hF3 : (fst5 m).2.2.1 = L) (hF4 : (fst5 m).2.2.2 = false) (hr : r.size ≤ 1000000000) (b : Int) (hS1 : (secP r L).1 = b) (hS2 : (secP r L).2.1 = []) (hS3 : (secP r L).2.2 = false) :
    Calls Tryd.prog 9 #[.slice A l.length c] w fun e w' => e = .returned (.tuple #[.int .i64 a, .int .i64 b, .int .i64 0]) ∧ Below w.heap.size w w' := by
  obtain ⟨K, hK⟩ : ∃ K, seeK m = K := ⟨_, rfl⟩
  obtain ⟨T, hT⟩ : ∃ T, seeT m = T := ⟨_, rfl⟩
  rw [hK] at hk
  rw [hT] at hodd
  rw [hT] at heven
  have k1 : (K == 1) = true := beq_iff_eq.2 (by omega)
  have k10 : (K == 10) = false := beq_eq_false_iff_ne.2 (by omega)
  have t1 := str_eqF (show ¬ T = ⟨[111, 100, 100].toArray⟩ from hodd)
  have t2 := str_eqF (show ¬ T = ⟨[101, 118, 101, 110].toArray⟩ from heven)
  have HR9 := Aside0.mk hr
  have HK := Aside0.mk hK
  have HT := Aside0.mk hT
  have HLN := Aside0.mk hlen
  clear hK hT hlen hk hodd heven hr
  have HG := Aside0.mk (good_trimN hgood)
  have HF0 := Aside0.mk hf
  have HOK := Aside0.mk h
  have HZ : (trimN l).length ≤ 1000000000 := Nat.le_trans (trimN_len l) h.len
  have HM := Aside0.mk hm
  rw [hm] at HG HZ
  have HOP := Aside0.mk hop
  clear hop
  have HF_1 := Aside0.mk hF1
  clear hF1
  have HF_2 := Aside0.mk hF2
  clear hF2
  have HF_3 := Aside0.mk hF3
  clear hF3
  have HF_4 := Aside0.mk hF4
  clear hF4
  have HS_1 := Aside0.mk hS1
  clear hS1
  have HS_2 := Aside0.mk hS2
  clear hS2
  have HS_3 := Aside0.mk hS3
  clear hS3
  clear hf h hgood hm
  go_enter Tryd.func9, Tryd.ntmps9
  go_wp2_with (fail)
  refine (Trim_c l HOK.out ok A c w HF0.out hc).mono ?_
  rw [HM.out]
  rintro e w1 ⟨v2, rfl, hn2, hb2⟩
  obtain ⟨A2, c2, rfl⟩ := Kd.N_slice hn2
  obtain ⟨h1, h2⟩ := An.mk0 hn2 HZ HG.out
  have HS := Aside0.mk h1
  have HF := Aside0.mk h2
  have HB := Aside0.mk hb2
  clear hn2 h1 h2 hb2 HF0 HOK HM
  go_wp2_with (fail)
  generalize w1.alloc (.cells #[.slice A2 m.length c2, .bool false] 47) = wA at HS HF ⊢
  obtain ⟨g, hg⟩ : ∃ g, w1.heap.size = g := ⟨_, rfl⟩
  have HGE : Aside0 (w1.heap.size ≤ g) := ⟨Nat.le_of_eq hg⟩
  rw [hg] at HS HF ⊢
  clear hg
  obtain ⟨n, hn⟩ : ∃ n, m.length = n := ⟨_, rfl⟩
  rw [hn]
  have hz2 : n ≤ 1000000000 := by omega
  have HN := Aside0.mk hn
  clear hn HZ hc
  go_loopg [20] n (fun gk v wr => ∃ k : Nat, n ≤ k + gk ∧ k ≤ n ∧ v = .int .i64 k ∧ Aside0 (An w1 wr g m false) ∧ Aside0 (Kd.F k51 wr (fun k => k ≠ g) A2 m.length m))
  case atStart => exact ⟨0, by omega, by omega, rfl, HS, HF⟩
  case round =>
    obtain ⟨k, hkn, hkl, rfl, HR, HFR⟩ := hrel
    clear HS HF
    by_cases hlt : k < n
    · as_aux_lemma =>
      obtain ⟨ad, A6, c6, hA2, x0, x1, x2, x3, x4, x5, x6, hl6, hi6⟩ := at_T51 (Kd.F_now HFR.out) k (by omega) (by have := HN.out; omega)
      subst hA2
      have e0 : rd_T51 m k = m.getD k z51 := rfl
      rw [e0] at x0 x1 x2 x3 x4 x5 x6 hl6 hi6
      obtain ⟨x, hx⟩ : ∃ x, m.getD k z51 = x := ⟨_, rfl⟩
      rw [hx] at x0 x1 x2 x3 x4 x5 x6 hl6 hi6
      rw [Int.toNat_natCast] at x0 x1 x2 x3 x4 x5 x6
      have HX := Aside0.mk hx
      have hkn2 : (k : Int) < (n : Int) := by omega
      clear hx e0 hl6 hi6
      have hox := HOP.out k (by have := HN.out; omega)
      rw [HX.out] at hox
      obtain ⟨b1, b2, b3⟩ := opB_no hox
      have b1i : decide ((0 : Int) < (x.f1.length : Int)) = false := decide_eq_false (by omega)
      have b1j : decide (0 < x.f1.length) = false := decide_eq_false (by omega)
      clear hox b1
      go_wp2
      go_roundg (gk - 1)
      case measure => omega
      case rel => exact ⟨k + 1, by omega, by omega, by go_num, ⟨HR.out.alloc _⟩, ⟨Kd.F_alloc HFR.out _⟩⟩
    · have hke : k = n := by omega
      have HS := HR
      clear HR HFR hlt hkn hkl
      subst hke
      have hsl : decide ((k : Int) < (k : Int)) = false := decide_eq_false (by omega)
      have hn1 : ((k : Int) == 1) = true := beq_iff_eq.2 (by have := HLN.out; have := HN.out; omega)
      go_wp2_with (first
        | (go_at_call 21; refine (see_c HS.out).mono ?_; rw [HK.out, HT.out]; rintro e w2 ⟨rfl, hb⟩; have h1 := HS.out.below hb; clear HS; obtain ⟨A, c, hc0, hc1, hf0, hf1, -, -⟩ := h1.c0; rw [HN.out] at hc0; have HS := Aside0.mk h1; clear hb h1)
        | (go_at_call 22; refine (first_c HS.out).mono ?_; rw [HF_1.out, HF_2.out, HF_3.out, HF_4.out]; rintro e w3 ⟨rfl, h1⟩; clear HS hc0 hc1 hf0 hf1; obtain ⟨A, c, hc0, hc1, hf0, hf1, -, -⟩ := h1.c0; have HS := Aside0.mk h1; clear h1)
        | (go_at_call 23; refine (second_c r HR9.out HS.out).mono ?_; rw [HS_1.out, HS_2.out, HS_3.out]; rintro e w4 ⟨rfl, h1⟩; clear HS hc0 hc1 hf0 hf1; obtain ⟨A, c, hc0, hc1, hf0, hf1, -, -⟩ := h1.c0; have HS := Aside0.mk h1; clear h1))
      go_ret3
      exact ⟨rfl, HB.out.trans ((HS.out.fresh HGE.out).mono HB.out.size)⟩
set_option maxHeartbeats 8000000 in
set_option maxRecDepth 100000 in
theorem parse_fc (l : List N51) (h : Ok51 l) (hgood : ∀ x, x ∈ l → GoodN x) (ok : Nat → Prop) (A : Option Addr) (c : Nat) (w : World) (hf : Kd.F k51 w ok A l.length l) (hc : l.length ≤ c)
    (x9 : N51) (m : List N51) (hmx : m = [x9]) (hm : trimN l = m) (hop : ∀ j, j < m.length → opB (m.getD j z51) = false) (hk : seeK m = 10) (h3 : x9.f0.f3 = false) (a : Int) (r : ByteArray) (L : List N51) (hF1 : (fst5 m).1 = a) (hF2 : (fst5 m).2.1 = r) (hF3 : (fst5 m).2.2.1 = L) (hF4 : (fst5 m).2.2.2 = true) :
    Calls Tryd.prog 9 #[.slice A l.length c] w fun e w' => e = .returned (.tuple #[.int .i64 0, .int .i64 0, .int .i64 2]) ∧ Below w.heap.size w w' := by
  obtain ⟨K, hK⟩ : ∃ K, seeK m = K := ⟨_, rfl⟩
  obtain ⟨T, hT⟩ : ∃ T, seeT m = T := ⟨_, rfl⟩
  rw [hK] at hk
  have k1 : (K == 1) = false := beq_eq_false_iff_ne.2 (by omega)
  have k10 : (K == 10) = true := beq_iff_eq.2 (by omega)
  have HK := Aside0.mk hK
  have HT := Aside0.mk hT
  have H3 := Aside0.mk h3
  have HMX := Aside0.mk hmx
  clear hK hT hk h3 hmx
  have HG := Aside0.mk (good_trimN hgood)
  have HF0 := Aside0.mk hf
  have HOK := Aside0.mk h
  have HZ : (trimN l).length ≤ 1000000000 := Nat.le_trans (trimN_len l) h.len
  have HM := Aside0.mk hm
  rw [hm] at HG HZ
  have HOP := Aside0.mk hop
  clear hop
  have HF_1 := Aside0.mk hF1
  clear hF1
  have HF_2 := Aside0.mk hF2
  clear hF2
  have HF_3 := Aside0.mk hF3
  clear hF3
  have HF_4 := Aside0.mk hF4
  clear hF4
  clear hf h hgood hm
  go_enter Tryd.func9, Tryd.ntmps9
  go_wp2_with (fail)
  refine (Trim_c l HOK.out ok A c w HF0.out hc).mono ?_
  rw [HM.out]
  rintro e w1 ⟨v2, rfl, hn2, hb2⟩
  obtain ⟨A2, c2, rfl⟩ := Kd.N_slice hn2
  obtain ⟨h1, h2⟩ := An.mk0 hn2 HZ HG.out
  have HS := Aside0.mk h1
  have HF := Aside0.mk h2
  have HB := Aside0.mk hb2
  clear hn2 h1 h2 hb2 HF0 HOK HM
  go_wp2_with (fail)
  generalize w1.alloc (.cells #[.slice A2 m.length c2, .bool false] 47) = wA at HS HF ⊢
  obtain ⟨g, hg⟩ : ∃ g, w1.heap.size = g := ⟨_, rfl⟩
  have HGE : Aside0 (w1.heap.size ≤ g) := ⟨Nat.le_of_eq hg⟩
  rw [hg] at HS HF ⊢
  clear hg
  obtain ⟨n, hn⟩ : ∃ n, m.length = n := ⟨_, rfl⟩
  rw [hn]
  have hz2 : n ≤ 1000000000 := by omega
  have HN := Aside0.mk hn
  clear hn HZ hc
  go_loopg [20] n (fun gk v wr => ∃ k : Nat, n ≤ k + gk ∧ k ≤ n ∧ v = .int .i64 k ∧ Aside0 (An w1 wr g m false) ∧ Aside0 (Kd.F k51 wr (fun k => k ≠ g) A2 m.length m))
  case atStart => exact ⟨0, by omega, by omega, rfl, HS, HF⟩
  case round =>
    obtain ⟨k, hkn, hkl, rfl, HR, HFR⟩ := hrel
    clear HS HF
    by_cases hlt : k < n
    · as_aux_lemma =>
      obtain ⟨ad, A6, c6, hA2, x0, x1, x2, x3, x4, x5, x6, hl6, hi6⟩ := at_T51 (Kd.F_now HFR.out) k (by omega) (by have := HN.out; omega)
      subst hA2
      have e0 : rd_T51 m k = m.getD k z51 := rfl
      rw [e0] at x0 x1 x2 x3 x4 x5 x6 hl6 hi6
      obtain ⟨x, hx⟩ : ∃ x, m.getD k z51 = x := ⟨_, rfl⟩
      rw [hx] at x0 x1 x2 x3 x4 x5 x6 hl6 hi6
      rw [Int.toNat_natCast] at x0 x1 x2 x3 x4 x5 x6
      have HX := Aside0.mk hx
      have hkn2 : (k : Int) < (n : Int) := by omega
      clear hx e0 hl6 hi6
      have hox := HOP.out k (by have := HN.out; omega)
      rw [HX.out] at hox
      obtain ⟨b1, b2, b3⟩ := opB_no hox
      have b1i : decide ((0 : Int) < (x.f1.length : Int)) = false := decide_eq_false (by omega)
      have b1j : decide (0 < x.f1.length) = false := decide_eq_false (by omega)
      clear hox b1
      go_wp2
      go_roundg (gk - 1)
      case measure => omega
      case rel => exact ⟨k + 1, by omega, by omega, by go_num, ⟨HR.out.alloc _⟩, ⟨Kd.F_alloc HFR.out _⟩⟩
    · have hke : k = n := by omega
      have HS := HR
      clear HR HFR hlt hkn hkl
      subst hke
      have hsl : decide ((k : Int) < (k : Int)) = false := decide_eq_false (by omega)
      have hm1 := HMX.out
      subst hm1
      go_wp2_with (first
        | (go_at_call 21; refine (see_c HS.out).mono ?_; rw [HK.out, HT.out]; rintro e w2 ⟨rfl, hb⟩; have h1 := HS.out.below hb; clear HS; obtain ⟨ad, n', c, A6, c6, A', c', m_, hc0, hc1, hf0, hf1, hn', hnm, x0, x1, x2, x3, x4, x5, x6, hl6, hi6, hN, hcut, hS, hM⟩ := h1.hd; rw [H3.out] at x3; have hn1 : ((n' : Int) == 1) = true := beq_iff_eq.2 (by have := hN.out; simp at this; omega); have hpos : decide (0 < n') = true := decide_eq_true hn'; have HS := Aside0.mk h1; clear hb h1 hcut hS hM hl6 hi6 hN)
        | (go_at_call 22; refine (first_c HS.out).mono ?_; rw [HF_1.out, HF_2.out, HF_3.out, HF_4.out]; rintro e w3 ⟨rfl, h1⟩; clear HS hc0 hc1 hf0 hf1; obtain ⟨A, c, hc0, hc1, hf0, hf1, -, -⟩ := h1.c0; have HS := Aside0.mk h1; clear h1))
      go_ret3
      exact ⟨rfl, HB.out.trans ((HS.out.fresh HGE.out).mono HB.out.size)⟩
set_option maxHeartbeats 8000000 in
set_option maxRecDepth 100000 in
theorem parse_sc (l : List N51) (h : Ok51 l) (hgood : ∀ x, x ∈ l → GoodN x) (ok : Nat → Prop) (A : Option Addr) (c : Nat) (w : World) (hf : Kd.F k51 w ok A l.length l) (hc : l.length ≤ c)
    (x9 : N51) (m : List N51) (hmx : m = [x9]) (hm : trimN l = m) (hop : ∀ j, j < m.length → opB (m.getD j z51) = false) (hk : seeK m = 10) (h3 : x9.f0.f3 = false) (a : Int) (r : ByteArray) (L : List N51) (hF1 : (fst5 m).1 = a) (hF2 : (fst5 m).2.1 = r) (hF3 : (fst5 m).2.2.1 = L) (hF4 : (fst5 m).2.2.2 = false) (hr : r.size ≤ 1000000000) (b : Int) (L2 : List N51) (hS1 : (secP r L).1 = b) (hS2 : (secP r L).2.1 = L2) (hS3 : (secP r L).2.2 = true) :
    Calls Tryd.prog 9 #[.slice A l.length c] w fun e w' => e = .returned (.tuple #[.int .i64 0, .int .i64 0, .int .i64 2]) ∧ Below w.heap.size w w' := by
  obtain ⟨K, hK⟩ : ∃ K, seeK m = K := ⟨_, rfl⟩
  obtain ⟨T, hT⟩ : ∃ T, seeT m = T := ⟨_, rfl⟩
  rw [hK] at hk
  have k1 : (K == 1) = false := beq_eq_false_iff_ne.2 (by omega)
  have k10 : (K == 10) = true := beq_iff_eq.2 (by omega)
  have HR9 := Aside0.mk hr
  have HK := Aside0.mk hK
  have HT := Aside0.mk hT
  have H3 := Aside0.mk h3
  have HMX := Aside0.mk hmx
  clear hK hT hk h3 hr hmx
  have HG := Aside0.mk (good_trimN hgood)
  have HF0 := Aside0.mk hf
  have HOK := Aside0.mk h
  have HZ : (trimN l).length ≤ 1000000000 := Nat.le_trans (trimN_len l) h.len
  have HM := Aside0.mk hm
  rw [hm] at HG HZ
  have HOP := Aside0.mk hop
  clear hop
  have HF_1 := Aside0.mk hF1
  clear hF1
  have HF_2 := Aside0.mk hF2
  clear hF2
  have HF_3 := Aside0.mk hF3
  clear hF3
  have HF_4 := Aside0.mk hF4
  clear hF4
  have HS_1 := Aside0.mk hS1
  clear hS1
  have HS_2 := Aside0.mk hS2
  clear hS2
  have HS_3 := Aside0.mk hS3
  clear hS3
  clear hf h hgood hm
  go_enter Tryd.func9, Tryd.ntmps9
  go_wp2_with (fail)
  refine (Trim_c l HOK.out ok A c w HF0.out hc).mono ?_
  rw [HM.out]
  rintro e w1 ⟨v2, rfl, hn2, hb2⟩
  obtain ⟨A2, c2, rfl⟩ := Kd.N_slice hn2
  obtain ⟨h1, h2⟩ := An.mk0 hn2 HZ HG.out
  have HS := Aside0.mk h1
  have HF := Aside0.mk h2
  have HB := Aside0.mk hb2
  clear hn2 h1 h2 hb2 HF0 HOK HM
  go_wp2_with (fail)
  generalize w1.alloc (.cells #[.slice A2 m.length c2, .bool false] 47) = wA at HS HF ⊢
  obtain ⟨g, hg⟩ : ∃ g, w1.heap.size = g := ⟨_, rfl⟩
  have HGE : Aside0 (w1.heap.size ≤ g) := ⟨Nat.le_of_eq hg⟩
  rw [hg] at HS HF ⊢
  clear hg
  obtain ⟨n, hn⟩ : ∃ n, m.length = n := ⟨_, rfl⟩
  rw [hn]
  have hz2 : n ≤ 1000000000 := by omega
  have HN := Aside0.mk hn
  clear hn HZ hc
  go_loopg [20] n (fun gk v wr => ∃ k : Nat, n ≤ k + gk ∧ k ≤ n ∧ v = .int .i64 k ∧ Aside0 (An w1 wr g m false) ∧ Aside0 (Kd.F k51 wr (fun k => k ≠ g) A2 m.length m))
  case atStart => exact ⟨0, by omega, by omega, rfl, HS, HF⟩
  case round =>
    obtain ⟨k, hkn, hkl, rfl, HR, HFR⟩ := hrel
    clear HS HF
    by_cases hlt : k < n
    · as_aux_lemma =>
      obtain ⟨ad, A6, c6, hA2, x0, x1, x2, x3, x4, x5, x6, hl6, hi6⟩ := at_T51 (Kd.F_now HFR.out) k (by omega) (by have := HN.out; omega)
      subst hA2
      have e0 : rd_T51 m k = m.getD k z51 := rfl
      rw [e0] at x0 x1 x2 x3 x4 x5 x6 hl6 hi6
      obtain ⟨x, hx⟩ : ∃ x, m.getD k z51 = x := ⟨_, rfl⟩
      rw [hx] at x0 x1 x2 x3 x4 x5 x6 hl6 hi6
      rw [Int.toNat_natCast] at x0 x1 x2 x3 x4 x5 x6
      have HX := Aside0.mk hx
      have hkn2 : (k : Int) < (n : Int) := by omega
      clear hx e0 hl6 hi6
      have hox := HOP.out k (by have := HN.out; omega)
      rw [HX.out] at hox
      obtain ⟨b1, b2, b3⟩ := opB_no hox
      have b1i : decide ((0 : Int) < (x.f1.length : Int)) = false := decide_eq_false (by omega)
      have b1j : decide (0 < x.f1.length) = false := decide_eq_false (by omega)
      clear hox b1
      go_wp2
      go_roundg (gk - 1)
      case measure => omega
      case rel => exact ⟨k + 1, by omega, by omega, by go_num, ⟨HR.out.alloc _⟩, ⟨Kd.F_alloc HFR.out _⟩⟩
    · have hke : k = n := by omega
      have HS := HR
      clear HR HFR hlt hkn hkl
      subst hke
      have hsl : decide ((k : Int) < (k : Int)) = false := decide_eq_false (by omega)
      have hm1 := HMX.out
      subst hm1
      go_wp2_with (first
        | (go_at_call 21; refine (see_c HS.out).mono ?_; rw [HK.out, HT.out]; rintro e w2 ⟨rfl, hb⟩; have h1 := HS.out.below hb; clear HS; obtain ⟨ad, n', c, A6, c6, A', c', m_, hc0, hc1, hf0, hf1, hn', hnm, x0, x1, x2, x3, x4, x5, x6, hl6, hi6, hN, hcut, hS, hM⟩ := h1.hd; rw [H3.out] at x3; have hn1 : ((n' : Int) == 1) = true := beq_iff_eq.2 (by have := hN.out; simp at this; omega); have hpos : decide (0 < n') = true := decide_eq_true hn'; have HS := Aside0.mk h1; clear hb h1 hcut hS hM hl6 hi6 hN)
        | (go_at_call 22; refine (first_c HS.out).mono ?_; rw [HF_1.out, HF_2.out, HF_3.out, HF_4.out]; rintro e w3 ⟨rfl, h1⟩; clear HS hc0 hc1 hf0 hf1; obtain ⟨A, c, hc0, hc1, hf0, hf1, -, -⟩ := h1.c0; have HS := Aside0.mk h1; clear h1)
        | (go_at_call 23; refine (second_c r HR9.out HS.out).mono ?_; rw [HS_1.out, HS_2.out, HS_3.out]; rintro e w4 ⟨rfl, h1⟩; clear HS hc0 hc1 hf0 hf1; obtain ⟨A, c, hc0, hc1, hf0, hf1, -, -⟩ := h1.c0; have HS := Aside0.mk h1; clear h1))
      go_ret3
      exact ⟨rfl, HB.out.trans ((HS.out.fresh HGE.out).mono HB.out.size)⟩
set_option maxHeartbeats 8000000 in
set_option maxRecDepth 100000 in
theorem parse_tc (l : List N51) (h : Ok51 l) (hgood : ∀ x, x ∈ l → GoodN x) (ok : Nat → Prop) (A : Option Addr) (c : Nat) (w : World) (hf : Kd.F k51 w ok A l.length l) (hc : l.length ≤ c)
    (x9 : N51) (m : List N51) (hmx : m = [x9]) (hm : trimN l = m) (hop : ∀ j, j < m.length → opB (m.getD j z51) = false) (hk : seeK m = 10) (h3 : x9.f0.f3 = false) (a : Int) (r : ByteArray) (L : List N51) (hF1 : (fst5 m).1 = a) (hF2 : (fst5 m).2.1 = r) (hF3 : (fst5 m).2.2.1 = L) (hF4 : (fst5 m).2.2.2 = false) (hr : r.size ≤ 1000000000) (b : Int) (L2 : List N51) (hS1 : (secP r L).1 = b) (hS2 : (secP r L).2.1 = L2) (hS3 : (secP r L).2.2 = false) (hL : 0 < L2.length) :
    Calls Tryd.prog 9 #[.slice A l.length c] w fun e w' => e = .returned (.tuple #[.int .i64 0, .int .i64 0, .int .i64 2]) ∧ Below w.heap.size w w' := by
  obtain ⟨K, hK⟩ : ∃ K, seeK m = K := ⟨_, rfl⟩
  obtain ⟨T, hT⟩ : ∃ T, seeT m = T := ⟨_, rfl⟩
  rw [hK] at hk
  have k1 : (K == 1) = false := beq_eq_false_iff_ne.2 (by omega)
  have k10 : (K == 10) = true := beq_iff_eq.2 (by omega)
  have HR9 := Aside0.mk hr
  have hL0 : (0 : Int) < (L2.length : Int) := by omega
  have HK := Aside0.mk hK
  have HT := Aside0.mk hT
  have H3 := Aside0.mk h3
  have HMX := Aside0.mk hmx
  clear hK hT hk h3 hr hL hmx
  have HG := Aside0.mk (good_trimN hgood)
  have HF0 := Aside0.mk hf
  have HOK := Aside0.mk h
  have HZ : (trimN l).length ≤ 1000000000 := Nat.le_trans (trimN_len l) h.len
  have HM := Aside0.mk hm
  rw [hm] at HG HZ
  have HOP := Aside0.mk hop
  clear hop
  have HF_1 := Aside0.mk hF1
  clear hF1
  have HF_2 := Aside0.mk hF2
  clear hF2
  have HF_3 := Aside0.mk hF3
  clear hF3
  have HF_4 := Aside0.mk hF4
  clear hF4
  have HS_1 := Aside0.mk hS1
  clear hS1
  have HS_2 := Aside0.mk hS2
  clear hS2
  have HS_3 := Aside0.mk hS3
  clear hS3
  clear hf h hgood hm
  go_enter Tryd.func9, Tryd.ntmps9
  go_wp2_with (fail)
  refine (Trim_c l HOK.out ok A c w HF0.out hc).mono ?_
  rw [HM.out]
  rintro e w1 ⟨v2, rfl, hn2, hb2⟩
  obtain ⟨A2, c2, rfl⟩ := Kd.N_slice hn2
  obtain ⟨h1, h2⟩ := An.mk0 hn2 HZ HG.out
  have HS := Aside0.mk h1
  have HF := Aside0.mk h2
  have HB := Aside0.mk hb2
  clear hn2 h1 h2 hb2 HF0 HOK HM
  go_wp2_with (fail)
  generalize w1.alloc (.cells #[.slice A2 m.length c2, .bool false] 47) = wA at HS HF ⊢
  obtain ⟨g, hg⟩ : ∃ g, w1.heap.size = g := ⟨_, rfl⟩
  have HGE : Aside0 (w1.heap.size ≤ g) := ⟨Nat.le_of_eq hg⟩
  rw [hg] at HS HF ⊢
  clear hg
  obtain ⟨n, hn⟩ : ∃ n, m.length = n := ⟨_, rfl⟩
  rw [hn]
  have hz2 : n ≤ 1000000000 := by omega
  have HN := Aside0.mk hn
  clear hn HZ hc
  go_loopg [20] n (fun gk v wr => ∃ k : Nat, n ≤ k + gk ∧ k ≤ n ∧ v = .int .i64 k ∧ Aside0 (An w1 wr g m false) ∧ Aside0 (Kd.F k51 wr (fun k => k ≠ g) A2 m.length m))
  case atStart => exact ⟨0, by omega, by omega, rfl, HS, HF⟩
  case round =>
    obtain ⟨k, hkn, hkl, rfl, HR, HFR⟩ := hrel
    clear HS HF
    by_cases hlt : k < n
    · as_aux_lemma =>
      obtain ⟨ad, A6, c6, hA2, x0, x1, x2, x3, x4, x5, x6, hl6, hi6⟩ := at_T51 (Kd.F_now HFR.out) k (by omega) (by have := HN.out; omega)
      subst hA2
      have e0 : rd_T51 m k = m.getD k z51 := rfl
      rw [e0] at x0 x1 x2 x3 x4 x5 x6 hl6 hi6
      obtain ⟨x, hx⟩ : ∃ x, m.getD k z51 = x := ⟨_, rfl⟩
      rw [hx] at x0 x1 x2 x3 x4 x5 x6 hl6 hi6
      rw [Int.toNat_natCast] at x0 x1 x2 x3 x4 x5 x6
      have HX := Aside0.mk hx
      have hkn2 : (k : Int) < (n : Int) := by omega
      clear hx e0 hl6 hi6
      have hox := HOP.out k (by have := HN.out; omega)
      rw [HX.out] at hox
      obtain ⟨b1, b2, b3⟩ := opB_no hox
      have b1i : decide ((0 : Int) < (x.f1.length : Int)) = false := decide_eq_false (by omega)
      have b1j : decide (0 < x.f1.length) = false := decide_eq_false (by omega)
      clear hox b1
      go_wp2
      go_roundg (gk - 1)
      case measure => omega
      case rel => exact ⟨k + 1, by omega, by omega, by go_num, ⟨HR.out.alloc _⟩, ⟨Kd.F_alloc HFR.out _⟩⟩
    · have hke : k = n := by omega
      have HS := HR
      clear HR HFR hlt hkn hkl
      subst hke
      have hsl : decide ((k : Int) < (k : Int)) = false := decide_eq_false (by omega)
      have hm1 := HMX.out
      subst hm1
      go_wp2_with (first
        | (go_at_call 21; refine (see_c HS.out).mono ?_; rw [HK.out, HT.out]; rintro e w2 ⟨rfl, hb⟩; have h1 := HS.out.below hb; clear HS; obtain ⟨ad, n', c, A6, c6, A', c', m_, hc0, hc1, hf0, hf1, hn', hnm, x0, x1, x2, x3, x4, x5, x6, hl6, hi6, hN, hcut, hS, hM⟩ := h1.hd; rw [H3.out] at x3; have hn1 : ((n' : Int) == 1) = true := beq_iff_eq.2 (by have := hN.out; simp at this; omega); have hpos : decide (0 < n') = true := decide_eq_true hn'; have HS := Aside0.mk h1; clear hb h1 hcut hS hM hl6 hi6 hN)
        | (go_at_call 22; refine (first_c HS.out).mono ?_; rw [HF_1.out, HF_2.out, HF_3.out, HF_4.out]; rintro e w3 ⟨rfl, h1⟩; clear HS hc0 hc1 hf0 hf1; obtain ⟨A, c, hc0, hc1, hf0, hf1, -, -⟩ := h1.c0; have HS := Aside0.mk h1; clear h1)
        | (go_at_call 23; refine (second_c r HR9.out HS.out).mono ?_; rw [HS_1.out, HS_2.out, HS_3.out]; rintro e w4 ⟨rfl, h1⟩; clear HS hc0 hc1 hf0 hf1; obtain ⟨A, c, hc0, hc1, hf0, hf1, -, -⟩ := h1.c0; have HS := Aside0.mk h1; clear h1))
      go_ret3
      exact ⟨rfl, HB.out.trans ((HS.out.fresh HGE.out).mono HB.out.size)⟩
set_option maxHeartbeats 8000000 in
set_option maxRecDepth 100000 in
theorem parse_uc (l : List N51) (h : Ok51 l) (hgood : ∀ x, x ∈ l → GoodN x) (ok : Nat → Prop) (A : Option Addr) (c : Nat) (w : World) (hf : Kd.F k51 w ok A l.length l) (hc : l.length ≤ c)
    (x9 : N51) (m : List N51) (hmx : m = [x9]) (hm : trimN l = m) (hop : ∀ j, j < m.length → opB (m.getD j z51) = false) (hk : seeK m = 10) (h3 : x9.f0.f3 = false) (a : Int) (r : ByteArray) (L : List N51) (hF1 : (fst5 m).1 = a) (hF2 : (fst5 m).2.1 = r) (hF3 : (fst5 m).2.2.1 = L) (hF4 : (fst5 m).2.2.2 = false) (hr : r.size ≤ 1000000000) (b : Int) (hS1 : (secP r L).1 = b) (hS2 : (secP r L).2.1 = []) (hS3 : (secP r L).2.2 = false) :
    Calls Tryd.prog 9 #[.slice A l.length c] w fun e w' => e = .returned (.tuple #[.int .i64 a, .int .i64 b, .int .i64 0]) ∧ Below w.heap.size w w' := by
  obtain ⟨K, hK⟩ : ∃ K, seeK m = K := ⟨_, rfl⟩
  obtain ⟨T, hT⟩ : ∃ T, seeT m = T := ⟨_, rfl⟩
  rw [hK] at hk
  have k1 : (K == 1) = false := beq_eq_false_iff_ne.2 (by omega)
  have k10 : (K == 10) = true := beq_iff_eq.2 (by omega)
  have HR9 := Aside0.mk hr
  have HK := Aside0.mk hK
  have HT := Aside0.mk hT
  have H3 := Aside0.mk h3
  have HMX := Aside0.mk hmx
  clear hK hT hk h3 hr hmx
  have HG := Aside0.mk (good_trimN hgood)
  have HF0 := Aside0.mk hf
  have HOK := Aside0.mk h
  have HZ : (trimN l).length ≤ 1000000000 := Nat.le_trans (trimN_len l) h.len
  have HM := Aside0.mk hm
  rw [hm] at HG HZ
  have HOP := Aside0.mk hop
  clear hop
  have HF_1 := Aside0.mk hF1
  clear hF1
  have HF_2 := Aside0.mk hF2
  clear hF2
  have HF_3 := Aside0.mk hF3
  clear hF3
  have HF_4 := Aside0.mk hF4
  clear hF4
  have HS_1 := Aside0.mk hS1
  clear hS1
  have HS_2 := Aside0.mk hS2
  clear hS2
  have HS_3 := Aside0.mk hS3
  clear hS3
  clear hf h hgood hm
  go_enter Tryd.func9, Tryd.ntmps9
  go_wp2_with (fail)
  refine (Trim_c l HOK.out ok A c w HF0.out hc).mono ?_
  rw [HM.out]
  rintro e w1 ⟨v2, rfl, hn2, hb2⟩
  obtain ⟨A2, c2, rfl⟩ := Kd.N_slice hn2
  obtain ⟨h1, h2⟩ := An.mk0 hn2 HZ HG.out
  have HS := Aside0.mk h1
  have HF := Aside0.mk h2
  have HB := Aside0.mk hb2
  clear hn2 h1 h2 hb2 HF0 HOK HM
  go_wp2_with (fail)
  generalize w1.alloc (.cells #[.slice A2 m.length c2, .bool false] 47) = wA at HS HF ⊢
  obtain ⟨g, hg⟩ : ∃ g, w1.heap.size = g := ⟨_, rfl⟩
  have HGE : Aside0 (w1.heap.size ≤ g) := ⟨Nat.le_of_eq hg⟩
  rw [hg] at HS HF ⊢
  clear hg
  obtain ⟨n, hn⟩ : ∃ n, m.length = n := ⟨_, rfl⟩
  rw [hn]
  have hz2 : n ≤ 1000000000 := by omega
  have HN := Aside0.mk hn
  clear hn HZ hc
  go_loopg [20] n (fun gk v wr => ∃ k : Nat, n ≤ k + gk ∧ k ≤ n ∧ v = .int .i64 k ∧ Aside0 (An w1 wr g m false) ∧ Aside0 (Kd.F k51 wr (fun k => k ≠ g) A2 m.length m))
  case atStart => exact ⟨0, by omega, by omega, rfl, HS, HF⟩
  case round =>
    obtain ⟨k, hkn, hkl, rfl, HR, HFR⟩ := hrel
    clear HS HF
    by_cases hlt : k < n
    · as_aux_lemma =>
      obtain ⟨ad, A6, c6, hA2, x0, x1, x2, x3, x4, x5, x6, hl6, hi6⟩ := at_T51 (Kd.F_now HFR.out) k (by omega) (by have := HN.out; omega)
      subst hA2
      have e0 : rd_T51 m k = m.getD k z51 := rfl
      rw [e0] at x0 x1 x2 x3 x4 x5 x6 hl6 hi6
      obtain ⟨x, hx⟩ : ∃ x, m.getD k z51 = x := ⟨_, rfl⟩
      rw [hx] at x0 x1 x2 x3 x4 x5 x6 hl6 hi6
      rw [Int.toNat_natCast] at x0 x1 x2 x3 x4 x5 x6
      have HX := Aside0.mk hx
      have hkn2 : (k : Int) < (n : Int) := by omega
      clear hx e0 hl6 hi6
      have hox := HOP.out k (by have := HN.out; omega)
      rw [HX.out] at hox
      obtain ⟨b1, b2, b3⟩ := opB_no hox
      have b1i : decide ((0 : Int) < (x.f1.length : Int)) = false := decide_eq_false (by omega)
      have b1j : decide (0 < x.f1.length) = false := decide_eq_false (by omega)
      clear hox b1
      go_wp2
      go_roundg (gk - 1)
      case measure => omega
      case rel => exact ⟨k + 1, by omega, by omega, by go_num, ⟨HR.out.alloc _⟩, ⟨Kd.F_alloc HFR.out _⟩⟩
    · have hke : k = n := by omega
      have HS := HR
      clear HR HFR hlt hkn hkl
      subst hke
      have hsl : decide ((k : Int) < (k : Int)) = false := decide_eq_false (by omega)
      have hm1 := HMX.out
      subst hm1
      go_wp2_with (first
        | (go_at_call 21; refine (see_c HS.out).mono ?_; rw [HK.out, HT.out]; rintro e w2 ⟨rfl, hb⟩; have h1 := HS.out.below hb; clear HS; obtain ⟨ad, n', c, A6, c6, A', c', m_, hc0, hc1, hf0, hf1, hn', hnm, x0, x1, x2, x3, x4, x5, x6, hl6, hi6, hN, hcut, hS, hM⟩ := h1.hd; rw [H3.out] at x3; have hn1 : ((n' : Int) == 1) = true := beq_iff_eq.2 (by have := hN.out; simp at this; omega); have hpos : decide (0 < n') = true := decide_eq_true hn'; have HS := Aside0.mk h1; clear hb h1 hcut hS hM hl6 hi6 hN)
        | (go_at_call 22; refine (first_c HS.out).mono ?_; rw [HF_1.out, HF_2.out, HF_3.out, HF_4.out]; rintro e w3 ⟨rfl, h1⟩; clear HS hc0 hc1 hf0 hf1; obtain ⟨A, c, hc0, hc1, hf0, hf1, -, -⟩ := h1.c0; have HS := Aside0.mk h1; clear h1)
        | (go_at_call 23; refine (second_c r HR9.out HS.out).mono ?_; rw [HS_1.out, HS_2.out, HS_3.out]; rintro e w4 ⟨rfl, h1⟩; clear HS hc0 hc1 hf0 hf1; obtain ⟨A, c, hc0, hc1, hf0, hf1, -, -⟩ := h1.c0; have HS := Aside0.mk h1; clear h1))
      go_ret3
      exact ⟨rfl, HB.out.trans ((HS.out.fresh HGE.out).mono HB.out.size)⟩
set_option maxHeartbeats 8000000 in
set_option maxRecDepth 100000 in
theorem parse_fd (l : List N51) (h : Ok51 l) (hgood : ∀ x, x ∈ l → GoodN x) (ok : Nat → Prop) (A : Option Addr) (c : Nat) (w : World) (hf : Kd.F k51 w ok A l.length l) (hc : l.length ≤ c)
    (m : List N51) (hm : trimN l = m) (hop : ∀ j, j < m.length → opB (m.getD j z51) = false) (hlen : m.length = 1) (hk : ¬ seeK m = 1) (hk2 : ¬ seeK m = 10) (a : Int) (r : ByteArray) (L : List N51) (hF1 : (fst5 m).1 = a) (hF2 : (fst5 m).2.1 = r) (hF3 : (fst5 m).2.2.1 = L) (hF4 : (fst5 m).2.2.2 = true) :
    Calls Tryd.prog 9 #[.slice A l.length c] w fun e w' => e = .returned (.tuple #[.int .i64 0, .int .i64 0, .int .i64 2]) ∧ Below w.heap.size w w' := by
  obtain ⟨K, hK⟩ : ∃ K, seeK m = K := ⟨_, rfl⟩
  obtain ⟨T, hT⟩ : ∃ T, seeT m = T := ⟨_, rfl⟩
  rw [hK] at hk
  rw [hK] at hk2
  have k1 : (K == 1) = false := beq_eq_false_iff_ne.2 (by omega)
  have k10 : (K == 10) = false := beq_eq_false_iff_ne.2 (by omega)
  have HK := Aside0.mk hK
  have HT := Aside0.mk hT
  have HLN := Aside0.mk hlen
  clear hK hT hlen hk hk2
  have HG := Aside0.mk (good_trimN hgood)
  have HF0 := Aside0.mk hf
  have HOK := Aside0.mk h
  have HZ : (trimN l).length ≤ 1000000000 := Nat.le_trans (trimN_len l) h.len
  have HM := Aside0.mk hm
  rw [hm] at HG HZ
  have HOP := Aside0.mk hop
  clear hop
  have HF_1 := Aside0.mk hF1
  clear hF1
  have HF_2 := Aside0.mk hF2
  clear hF2
  have HF_3 := Aside0.mk hF3
  clear hF3
  have HF_4 := Aside0.mk hF4
  clear hF4
  clear hf h hgood hm
  go_enter Tryd.func9, Tryd.ntmps9
  go_wp2_with (fail)
  refine (Trim_c l HOK.out ok A c w HF0.out hc).mono ?_
  rw [HM.out]
  rintro e w1 ⟨v2, rfl, hn2, hb2⟩
  obtain ⟨A2, c2, rfl⟩ := Kd.N_slice hn2
  obtain ⟨h1, h2⟩ := An.mk0 hn2 HZ HG.out
  have HS := Aside0.mk h1
  have HF := Aside0.mk h2
  have HB := Aside0.mk hb2
  clear hn2 h1 h2 hb2 HF0 HOK HM
  go_wp2_with (fail)
  generalize w1.alloc (.cells #[.slice A2 m.length c2, .bool false] 47) = wA at HS HF ⊢
  obtain ⟨g, hg⟩ : ∃ g, w1.heap.size = g := ⟨_, rfl⟩
  have HGE : Aside0 (w1.heap.size ≤ g) := ⟨Nat.le_of_eq hg⟩
  rw [hg] at HS HF ⊢
  clear hg
  obtain ⟨n, hn⟩ : ∃ n, m.length = n := ⟨_, rfl⟩
  rw [hn]
  have hz2 : n ≤ 1000000000 := by omega
  have HN := Aside0.mk hn
  clear hn HZ hc
  go_loopg [20] n (fun gk v wr => ∃ k : Nat, n ≤ k + gk ∧ k ≤ n ∧ v = .int .i64 k ∧ Aside0 (An w1 wr g m false) ∧ Aside0 (Kd.F k51 wr (fun k => k ≠ g) A2 m.length m))
  case atStart => exact ⟨0, by omega, by omega, rfl, HS, HF⟩
  case round =>
    obtain ⟨k, hkn, hkl, rfl, HR, HFR⟩ := hrel
    clear HS HF
    by_cases hlt : k < n
    · as_aux_lemma =>
      obtain ⟨ad, A6, c6, hA2, x0, x1, x2, x3, x4, x5, x6, hl6, hi6⟩ := at_T51 (Kd.F_now HFR.out) k (by omega) (by have := HN.out; omega)
      subst hA2
      have e0 : rd_T51 m k = m.getD k z51 := rfl
      rw [e0] at x0 x1 x2 x3 x4 x5 x6 hl6 hi6
      obtain ⟨x, hx⟩ : ∃ x, m.getD k z51 = x := ⟨_, rfl⟩
      rw [hx] at x0 x1 x2 x3 x4 x5 x6 hl6 hi6
      rw [Int.toNat_natCast] at x0 x1 x2 x3 x4 x5 x6
      have HX := Aside0.mk hx
      have hkn2 : (k : Int) < (n : Int) := by omega
      clear hx e0 hl6 hi6
      have hox := HOP.out k (by have := HN.out; omega)
      rw [HX.out] at hox
      obtain ⟨b1, b2, b3⟩ := opB_no hox
      have b1i : decide ((0 : Int) < (x.f1.length : Int)) = false := decide_eq_false (by omega)
      have b1j : decide (0 < x.f1.length) = false := decide_eq_false (by omega)
      clear hox b1
      go_wp2
      go_roundg (gk - 1)
      case measure => omega
      case rel => exact ⟨k + 1, by omega, by omega, by go_num, ⟨HR.out.alloc _⟩, ⟨Kd.F_alloc HFR.out _⟩⟩
    · have hke : k = n := by omega
      have HS := HR
      clear HR HFR hlt hkn hkl
      subst hke
      have hsl : decide ((k : Int) < (k : Int)) = false := decide_eq_false (by omega)
      have hn1 : ((k : Int) == 1) = true := beq_iff_eq.2 (by have := HLN.out; have := HN.out; omega)
      go_wp2_with (first
        | (go_at_call 21; refine (see_c HS.out).mono ?_; rw [HK.out, HT.out]; rintro e w2 ⟨rfl, hb⟩; have h1 := HS.out.below hb; clear HS; obtain ⟨A, c, hc0, hc1, hf0, hf1, -, -⟩ := h1.c0; rw [HN.out] at hc0; have HS := Aside0.mk h1; clear hb h1)
        | (go_at_call 22; refine (first_c HS.out).mono ?_; rw [HF_1.out, HF_2.out, HF_3.out, HF_4.out]; rintro e w3 ⟨rfl, h1⟩; clear HS hc0 hc1 hf0 hf1; obtain ⟨A, c, hc0, hc1, hf0, hf1, -, -⟩ := h1.c0; have HS := Aside0.mk h1; clear h1))
      go_ret3
      exact ⟨rfl, HB.out.trans ((HS.out.fresh HGE.out).mono HB.out.size)⟩
set_option maxHeartbeats 8000000 in
set_option maxRecDepth 100000 in
theorem parse_sd (l : List N51) (h : Ok51 l) (hgood : ∀ x, x ∈ l → GoodN x) (ok : Nat → Prop) (A : Option Addr) (c : Nat) (w : World) (hf : Kd.F k51 w ok A l.length l) (hc : l.length ≤ c)
    (m : List N51) (hm : trimN l = m) (hop : ∀ j, j < m.length → opB (m.getD j z51) = false) (hlen : m.length = 1) (hk : ¬ seeK m = 1) (hk2 : ¬ seeK m = 10) (a : Int) (r : ByteArray) (L : List N51) (hF1 : (fst5 m).1 = a) (hF2 : (fst5 m).2.1 = r) (hF3 : (fst5 m).2.2.1 = L) (hF4 : (fst5 m).2.2.2 = false) (hr : r.size ≤ 1000000000) (b : Int) (L2 : List N51) (hS1 : (secP r L).1 = b) (hS2 : (secP r L).2.1 = L2) (hS3 : (secP r L).2.2 = true) :
    Calls Tryd.prog 9 #[.slice A l.length c] w fun e w' => e = .returned (.tuple #[.int .i64 0, .int .i64 0, .int .i64 2]) ∧ Below w.heap.size w w' := by
  obtain ⟨K, hK⟩ : ∃ K, seeK m = K := ⟨_, rfl⟩
  obtain ⟨T, hT⟩ : ∃ T, seeT m = T := ⟨_, rfl⟩
  rw [hK] at hk
  rw [hK] at hk2
  have k1 : (K == 1) = false := beq_eq_false_iff_ne.2 (by omega)
  have k10 : (K == 10) = false := beq_eq_false_iff_ne.2 (by omega)
  have HR9 := Aside0.mk hr
  have HK := Aside0.mk hK
  have HT := Aside0.mk hT
  have HLN := Aside0.mk hlen
  clear hK hT hlen hk hk2 hr
  have HG := Aside0.mk (good_trimN hgood)
  have HF0 := Aside0.mk hf
  have HOK := Aside0.mk h
  have HZ : (trimN l).length ≤ 1000000000 := Nat.le_trans (trimN_len l) h.len
  have HM := Aside0.mk hm
  rw [hm] at HG HZ
  have HOP := Aside0.mk hop
  clear hop
  have HF_1 := Aside0.mk hF1
  clear hF1
  have HF_2 := Aside0.mk hF2
  clear hF2
  have HF_3 := Aside0.mk hF3
  clear hF3
  have HF_4 := Aside0.mk hF4
  clear hF4
  have HS_1 := Aside0.mk hS1
  clear hS1
  have HS_2 := Aside0.mk hS2
  clear hS2
  have HS_3 := Aside0.mk hS3
  clear hS3
  clear hf h hgood hm
  go_enter Tryd.func9, Tryd.ntmps9
  go_wp2_with (fail)
  refine (Trim_c l HOK.out ok A c w HF0.out hc).mono ?_
  rw [HM.out]
  rintro e w1 ⟨v2, rfl, hn2, hb2⟩
  obtain ⟨A2, c2, rfl⟩ := Kd.N_slice hn2
  obtain ⟨h1, h2⟩ := An.mk0 hn2 HZ HG.out
  have HS := Aside0.mk h1
  have HF := Aside0.mk h2
  have HB := Aside0.mk hb2
  clear hn2 h1 h2 hb2 HF0 HOK HM
  go_wp2_with (fail)
  generalize w1.alloc (.cells #[.slice A2 m.length c2, .bool false] 47) = wA at HS HF ⊢
  obtain ⟨g, hg⟩ : ∃ g, w1.heap.size = g := ⟨_, rfl⟩
  have HGE : Aside0 (w1.heap.size ≤ g) := ⟨Nat.le_of_eq hg⟩
  rw [hg] at HS HF ⊢
  clear hg
  obtain ⟨n, hn⟩ : ∃ n, m.length = n := ⟨_, rfl⟩
  rw [hn]
  have hz2 : n ≤ 1000000000 := by omega
  have HN := Aside0.mk hn
  clear hn HZ hc
  go_loopg [20] n (fun gk v wr => ∃ k : Nat, n ≤ k + gk ∧ k ≤ n ∧ v = .int .i64 k ∧ Aside0 (An w1 wr g m false) ∧ Aside0 (Kd.F k51 wr (fun k => k ≠ g) A2 m.length m))
  case atStart => exact ⟨0, by omega, by omega, rfl, HS, HF⟩
  case round =>
    obtain ⟨k, hkn, hkl, rfl, HR, HFR⟩ := hrel
    clear HS HF
    by_cases hlt : k < n
    · as_aux_lemma =>
      obtain ⟨ad, A6, c6, hA2, x0, x1, x2, x3, x4, x5, x6, hl6, hi6⟩ := at_T51 (Kd.F_now HFR.out) k (by omega) (by have := HN.out; omega)
      subst hA2
      have e0 : rd_T51 m k = m.getD k z51 := rfl
      rw [e0] at x0 x1 x2 x3 x4 x5 x6 hl6 hi6
      obtain ⟨x, hx⟩ : ∃ x, m.getD k z51 = x := ⟨_, rfl⟩
      rw [hx] at x0 x1 x2 x3 x4 x5 x6 hl6 hi6
      rw [Int.toNat_natCast] at x0 x1 x2 x3 x4 x5 x6
      have HX := Aside0.mk hx
      have hkn2 : (k : Int) < (n : Int) := by omega
      clear hx e0 hl6 hi6
      have hox := HOP.out k (by have := HN.out; omega)
      rw [HX.out] at hox
      obtain ⟨b1, b2, b3⟩ := opB_no hox
      have b1i : decide ((0 : Int) < (x.f1.length : Int)) = false := decide_eq_false (by omega)
      have b1j : decide (0 < x.f1.length) = false := decide_eq_false (by omega)
      clear hox b1
      go_wp2
      go_roundg (gk - 1)
      case measure => omega
      case rel => exact ⟨k + 1, by omega, by omega, by go_num, ⟨HR.out.alloc _⟩, ⟨Kd.F_alloc HFR.out _⟩⟩
    · have hke : k = n := by omega
      have HS := HR
      clear HR HFR hlt hkn hkl
      subst hke
      have hsl : decide ((k : Int) < (k : Int)) = false := decide_eq_false (by omega)
      have hn1 : ((k : Int) == 1) = true := beq_iff_eq.2 (by have := HLN.out; have := HN.out; omega)
      go_wp2_with (first
        | (go_at_call 21; refine (see_c HS.out).mono ?_; rw [HK.out, HT.out]; rintro e w2 ⟨rfl, hb⟩; have h1 := HS.out.below hb; clear HS; obtain ⟨A, c, hc0, hc1, hf0, hf1, -, -⟩ := h1.c0; rw [HN.out] at hc0; have HS := Aside0.mk h1; clear hb h1)
        | (go_at_call 22; refine (first_c HS.out).mono ?_; rw [HF_1.out, HF_2.out, HF_3.out, HF_4.out]; rintro e w3 ⟨rfl, h1⟩; clear HS hc0 hc1 hf0 hf1; obtain ⟨A, c, hc0, hc1, hf0, hf1, -, -⟩ := h1.c0; have HS := Aside0.mk h1; clear h1)
        | (go_at_call 23; refine (second_c r HR9.out HS.out).mono ?_; rw [HS_1.out, HS_2.out, HS_3.out]; rintro e w4 ⟨rfl, h1⟩; clear HS hc0 hc1 hf0 hf1; obtain ⟨A, c, hc0, hc1, hf0, hf1, -, -⟩ := h1.c0; have HS := Aside0.mk h1; clear h1))
      go_ret3
      exact ⟨rfl, HB.out.trans ((HS.out.fresh HGE.out).mono HB.out.size)⟩
set_option maxHeartbeats 8000000 in
set_option maxRecDepth 100000 in
theorem parse_td (l : List N51) (h : Ok51 l) (hgood : ∀ x, x ∈ l → GoodN x) (ok : Nat → Prop) (A : Option Addr) (c : Nat) (w : World) (hf : Kd.F k51 w ok A l.length l) (hc : l.length ≤ c)
    (m : List N51) (hm : trimN l = m) (hop : ∀ j, j < m.length → opB (m.getD j z51) = false) (hlen : m.length = 1) (hk : ¬ seeK m = 1) (hk2 : ¬ seeK m = 10) (a : Int) (r : ByteArray) (L : List N51) (hF1 : (fst5 m).1 = a) (hF2 : (fst5 m).2.1 = r) (hF3 : (fst5 m).2.2.1 = L) (hF4 : (fst5 m).2.2.2 = false) (hr : r.size ≤ 1000000000) (b : Int) (L2 : List N51) (hS1 : (secP r L).1 = b) (hS2 : (secP r L).2.1 = L2) (hS3 : (secP r L).2.2 = false) (hL : 0 < L2.length) :
    Calls Tryd.prog 9 #[.slice A l.length c] w fun e w' => e = .returned (.tuple #[.int .i64 0, .int .i64 0, .int .i64 2]) ∧ Below w.heap.size w w' := by
  obtain ⟨K, hK⟩ : ∃ K, seeK m = K := ⟨_, rfl⟩
  obtain ⟨T, hT⟩ : ∃ T, seeT m = T := ⟨_, rfl⟩
  rw [hK] at hk
  rw [hK] at hk2
  have k1 : (K == 1) = false := beq_eq_false_iff_ne.2 (by omega)
  have k10 : (K == 10) = false := beq_eq_false_iff_ne.2 (by omega)
  have HR9 := Aside0.mk hr
  have hL0 : (0 : Int) < (L2.length : Int) := by omega
  have HK := Aside0.mk hK
  have HT := Aside0.mk hT
  have HLN := Aside0.mk hlen
  clear hK hT hlen hk hk2 hr hL
  have HG := Aside0.mk (good_trimN hgood)
  have HF0 := Aside0.mk hf
  have HOK := Aside0.mk h
  have HZ : (trimN l).length ≤ 1000000000 := Nat.le_trans (trimN_len l) h.len
  have HM := Aside0.mk hm
  rw [hm] at HG HZ
  have HOP := Aside0.mk hop
  clear hop
  have HF_1 := Aside0.mk hF1
  clear hF1
  have HF_2 := Aside0.mk hF2
  clear hF2
  have HF_3 := Aside0.mk hF3
  clear hF3
  have HF_4 := Aside0.mk hF4
  clear hF4
  have HS_1 := Aside0.mk hS1
  clear hS1
  have HS_2 := Aside0.mk hS2
  clear hS2
  have HS_3 := Aside0.mk hS3
  clear hS3
  clear hf h hgood hm
  go_enter Tryd.func9, Tryd.ntmps9
  go_wp2_with (fail)
  refine (Trim_c l HOK.out ok A c w HF0.out hc).mono ?_
  rw [HM.out]
  rintro e w1 ⟨v2, rfl, hn2, hb2⟩
  obtain ⟨A2, c2, rfl⟩ := Kd.N_slice hn2
  obtain ⟨h1, h2⟩ := An.mk0 hn2 HZ HG.out
  have HS := Aside0.mk h1
  have HF := Aside0.mk h2
  have HB := Aside0.mk hb2
  clear hn2 h1 h2 hb2 HF0 HOK HM
  go_wp2_with (fail)
  generalize w1.alloc (.cells #[.slice A2 m.length c2, .bool false] 47) = wA at HS HF ⊢
  obtain ⟨g, hg⟩ : ∃ g, w1.heap.size = g := ⟨_, rfl⟩
  have HGE : Aside0 (w1.heap.size ≤ g) := ⟨Nat.le_of_eq hg⟩
  rw [hg] at HS HF ⊢
  clear hg
  obtain ⟨n, hn⟩ : ∃ n, m.length = n := ⟨_, rfl⟩
  rw [hn]
  have hz2 : n ≤ 1000000000 := by omega
  have HN := Aside0.mk hn
  clear hn HZ hc
  go_loopg [20] n (fun gk v wr => ∃ k : Nat, n ≤ k + gk ∧ k ≤ n ∧ v = .int .i64 k ∧ Aside0 (An w1 wr g m false) ∧ Aside0 (Kd.F k51 wr (fun k => k ≠ g) A2 m.length m))
  case atStart => exact ⟨0, by omega, by omega, rfl, HS, HF⟩
  case round =>
    obtain ⟨k, hkn, hkl, rfl, HR, HFR⟩ := hrel
    clear HS HF
    by_cases hlt : k < n
    · as_aux_lemma =>
      obtain ⟨ad, A6, c6, hA2, x0, x1, x2, x3, x4, x5, x6, hl6, hi6⟩ := at_T51 (Kd.F_now HFR.out) k (by omega) (by have := HN.out; omega)
      subst hA2
      have e0 : rd_T51 m k = m.getD k z51 := rfl
      rw [e0] at x0 x1 x2 x3 x4 x5 x6 hl6 hi6
      obtain ⟨x, hx⟩ : ∃ x, m.getD k z51 = x := ⟨_, rfl⟩
      rw [hx] at x0 x1 x2 x3 x4 x5 x6 hl6 hi6
      rw [Int.toNat_natCast] at x0 x1 x2 x3 x4 x5 x6
      have HX := Aside0.mk hx
      have hkn2 : (k : Int) < (n : Int) := by omega
      clear hx e0 hl6 hi6
      have hox := HOP.out k (by have := HN.out; omega)
      rw [HX.out] at hox
      obtain ⟨b1, b2, b3⟩ := opB_no hox
      have b1i : decide ((0 : Int) < (x.f1.length : Int)) = false := decide_eq_false (by omega)
      have b1j : decide (0 < x.f1.length) = false := decide_eq_false (by omega)
      clear hox b1
      go_wp2
      go_roundg (gk - 1)
      case measure => omega
      case rel => exact ⟨k + 1, by omega, by omega, by go_num, ⟨HR.out.alloc _⟩, ⟨Kd.F_alloc HFR.out _⟩⟩
    · have hke : k = n := by omega
      have HS := HR
      clear HR HFR hlt hkn hkl
      subst hke
      have hsl : decide ((k : Int) < (k : Int)) = false := decide_eq_false (by omega)
      have hn1 : ((k : Int) == 1) = true := beq_iff_eq.2 (by have := HLN.out; have := HN.out; omega)
      go_wp2_with (first
        | (go_at_call 21; refine (see_c HS.out).mono ?_; rw [HK.out, HT.out]; rintro e w2 ⟨rfl, hb⟩; have h1 := HS.out.below hb; clear HS; obtain ⟨A, c, hc0, hc1, hf0, hf1, -, -⟩ := h1.c0; rw [HN.out] at hc0; have HS := Aside0.mk h1; clear hb h1)
        | (go_at_call 22; refine (first_c HS.out).mono ?_; rw [HF_1.out, HF_2.out, HF_3.out, HF_4.out]; rintro e w3 ⟨rfl, h1⟩; clear HS hc0 hc1 hf0 hf1; obtain ⟨A, c, hc0, hc1, hf0, hf1, -, -⟩ := h1.c0; have HS := Aside0.mk h1; clear h1)
        | (go_at_call 23; refine (second_c r HR9.out HS.out).mono ?_; rw [HS_1.out, HS_2.out, HS_3.out]; rintro e w4 ⟨rfl, h1⟩; clear HS hc0 hc1 hf0 hf1; obtain ⟨A, c, hc0, hc1, hf0, hf1, -, -⟩ := h1.c0; have HS := Aside0.mk h1; clear h1))
      go_ret3
      exact ⟨rfl, HB.out.trans ((HS.out.fresh HGE.out).mono HB.out.size)⟩
set_option maxHeartbeats 8000000 in
set_option maxRecDepth 100000 in
theorem parse_ud (l : List N51) (h : Ok51 l) (hgood : ∀ x, x ∈ l → GoodN x) (ok : Nat → Prop) (A : Option Addr) (c : Nat) (w : World) (hf : Kd.F k51 w ok A l.length l) (hc : l.length ≤ c)
    (m : List N51) (hm : trimN l = m) (hop : ∀ j, j < m.length → opB (m.getD j z51) = false) (hlen : m.length = 1) (hk : ¬ seeK m = 1) (hk2 : ¬ seeK m = 10) (a : Int) (r : ByteArray) (L : List N51) (hF1 : (fst5 m).1 = a) (hF2 : (fst5 m).2.1 = r) (hF3 : (fst5 m).2.2.1 = L) (hF4 : (fst5 m).2.2.2 = false) (hr : r.size ≤ 1000000000) (b : Int) (hS1 : (secP r L).1 = b) (hS2 : (secP r L).2.1 = []) (hS3 : (secP r L).2.2 = false) :
    Calls Tryd.prog 9 #[.slice A l.length c] w fun e w' => e = .returned (.tuple #[.int .i64 a, .int .i64 b, .int .i64 0]) ∧ Below w.heap.size w w' := by
  obtain ⟨K, hK⟩ : ∃ K, seeK m = K := ⟨_, rfl⟩
  obtain ⟨T, hT⟩ : ∃ T, seeT m = T := ⟨_, rfl⟩
  rw [hK] at hk
  rw [hK] at hk2
  have k1 : (K == 1) = false := beq_eq_false_iff_ne.2 (by omega)
  have k10 : (K == 10) = false := beq_eq_false_iff_ne.2 (by omega)
  have HR9 := Aside0.mk hr
  have HK := Aside0.mk hK
  have HT := Aside0.mk hT
  have HLN := Aside0.mk hlen
  clear hK hT hlen hk hk2 hr
  have HG := Aside0.mk (good_trimN hgood)
  have HF0 := Aside0.mk hf
  have HOK := Aside0.mk h
  have HZ : (trimN l).length ≤ 1000000000 := Nat.le_trans (trimN_len l) h.len
  have HM := Aside0.mk hm
  rw [hm] at HG HZ
  have HOP := Aside0.mk hop
  clear hop
  have HF_1 := Aside0.mk hF1
  clear hF1
  have HF_2 := Aside0.mk hF2
  clear hF2
  have HF_3 := Aside0.mk hF3
  clear hF3
  have HF_4 := Aside0.mk hF4
  clear hF4
  have HS_1 := Aside0.mk hS1
  clear hS1
  have HS_2 := Aside0.mk hS2
  clear hS2
  have HS_3 := Aside0.mk hS3
  clear hS3
  clear hf h hgood hm
  go_enter Tryd.func9, Tryd.ntmps9
  go_wp2_with (fail)
  refine (Trim_c l HOK.out ok A c w HF0.out hc).mono ?_
  rw [HM.out]
  rintro e w1 ⟨v2, rfl, hn2, hb2⟩
  obtain ⟨A2, c2, rfl⟩ := Kd.N_slice hn2
  obtain ⟨h1, h2⟩ := An.mk0 hn2 HZ HG.out
  have HS := Aside0.mk h1
  have HF := Aside0.mk h2
  have HB := Aside0.mk hb2
  clear hn2 h1 h2 hb2 HF0 HOK HM
  go_wp2_with (fail)
  generalize w1.alloc (.cells #[.slice A2 m.length c2, .bool false] 47) = wA at HS HF ⊢
  obtain ⟨g, hg⟩ : ∃ g, w1.heap.size = g := ⟨_, rfl⟩
  have HGE : Aside0 (w1.heap.size ≤ g) := ⟨Nat.le_of_eq hg⟩
  rw [hg] at HS HF ⊢
  clear hg
  obtain ⟨n, hn⟩ : ∃ n, m.length = n := ⟨_, rfl⟩
  rw [hn]
  have hz2 : n ≤ 1000000000 := by omega
  have HN := Aside0.mk hn
  clear hn HZ hc
  go_loopg [20] n (fun gk v wr => ∃ k : Nat, n ≤ k + gk ∧ k ≤ n ∧ v = .int .i64 k ∧ Aside0 (An w1 wr g m false) ∧ Aside0 (Kd.F k51 wr (fun k => k ≠ g) A2 m.length m))
  case atStart => exact ⟨0, by omega, by omega, rfl, HS, HF⟩
  case round =>
    obtain ⟨k, hkn, hkl, rfl, HR, HFR⟩ := hrel
    clear HS HF
    by_cases hlt : k < n
    · as_aux_lemma =>
      obtain ⟨ad, A6, c6, hA2, x0, x1, x2, x3, x4, x5, x6, hl6, hi6⟩ := at_T51 (Kd.F_now HFR.out) k (by omega) (by have := HN.out; omega)
      subst hA2
      have e0 : rd_T51 m k = m.getD k z51 := rfl
      rw [e0] at x0 x1 x2 x3 x4 x5 x6 hl6 hi6
      obtain ⟨x, hx⟩ : ∃ x, m.getD k z51 = x := ⟨_, rfl⟩
      rw [hx] at x0 x1 x2 x3 x4 x5 x6 hl6 hi6
      rw [Int.toNat_natCast] at x0 x1 x2 x3 x4 x5 x6
      have HX := Aside0.mk hx
      have hkn2 : (k : Int) < (n : Int) := by omega
      clear hx e0 hl6 hi6
      have hox := HOP.out k (by have := HN.out; omega)
      rw [HX.out] at hox
      obtain ⟨b1, b2, b3⟩ := opB_no hox
      have b1i : decide ((0 : Int) < (x.f1.length : Int)) = false := decide_eq_false (by omega)
      have b1j : decide (0 < x.f1.length) = false := decide_eq_false (by omega)
      clear hox b1
      go_wp2
      go_roundg (gk - 1)
      case measure => omega
      case rel => exact ⟨k + 1, by omega, by omega, by go_num, ⟨HR.out.alloc _⟩, ⟨Kd.F_alloc HFR.out _⟩⟩
    · have hke : k = n := by omega
      have HS := HR
      clear HR HFR hlt hkn hkl
      subst hke
      have hsl : decide ((k : Int) < (k : Int)) = false := decide_eq_false (by omega)
      have hn1 : ((k : Int) == 1) = true := beq_iff_eq.2 (by have := HLN.out; have := HN.out; omega)
      go_wp2_with (first
        | (go_at_call 21; refine (see_c HS.out).mono ?_; rw [HK.out, HT.out]; rintro e w2 ⟨rfl, hb⟩; have h1 := HS.out.below hb; clear HS; obtain ⟨A, c, hc0, hc1, hf0, hf1, -, -⟩ := h1.c0; rw [HN.out] at hc0; have HS := Aside0.mk h1; clear hb h1)
        | (go_at_call 22; refine (first_c HS.out).mono ?_; rw [HF_1.out, HF_2.out, HF_3.out, HF_4.out]; rintro e w3 ⟨rfl, h1⟩; clear HS hc0 hc1 hf0 hf1; obtain ⟨A, c, hc0, hc1, hf0, hf1, -, -⟩ := h1.c0; have HS := Aside0.mk h1; clear h1)
        | (go_at_call 23; refine (second_c r HR9.out HS.out).mono ?_; rw [HS_1.out, HS_2.out, HS_3.out]; rintro e w4 ⟨rfl, h1⟩; clear HS hc0 hc1 hf0 hf1; obtain ⟨A, c, hc0, hc1, hf0, hf1, -, -⟩ := h1.c0; have HS := Aside0.mk h1; clear h1))
      go_ret3
      exact ⟨rfl, HB.out.trans ((HS.out.fresh HGE.out).mono HB.out.size)⟩

def oddS : ByteArray := ⟨#[111, 100, 100]⟩
def evenS : ByteArray := ⟨#[101, 118, 101, 110]⟩
def seeW : List N51 → Bool
  | [] => false
  | x :: _ => x.f0.f3
def seeI : List N51 → Int
  | [] => 0
  | x :: _ => x.f0.f2
def prsP (m : List N51) : Int × Int × Int :=
  if m.any opB = true then (0, 0, 2)
  else if m.length = 1 ∧ seeK m = 1 ∧ seeT m = oddS then (2, 1, 0)
  else if m.length = 1 ∧ seeK m = 1 ∧ seeT m = evenS then (2, 0, 0)
  else if m.length = 1 ∧ seeK m = 10 ∧ seeW m = true then (0, seeI m, 0)
  else if (fst5 m).2.2.2 = true then (0, 0, 2)
  else if (secP (fst5 m).2.1 (fst5 m).2.2.1).2.2 = true ∨ 0 < (secP (fst5 m).2.1 (fst5 m).2.2.1).2.1.length then (0, 0, 2)
  else ((fst5 m).1, (secP (fst5 m).2.1 (fst5 m).2.2.1).1, 0)
theorem lowerB_size (s : ByteArray) : (lowerB s).size = s.size := by
  unfold lowerB
  show (s.data.toList.map lowB).toArray.size = s.size
  simp
theorem fstP_size {plus : Bool} {m : List N51} (h : ∀ x, x ∈ m → GoodN x) : (fstP plus m).2.1.size ≤ 1000000000 := by
  cases m with
  | nil => exact Nat.zero_le _
  | cons x t =>
    have hz := (h x (by simp)).1
    have h1 : ((lowerB x.f0.f1).extract 1 (lowerB x.f0.f1).size).size ≤ 1000000000 := by rw [extract_one_size, lowerB_size]; omega
    have h2 : ((lowerB x.f0.f1).extract 2 (lowerB x.f0.f1).size).size ≤ 1000000000 := by
      rw [ByteArray.size_extract, lowerB_size]; omega
    have e : fstP plus (x :: t) = if x.f0.f0 = 12 ∧ plus = false ∧ x.f0.f3 = true ∧ preB [110] (lowerB x.f0.f1) = true then (x.f0.f2, (lowerB x.f0.f1).extract 1 (lowerB x.f0.f1).size, t, false)
      else if x.f0.f0 = 1 ∧ preB [110] (lowerB x.f0.f1) = true then (1, (lowerB x.f0.f1).extract 1 (lowerB x.f0.f1).size, t, false)
      else if x.f0.f0 = 1 ∧ plus = false ∧ preB [45, 110] (lowerB x.f0.f1) = true then (-1, (lowerB x.f0.f1).extract 2 (lowerB x.f0.f1).size, t, false)
      else (0, ⟨#[]⟩, x :: t, true) := rfl
    rw [e]
    split
    · exact h1
    · split
      · exact h1
      · split
        · exact h2
        · exact Nat.zero_le _
theorem fst5_size {m : List N51} (h : ∀ x, x ∈ m → GoodN x) : (fst5 m).2.1.size ≤ 1000000000 := by
  unfold fst5
  split
  · exact fstP_size (good_tail h)
  · exact fstP_size h
theorem Parse_c (l : List N51) (h : Ok51 l) (hgood : ∀ x, x ∈ l → GoodN x) (ok : Nat → Prop) (A : Option Addr) (c : Nat) (w : World) (hf : Kd.F k51 w ok A l.length l) (hc : l.length ≤ c) :
    Calls Tryd.prog 9 #[.slice A l.length c] w fun e w' => e = .returned (.tuple #[.int .i64 (prsP (trimN l)).1, .int .i64 (prsP (trimN l)).2.1, .int .i64 (prsP (trimN l)).2.2]) ∧ Below w.heap.size w w' := by
  obtain ⟨m, hm⟩ : ∃ m, trimN l = m := ⟨_, rfl⟩
  have hgm := good_trimN hgood
  rw [hm] at hgm ⊢
  rcases any_first m with hop | ⟨q, hq, hop⟩
  · have hany : ¬ m.any opB = true := by
      intro ha
      obtain ⟨x, hx, hb⟩ := List.any_eq_true.1 ha
      obtain ⟨j, hj, rfl⟩ := List.mem_iff_getElem.1 hx
      have := hop j hj
      rw [List.getD_eq_getElem?_getD, List.getElem?_eq_getElem hj] at this
      rw [show (some m[j]).getD z51 = m[j] from rfl, hb] at this
      cases this
    have e0 : prsP m = if m.length = 1 ∧ seeK m = 1 ∧ seeT m = oddS then (2, 1, 0)
      else if m.length = 1 ∧ seeK m = 1 ∧ seeT m = evenS then (2, 0, 0)
      else if m.length = 1 ∧ seeK m = 10 ∧ seeW m = true then (0, seeI m, 0)
      else if (fst5 m).2.2.2 = true then (0, 0, 2)
      else if (secP (fst5 m).2.1 (fst5 m).2.2.1).2.2 = true ∨ 0 < (secP (fst5 m).2.1 (fst5 m).2.2.1).2.1.length then (0, 0, 2)
      else ((fst5 m).1, (secP (fst5 m).2.1 (fst5 m).2.2.1).1, 0) := if_neg hany
    rw [e0]
    clear e0
    by_cases c1 : m.length = 1 ∧ seeK m = 1 ∧ seeT m = oddS
    · rw [if_pos c1]
      exact parse_1 l h hgood ok A c w hf hc m hm hop c1.1 c1.2.1 c1.2.2
    · rw [if_neg c1]
      by_cases c2 : m.length = 1 ∧ seeK m = 1 ∧ seeT m = evenS
      · rw [if_pos c2]
        exact parse_2 l h hgood ok A c w hf hc m hm hop c2.1 c2.2.1 (fun e => c1 ⟨c2.1, c2.2.1, e⟩) c2.2.2
      · rw [if_neg c2]
        by_cases c3 : m.length = 1 ∧ seeK m = 10 ∧ seeW m = true
        · rw [if_pos c3]
          obtain ⟨x, rfl⟩ := List.length_eq_one_iff.1 c3.1
          exact parse_3 l h hgood ok A c w hf hc x _ rfl hm hop c3.2.1 c3.2.2
        · rw [if_neg c3]
          have hr := fst5_size hgm
          by_cases c4 : (fst5 m).2.2.2 = true
          · rw [if_pos c4]
            by_cases h1 : m.length = 1
            · by_cases k1 : seeK m = 1
              · exact parse_fb l h hgood ok A c w hf hc m hm hop h1 k1 (fun e => c1 ⟨h1, k1, e⟩) (fun e => c2 ⟨h1, k1, e⟩) _ _ _ rfl rfl rfl c4
              · by_cases k10 : seeK m = 10
                · obtain ⟨x, rfl⟩ := List.length_eq_one_iff.1 h1
                  exact parse_fc l h hgood ok A c w hf hc x _ rfl hm hop k10 (by
                    cases h3 : x.f0.f3 with
                    | false => rfl
                    | true => exact absurd ⟨h1, k10, h3⟩ c3) _ _ _ rfl rfl rfl c4
                · exact parse_fd l h hgood ok A c w hf hc m hm hop h1 k1 k10 _ _ _ rfl rfl rfl c4
            · exact parse_fa l h hgood ok A c w hf hc m hm hop h1 _ _ _ rfl rfl rfl c4
          · rw [if_neg c4]
            have c4' : (fst5 m).2.2.2 = false := by simpa using c4
            by_cases c5 : (secP (fst5 m).2.1 (fst5 m).2.2.1).2.2 = true
            · rw [if_pos (.inl c5)]
              by_cases h1 : m.length = 1
              · by_cases k1 : seeK m = 1
                · exact parse_sb l h hgood ok A c w hf hc m hm hop h1 k1 (fun e => c1 ⟨h1, k1, e⟩) (fun e => c2 ⟨h1, k1, e⟩) _ _ _ rfl rfl rfl c4' hr _ _ rfl rfl c5
                · by_cases k10 : seeK m = 10
                  · obtain ⟨x, rfl⟩ := List.length_eq_one_iff.1 h1
                    exact parse_sc l h hgood ok A c w hf hc x _ rfl hm hop k10 (by
                      cases h3 : x.f0.f3 with
                      | false => rfl
                      | true => exact absurd ⟨h1, k10, h3⟩ c3) _ _ _ rfl rfl rfl c4' hr _ _ rfl rfl c5
                  · exact parse_sd l h hgood ok A c w hf hc m hm hop h1 k1 k10 _ _ _ rfl rfl rfl c4' hr _ _ rfl rfl c5
              · exact parse_sa l h hgood ok A c w hf hc m hm hop h1 _ _ _ rfl rfl rfl c4' hr _ _ rfl rfl c5
            · have c5' : (secP (fst5 m).2.1 (fst5 m).2.2.1).2.2 = false := by simpa using c5
              by_cases c6 : 0 < (secP (fst5 m).2.1 (fst5 m).2.2.1).2.1.length
              · rw [if_pos (.inr c6)]
                by_cases h1 : m.length = 1
                · by_cases k1 : seeK m = 1
                  · exact parse_tb l h hgood ok A c w hf hc m hm hop h1 k1 (fun e => c1 ⟨h1, k1, e⟩) (fun e => c2 ⟨h1, k1, e⟩) _ _ _ rfl rfl rfl c4' hr _ _ rfl rfl c5' c6
                  · by_cases k10 : seeK m = 10
                    · obtain ⟨x, rfl⟩ := List.length_eq_one_iff.1 h1
                      exact parse_tc l h hgood ok A c w hf hc x _ rfl hm hop k10 (by
                        cases h3 : x.f0.f3 with
                        | false => rfl
                        | true => exact absurd ⟨h1, k10, h3⟩ c3) _ _ _ rfl rfl rfl c4' hr _ _ rfl rfl c5' c6
                    · exact parse_td l h hgood ok A c w hf hc m hm hop h1 k1 k10 _ _ _ rfl rfl rfl c4' hr _ _ rfl rfl c5' c6
                · exact parse_ta l h hgood ok A c w hf hc m hm hop h1 _ _ _ rfl rfl rfl c4' hr _ _ rfl rfl c5' c6
              · rw [if_neg (by rintro (e | e); exact c5 e; exact c6 e)]
                have c6' : (secP (fst5 m).2.1 (fst5 m).2.2.1).2.1 = [] := List.eq_nil_of_length_eq_zero (by omega)
                by_cases h1 : m.length = 1
                · by_cases k1 : seeK m = 1
                  · exact parse_ub l h hgood ok A c w hf hc m hm hop h1 k1 (fun e => c1 ⟨h1, k1, e⟩) (fun e => c2 ⟨h1, k1, e⟩) _ _ _ rfl rfl rfl c4' hr _ rfl c6' c5'
                  · by_cases k10 : seeK m = 10
                    · obtain ⟨x, rfl⟩ := List.length_eq_one_iff.1 h1
                      exact parse_uc l h hgood ok A c w hf hc x _ rfl hm hop k10 (by
                        cases h3 : x.f0.f3 with
                        | false => rfl
                        | true => exact absurd ⟨h1, k10, h3⟩ c3) _ _ _ rfl rfl rfl c4' hr _ rfl c6' c5'
                    · exact parse_ud l h hgood ok A c w hf hc m hm hop h1 k1 k10 _ _ _ rfl rfl rfl c4' hr _ rfl c6' c5'
                · exact parse_ua l h hgood ok A c w hf hc m hm hop h1 _ _ _ rfl rfl rfl c4' hr _ rfl c6' c5'
  · rw [show prsP m = (0, 0, 2) from if_pos (List.any_eq_true.2 ⟨m[q], List.getElem_mem hq, by
      rw [List.getD_eq_getElem?_getD, List.getElem?_eq_getElem hq] at hop; exact hop⟩)]
    exact parse_0 l h hgood ok A c w hf hc m hm q hq hop
/-! Plain: what tokens and nodes of a text are bounded by. -/
theorem enc_size (c : Int) : (Utf8.encode c).size ≤ 4 := by
  unfold Utf8.encode
  simp only
  generalize (if Utf8.valid c then c.toNat else Utf8.runeError) = k
  split
  · exact (show (1 : Nat) ≤ 4 by decide)
  · split
    · exact (show (2 : Nat) ≤ 4 by decide)
    · split
      · exact (show (3 : Nat) ≤ 4 by decide)
      · exact (show (4 : Nat) ≤ 4 by decide)
theorem app_enc (s : ByteArray) (c : Int) : (s ++ Utf8.encode c).size ≤ s.size + 4 := by
  have := enc_size c
  rw [ByteArray.size_append]
  omega
theorem nameP_size : ∀ (n : Nat) (s : ByteArray) (l : List Int), (nameP n s l).1.size ≤ s.size + 4 * n
  | 0, s, l => by unfold nameP; simp
  | n + 1, s, l => by
    unfold nameP
    split
    · have h1 := nameP_size n (s ++ Utf8.encode (sg l 0)) l.tail
      have h2 := app_enc s (sg l 0)
      omega
    · split
      · have h1 := nameP_size n (s ++ Utf8.encode (escP l.tail).1) (escP l.tail).2
        have h2 := app_enc s (escP l.tail).1
        omega
      · simp
theorem nameL_size (l : List Int) : (nameL l).1.size ≤ 4 * l.length := by
  have := nameP_size l.length ⟨#[]⟩ l
  have e : (⟨#[]⟩ : ByteArray).size = 0 := rfl
  unfold nameL
  omega
theorem quoP_size (q : Int) : ∀ (n : Nat) (s : ByteArray) (l : List Int), (quoP q n s l).1.f1.size ≤ s.size + 4 * n ∧ (quoP q n s l).1.f2 = 0
  | 0, s, l => by unfold quoP; exact ⟨by simp [mkT], rfl⟩
  | n + 1, s, l => by
    unfold quoP
    split
    · exact ⟨by simp [mkT], rfl⟩
    · split
      · exact ⟨by simp [mkT], rfl⟩
      · split
        · exact ⟨by show (⟨#[]⟩ : ByteArray).size ≤ _; exact Nat.zero_le _, rfl⟩
        · split
          · split
            · have h := quoP_size q n s l.tail; exact ⟨by omega, h.2⟩
            · split
              · have h := quoP_size q n s l.tail.tail; exact ⟨by omega, h.2⟩
              · have h := quoP_size q n (s ++ Utf8.encode (escP l.tail).1) (escP l.tail).2
                have h2 := app_enc s (escP l.tail).1
                exact ⟨by omega, h.2⟩
          · have h := quoP_size q n (s ++ Utf8.encode (sg l 0)) l.tail
            have h2 := app_enc s (sg l 0)
            exact ⟨by omega, h.2⟩
theorem urlP_size : ∀ (n : Nat) (s : ByteArray) (l : List Int), (urlP n s l).1.f1.size ≤ s.size + 4 * n ∧ (urlP n s l).1.f2 = 0
  | 0, s, l => by unfold urlP; exact ⟨by simp [mkT], rfl⟩
  | n + 1, s, l => by
    have z : ∀ x : List Int, (mkT 8 ⟨#[]⟩, x).1.f1.size ≤ s.size + 4 * (n + 1) ∧ (mkT 8 ⟨#[]⟩, x).1.f2 = 0 := fun x => ⟨Nat.zero_le _, rfl⟩
    unfold urlP
    split
    · exact ⟨by simp [mkT], rfl⟩
    · split
      · exact ⟨by simp [mkT], rfl⟩
      · split
        · split
          · have h := urlP_size n s (skipW l); exact ⟨by omega, h.2⟩
          · exact z _
        · split
          · exact z _
          · split
            · split
              · have h := urlP_size n (s ++ Utf8.encode (escP l.tail).1) (escP l.tail).2
                have h2 := app_enc s (escP l.tail).1
                exact ⟨by omega, h.2⟩
              · exact z _
            · have h := urlP_size n (s ++ Utf8.encode (sg l 0)) l.tail
              have h2 := app_enc s (sg l 0)
              exact ⟨by omega, h.2⟩
def GoodT (N : Nat) (t : S49) : Prop := t.f1.size ≤ N ∧ -2147483648 ≤ t.f2 ∧ t.f2 ≤ 2147483647
theorem good_zero {N : Nat} {t : S49} (h : t.f1.size ≤ N) (h2 : t.f2 = 0) : GoodT N t := ⟨h, by omega, by omega⟩
theorem GoodT.mono {N M : Nat} {t : S49} (h : GoodT N t) (hm : N ≤ M) : GoodT M t := ⟨Nat.le_trans h.1 hm, h.2⟩
theorem intP_range (s : ByteArray) : -2147483648 ≤ intP s ∧ intP s ≤ 2147483647 := by
  unfold intP intL
  split
  · omega
  · split
    · omega
    · rename_i n hn
      have h := decG_bound _ 0 n (by omega) (by omega) hn
      split
      · unfold mx; split <;> omega
      · unfold mn; split <;> omega
theorem tail_len (l : List Int) : l.tail.length ≤ l.length := by rw [List.length_tail]; omega
theorem idnP_good (l : List Int) : GoodT (4 * l.length + 4) (idnP l).1 := by
  have h1 := nameL_size l
  have h2 := (nameL_suf l).length_le
  have hm : ∀ k x, GoodT (4 * l.length + 4) (mkT k (nameL l).1, x).1 := fun k (x : List Int) => good_zero (by show (nameL l).1.size ≤ _; omega) rfl
  unfold idnP
  split
  · split
    · split
      · exact hm _ _
      · have h := urlP_size (skipW (nameL l).2.tail).length ⟨#[]⟩ (skipW (nameL l).2.tail)
        have h3 := (skipW_suf (nameL l).2.tail).length_le
        have h4 := tail_len (nameL l).2
        have e : (⟨#[]⟩ : ByteArray).size = 0 := rfl
        exact good_zero (by unfold urlL; omega) h.2
    · exact hm _ _
  · exact hm _ _
theorem numT_good (l : List Int) : GoodT (4 * l.length + 4) (numT l).1 := by
  have hr : -2147483648 ≤ nI l ∧ nI l ≤ 2147483647 := by
    unfold nI
    split
    · exact intP_range _
    · omega
  have e1 : (nQ l).2.length ≤ (nF (nL1 l)).2.length := (nE_suf _ _).length_le
  have e2 := (nF_suf (nL1 l)).length_le
  have e3 : (nL1 l).length ≤ (nA l).2.length := (digL_suf _).length_le
  have e4 := (nA_suf l).length_le
  have h1 := nameL_size (nQ l).2
  unfold numT
  split
  · exact ⟨by show (nameL (nQ l).2).1.size ≤ _; omega, hr⟩
  · split
    · exact ⟨Nat.zero_le _, hr⟩
    · exact ⟨Nat.zero_le _, hr⟩
theorem tokP_good (l : List Int) : GoodT (4 * l.length + 4) (tokP l).1 := by
  have ht := tail_len l
  have z : ∀ k x, GoodT (4 * l.length + 4) (mkT k ⟨#[]⟩, x).1 := fun k (x : List Int) => good_zero (Nat.zero_le _) rfl
  have he := enc_size (sg l 0)
  have hn := nameL_size l.tail
  unfold tokP
  split
  · refine good_zero ?_ rfl
    show (plainS (sg l 0)).size ≤ _
    unfold plainS
    split
    · exact Nat.zero_le _
    · omega
  · split
    · exact z _ _
    · split
      · have h := quoP_size (sg l 0) l.tail.length ⟨#[]⟩ l.tail
        have e : (⟨#[]⟩ : ByteArray).size = 0 := rfl
        exact good_zero (by unfold quoL; omega) h.2
      · split
        · exact good_zero (by show (nameL l.tail).1.size ≤ _; omega) rfl
        · split
          · exact numT_good l
          · split
            · exact z _ _
            · split
              · exact z _ _
              · split
                · exact good_zero (by show (nameL l.tail).1.size ≤ _; omega) rfl
                · split
                  · exact idnP_good l
                  · exact good_zero (by show (Utf8.encode (sg l 0)).size ≤ _; omega) rfl
theorem tokF_good : ∀ (n : Nat) (l : List Int) (t : S49), t ∈ tokF n l → GoodT (4 * l.length + 4) t
  | 0, l, t, h => by unfold tokF at h; cases h
  | n + 1, l, t, h => by
    unfold tokF at h
    have hc := (comL_suf l.length l).length_le
    split at h
    · cases h
    · rename_i h0
      rcases List.mem_cons.1 h with rfl | h
      · exact (tokP_good _).mono (by omega)
      · have := tokF_good n _ t h
        have h2 := tokP_lt (l := comL l.length l) (by omega)
        exact this.mono (by omega)
theorem tokens_good (l : List Int) (t : S49) (h : t ∈ tokens l) : GoodT (4 * l.length + 4) t := tokF_good _ l t h
theorem z_good (N : Nat) : GoodT N z49 := good_zero (Nat.zero_le _) rfl
mutual
theorem nodeP_good {N : Nat} : ∀ (n : Nat) (l : List S49) (d : Int), (∀ t, t ∈ l → GoodT N t) → n ≤ 1000000000 → GoodT N (nodeP n l d).1.f0 ∧ Ok51 (nodeP n l d).1.f1 ∧ ∀ t, t ∈ (nodeP n l d).2 → GoodT N t
  | 0, l, d, h, hn => by unfold nodeP; exact ⟨z_good N, ⟨_, Nat.zero_le _, fun x hx => by cases hx⟩, fun t ht => by cases ht⟩
  | n + 1, [], d, h, hn => by unfold nodeP; exact ⟨z_good N, ⟨_, Nat.zero_le _, fun x hx => by cases hx⟩, fun t ht => by cases ht⟩
  | n + 1, t :: ts, d, h, hn => by
    unfold nodeP
    split
    · exact ⟨h t (by simp), ⟨_, Nat.zero_le _, fun x hx => by cases hx⟩, fun u hu => h u (List.mem_cons_of_mem _ hu)⟩
    · have hk := kidsP_good (N := N) n ts d (closesT t) (fun u hu => h u (List.mem_cons_of_mem _ hu)) (by omega)
      exact ⟨h t (by simp), ⟨_, Nat.le_trans hk.1 (by omega), hk.2.1⟩, hk.2.2⟩
theorem kidsP_good {N : Nat} : ∀ (n : Nat) (l : List S49) (d : Int) (c : ByteArray), (∀ t, t ∈ l → GoodT N t) → n ≤ 1000000000 → (kidsP n l d c).1.length ≤ n ∧ (∀ x, x ∈ (kidsP n l d c).1 → Ok51 x.f1) ∧ ∀ t, t ∈ (kidsP n l d c).2 → GoodT N t
  | 0, l, d, c, h, hn => by unfold kidsP; exact ⟨Nat.zero_le _, (fun x hx => by cases hx), fun t ht => by cases ht⟩
  | n + 1, [], d, c, h, hn => by unfold kidsP; exact ⟨Nat.zero_le _, (fun x hx => by cases hx), fun t ht => by cases ht⟩
  | n + 1, t :: ts, d, c, h, hn => by
    unfold kidsP
    split
    · exact ⟨Nat.zero_le _, (fun x hx => by cases hx), fun u hu => h u (List.mem_cons_of_mem _ hu)⟩
    · have h1 := nodeP_good (N := N) n (t :: ts) (d + 1) h (by omega)
      have h2 := kidsP_good (N := N) n (nodeP n (t :: ts) (d + 1)).2 d c h1.2.2 (by omega)
      refine ⟨?_, ?_, h2.2.2⟩
      · have h3 := h2.1
        rw [List.length_append]
        split <;> simp <;> omega
      · intro x hx
        rcases List.mem_append.1 hx with hx | hx
        · split at hx
          · simp at hx; subst hx; exact h1.2.1
          · cases hx
        · exact h2.2.1 x hx
end
theorem nodesP_good {N : Nat} : ∀ (n : Nat) (l : List S49), (∀ t, t ∈ l → GoodT N t) → l.length ≤ 400000000 → (nodesP n l).length ≤ n ∧ ∀ x, x ∈ nodesP n l → GoodT N x.f0 ∧ Ok51 x.f1
  | 0, l, h, hl => by unfold nodesP; exact ⟨Nat.zero_le _, fun x hx => by cases hx⟩
  | n + 1, [], h, hl => by unfold nodesP; exact ⟨Nat.zero_le _, fun x hx => by cases hx⟩
  | n + 1, t :: ts, h, hl => by
    have h1 := nodeP_good (N := N) (2 * ts.length + 2) (t :: ts) 1 h (by simp at hl; omega)
    have hlen : (nodeP (2 * ts.length + 2) (t :: ts) 1).2.length ≤ 400000000 := by
      obtain ⟨j, h1, h2, h3, h4⟩ := (node_kids (t :: ts) (by omega) (t :: ts).length).1 t ts 0 1 (3 * (t :: ts).length + 4) (2 * ts.length + 2) rfl rfl (Nat.le_refl _) (by simp; omega) (by omega) (by omega)
      rw [h3, List.length_drop]
      omega
    have h2 := nodesP_good (N := N) n _ h1.2.2 hlen
    unfold nodesP
    refine ⟨by simp only [List.length_cons]; omega, fun x hx => ?_⟩
    rcases List.mem_cons.1 hx with rfl | hx
    · exact ⟨h1.1, h1.2.1⟩
    · exact h2.2 x hx
theorem nodesS_good (s : ByteArray) (hs : s.size ≤ 1000000) : Ok51 (nodesS s) ∧ ∀ x, x ∈ nodesS s → GoodN x := by
  have h1 := reads_len s
  have h2 := tokens_len (reads s)
  have hg : ∀ t, t ∈ tokens (reads s) → GoodT 1000000000 t := fun t ht => (tokens_good _ t ht).mono (by omega)
  have h := nodesP_good (tokens (reads s)).length (tokens (reads s)) hg (by omega)
  exact ⟨⟨_, by have := h.1; show (nodesP _ _).length ≤ _; omega, fun x hx => (h.2 x hx).2⟩, fun x hx => (h.2 x hx).1⟩

/-! anb.Text. -/
abbrev TabP (w : World) : Prop := Lib.TabIs Tryd.prog w "internal/strconv.uint64pow10" .u64 Lib.pow10Tab
theorem tabP_below {w w1 : World} (h : TabP w) (hb : Below w.heap.size w w1) : TabP w1 := Lib.tabBelow_of_tabIs h w1 hb
def decB (n : Int) : ByteArray := ⟨(Lib.itoa n).toArray⟩
theorem itoa_c (n : Int) (h0 : -9223372036854775808 ≤ n) (h1 : n ≤ 9223372036854775807) (w : World) (ht : TabP w) :
    Calls Tryd.prog 28 #[.int .i64 n] w fun e w' => e = .returned (.string (decB n)) ∧ Below w.heap.size w w' := by
  refine (Tryd.strconv_Itoa n h0 h1 w ht).mono ?_
  rintro e w' ⟨rfl, k, os, rfl⟩
  exact ⟨rfl, Lib.below_grow _ w (Nat.le_refl _) k os⟩
theorem dd_len : ∀ (k u : Nat), u < 10 ^ (k + 1) → (Lib.decDigits u).length ≤ k + 1
  | 0, u, h => by rw [Lib.decDigits_one (by simpa using h)]; exact Nat.le_refl _
  | k + 1, u, h => by
    by_cases h1 : u < 10
    · rw [Lib.decDigits_one h1]; simp
    · rw [Lib.decDigits, dif_neg h1, List.length_append]
      have := dd_len k (u / 10) (by rw [Nat.pow_succ] at h; omega)
      simp; omega
theorem decB_size (n : Int) (h0 : -9223372036854775808 ≤ n) (h1 : n ≤ 9223372036854775807) : (decB n).size ≤ 20 := by
  have hz : (decB n).size = (Lib.itoa n).length := by show (Lib.itoa n).toArray.size = _; simp
  rw [hz]
  unfold Lib.itoa
  have h2 : (10 : Nat) ^ (18 + 1) = 10000000000000000000 := by decide
  split
  · have := dd_len 18 n.natAbs (by rw [h2]; omega)
    simp only [List.length_cons]; omega
  · have := dd_len 18 n.toNat (by rw [h2]; omega)
    omega
def textB (a b : Int) : ByteArray :=
  if a = 0 then decB b else if b = 0 then decB a ++ ⟨#[110]⟩ else if b < 0 then decB a ++ ⟨#[110]⟩ ++ decB b else decB a ++ ⟨#[110, 43]⟩ ++ decB b
set_option maxHeartbeats 4000000 in
set_option maxRecDepth 100000 in
theorem Text_c (a b : Int) (ha0 : -9223372036854775808 ≤ a) (ha1 : a ≤ 9223372036854775807) (hb0 : -9223372036854775808 ≤ b) (hb1 : b ≤ 9223372036854775807) (w : World) (ht : TabP w) :
    Calls Tryd.prog 13 #[.int .i64 a, .int .i64 b] w fun e w' => e = .returned (.string (textB a b)) ∧ Below w.heap.size w w' := by
  have hza := decB_size a ha0 ha1
  have hzb := decB_size b hb0 hb1
  have HT := Aside0.mk ht
  have HB := Aside0.mk (Below.refl w.heap.size w)
  clear ht
  by_cases h1 : a = 0
  · have b1 : (a == 0) = true := beq_iff_eq.2 h1
    have HV := Aside0.mk (show textB a b = decB b from if_pos h1)
    clear h1
    go_enter Tryd.func13, Tryd.ntmps13
    go_wp2_with (go_at_call 28; refine (itoa_c b hb0 hb1 _ HT.out).mono ?_; rintro e w1 ⟨rfl, hb⟩; have HB1 := Aside0.mk hb; clear hb)
    go_ret
    exact ⟨by rw [HV.out]; rfl, HB1.out⟩
  · have b1 : (a == 0) = false := beq_eq_false_iff_ne.2 h1
    by_cases h2 : b = 0
    · have b2 : (b == 0) = true := beq_iff_eq.2 h2
      have HV := Aside0.mk (show textB a b = decB a ++ ⟨#[110]⟩ by unfold textB; rw [if_neg h1, if_pos h2])
      clear h1 h2
      go_enter Tryd.func13, Tryd.ntmps13
      go_wp2_with (go_at_call 28; refine (itoa_c a ha0 ha1 _ HT.out).mono ?_; rintro e w1 ⟨rfl, hb⟩; have HB1 := Aside0.mk hb; clear hb)
      go_ret
      exact ⟨by rw [HV.out]; rfl, HB1.out⟩
    · have b2 : (b == 0) = false := beq_eq_false_iff_ne.2 h2
      by_cases h3 : b < 0
      · have b3 : decide (b < 0) = true := decide_eq_true h3
        have HV := Aside0.mk (show textB a b = decB a ++ ⟨#[110]⟩ ++ decB b by unfold textB; rw [if_neg h1, if_neg h2, if_pos h3])
        clear h1 h2
        have tok0 : True := trivial
        go_enter Tryd.func13, Tryd.ntmps13
        go_wp2_with (first
          | (go_at_call 28; have _t := tok0; refine (itoa_c a ha0 ha1 _ HT.out).mono ?_; rintro e w1 ⟨rfl, hb⟩; clear tok0; have h := HB.out.trans (hb.mono HB.out.size); have h2 := tabP_below HT.out hb; clear HB HT; have HB := Aside0.mk h; have HT := Aside0.mk h2; clear hb h h2)
          | (go_at_call 28; refine (itoa_c b hb0 hb1 _ HT.out).mono ?_; rintro e w1 ⟨rfl, hb⟩; have h := HB.out.trans (hb.mono HB.out.size); clear HB; have HB := Aside0.mk h; clear hb h))
        go_ret
        exact ⟨by rw [HV.out]; rfl, HB.out⟩
      · have b3 : decide (b < 0) = false := decide_eq_false h3
        have HV := Aside0.mk (show textB a b = decB a ++ ⟨#[110, 43]⟩ ++ decB b by unfold textB; rw [if_neg h1, if_neg h2, if_neg h3])
        clear h1 h2
        have tok0 : True := trivial
        go_enter Tryd.func13, Tryd.ntmps13
        go_wp2_with (first
          | (go_at_call 28; have _t := tok0; refine (itoa_c a ha0 ha1 _ HT.out).mono ?_; rintro e w1 ⟨rfl, hb⟩; clear tok0; have h := HB.out.trans (hb.mono HB.out.size); have h2 := tabP_below HT.out hb; clear HB HT; have HB := Aside0.mk h; have HT := Aside0.mk h2; clear hb h h2)
          | (go_at_call 28; refine (itoa_c b hb0 hb1 _ HT.out).mono ?_; rintro e w1 ⟨rfl, hb⟩; have h := HB.out.trans (hb.mono HB.out.size); clear HB; have HB := Aside0.mk h; clear hb h))
        go_ret
        exact ⟨by rw [HV.out]; rfl, HB.out⟩

theorem aw1 : prsP (trimN (nodesS ⟨#[32, 45, 110, 43, 51, 32]⟩)) = (-1, 3, 0) := by kernel_rfl
theorem aw2 : prsP (trimN (nodesS ⟨#[79, 68, 68]⟩)) = (2, 1, 0) := by kernel_rfl
theorem aw3 : prsP (trimN (nodesS ⟨#[110, 32, 51]⟩)) = (0, 0, 2) := by kernel_rfl
/-- What Match tells, on true numbers. -/
def matB (a b n : Int) : Bool := if a = 0 then n == b else (decide (a ∣ n - b) && (n == b || (decide (b < n) == decide (0 < a))))
theorem wrapu (x : Int) : IntKind.u64.wrap x = x % 18446744073709551616 := by rfl
theorem tmod_dvd (x y : Int) : (x.tmod y == 0) = decide (y ∣ x) := by
  rw [Bool.eq_iff_iff, beq_iff_eq, decide_eq_true_iff]
  exact (Int.dvd_iff_tmod_eq_zero).symm
theorem mat_f (a b n : Int) (ha0 : -9223372036854775808 ≤ a) (ha1 : a ≤ 9223372036854775807) (hb0 : -9223372036854775808 ≤ b) (hb1 : b ≤ 9223372036854775807) (hn0 : -9223372036854775808 ≤ n) (hn1 : n ≤ 9223372036854775807) :
    anb_Match.f 2 a b n = some (matB a b n) := by
  unfold anb_Match.f matB
  by_cases h1 : a = 0
  · rw [if_pos h1, if_pos h1]
    simp only [anb_Match.j0]
    simp
  · rw [if_neg h1, if_neg h1]
    by_cases h2 : n = b
    · subst h2
      simp [anb_Match.j0]
    · have e2 : (n == b) = false := beq_eq_false_iff_ne.2 h2
      rw [e2]
      simp only [anb_Match.j0]
      rw [if_neg (by simp)]
      simp only [wrapu, tmod_dvd]
      by_cases ha : a < 0
      · by_cases hb : n < b
        · have e3 : (decide (n > b) != decide (a > 0)) = false := by rw [decide_eq_false (show ¬ n > b by omega), decide_eq_false (show ¬ a > 0 by omega)]; rfl
          have e4 : (-(a % 18446744073709551616)) % 18446744073709551616 = -a := by omega
          have e5 : (-((n % 18446744073709551616 - b % 18446744073709551616) % 18446744073709551616)) % 18446744073709551616 = b - n := by omega
          rw [e3, if_neg (by simp), if_pos ha, if_pos hb, e4, if_neg (by omega), e5, decide_eq_false (show ¬ b < n by omega), decide_eq_false (show ¬ 0 < a by omega)]
          congr 1
          simp only [Bool.false_or, beq_self_eq_true, Bool.and_true]
          congr 1
          rw [Int.neg_dvd, show b - n = -(n - b) by omega, Int.dvd_neg]
        · have e3 : (decide (n > b) != decide (a > 0)) = true := by rw [decide_eq_true (show n > b by omega), decide_eq_false (show ¬ a > 0 by omega)]; rfl
          rw [e3, if_pos rfl, decide_eq_true (show b < n by omega), decide_eq_false (show ¬ 0 < a by omega)]
          simp
      · by_cases hb : n < b
        · have e3 : (decide (n > b) != decide (a > 0)) = true := by rw [decide_eq_false (show ¬ n > b by omega), decide_eq_true (show a > 0 by omega)]; rfl
          rw [e3, if_pos rfl, decide_eq_false (show ¬ b < n by omega), decide_eq_true (show 0 < a by omega)]
          simp
        · have e3 : (decide (n > b) != decide (a > 0)) = false := by rw [decide_eq_true (show n > b by omega), decide_eq_true (show a > 0 by omega)]; rfl
          have e4 : a % 18446744073709551616 = a := by omega
          have e5 : (n % 18446744073709551616 - b % 18446744073709551616) % 18446744073709551616 = n - b := by omega
          rw [e3, if_neg (by simp), if_neg ha, if_neg hb, e4, if_neg (by omega), e5, decide_eq_true (show b < n by omega), decide_eq_true (show 0 < a by omega)]
          simp
theorem mat_c (a b n : Int) (ha0 : -9223372036854775808 ≤ a) (ha1 : a ≤ 9223372036854775807) (hb0 : -9223372036854775808 ≤ b) (hb1 : b ≤ 9223372036854775807) (hn0 : -9223372036854775808 ≤ n) (hn1 : n ≤ 9223372036854775807) (w : World) :
    Calls Tryd.prog 11 #[.int .i64 a, .int .i64 b, .int .i64 n] w fun e w' => e = .returned (.bool (matB a b n)) ∧ Below w.heap.size w w' :=
  (anb_Match.calls 2 a b n _ w (mat_f a b n ha0 ha1 hb0 hb1 hn0 hn1)).mono fun _ _ ⟨e, h⟩ => ⟨e, h.below⟩
/-- The numbers of a text. -/
theorem prsS_c (s : ByteArray) (hs : s.size ≤ 1000000) (v : Value) (w : World) (base : Nat) (hr : Kd.R k51 51 w base (fun _ => True) v (nodesS s)) :
    Calls Tryd.prog 9 #[v] w fun e w' => e = .returned (.tuple #[.int .i64 (prsP (trimN (nodesS s))).1, .int .i64 (prsP (trimN (nodesS s))).2.1, .int .i64 (prsP (trimN (nodesS s))).2.2]) ∧ Below w.heap.size w w' := by
  obtain ⟨h1, h2⟩ := nodesS_good s hs
  obtain ⟨A, c, rfl⟩ := Kd.N_slice (Kd.R_N hr)
  exact Parse_c (nodesS s) h1 h2 (fun _ => True) A c w (Kd.N_F (Kd.R_N hr)) (Kd.R_reads' hr).2.1
theorem decB_1 : decB (-1) = ⟨#[45, 49]⟩ := by
  unfold decB
  rw [show Lib.itoa (-1) = 45 :: Lib.decDigits 1 from rfl, Lib.decDigits_one (by decide)]
  rfl
theorem decB_d (n : Nat) (h : n < 10) : decB n = ⟨#[UInt8.ofNat (48 + n)]⟩ := by
  unfold decB
  rw [Lib.itoa_nonneg, Lib.decDigits_one h]
theorem tx1 : textB (-1) 3 = ⟨#[45, 49, 110, 43, 51]⟩ := by
  unfold textB
  rw [if_neg (by decide), if_neg (by decide), if_neg (by decide), decB_1, show decB 3 = _ from decB_d 3 (by decide)]
  rfl
theorem tx2 : textB 0 4 = ⟨#[52]⟩ := by
  unfold textB
  rw [if_pos rfl, show decB 4 = _ from decB_d 4 (by decide)]
  rfl
theorem tx3 : textB 2 0 = ⟨#[50, 110]⟩ := by
  unfold textB
  rw [if_neg (by decide), if_pos rfl, show decB 2 = _ from decB_d 2 (by decide)]
  rfl

set_option maxHeartbeats 8000000 in
set_option maxRecDepth 100000 in
theorem awake_c (w : World) (ht : TabP w) :
    Calls Tryd.prog 7 #[] w fun e w' => e = .returned (.bool true) ∧ Below w.heap.size w w' := by
  have HT := Aside0.mk ht
  have HB := Aside0.mk (Below.refl w.heap.size w)
  clear ht
  have tokN0 : True := trivial
  have tokN1 : True := trivial
  have tokN2 : True := trivial
  have tokP0 : True := trivial
  have tokP1 : True := trivial
  have tokP2 : True := trivial
  have tokM0 : True := trivial
  have tokM1 : True := trivial
  have tokM2 : True := trivial
  have tokM3 : True := trivial
  have tokT0 : True := trivial
  have tokT1 : True := trivial
  have tokT2 : True := trivial
  go_enter Tryd.func7, Tryd.ntmps7
  go_wp2_with (first
    | (go_at_call 8; have _t := tokN0; refine (nodes_c ⟨#[32, 45, 110, 43, 51, 32]⟩ _ (by decide)).mono ?_; rintro e w1 ⟨v, rfl, hr, hb⟩; clear tokN0; obtain ⟨A, c, rfl, -, -⟩ := Kd.R_reads hr; have HR0 := Aside0.mk hr; clear hr; have h := HB.out.trans (hb.mono HB.out.size); have h2 := tabP_below HT.out hb; clear HB HT; have HB := Aside0.mk h; have HT := Aside0.mk h2; clear hb h h2)
    | (go_at_call 9; have _t := tokP0; refine (prsS_c ⟨#[32, 45, 110, 43, 51, 32]⟩ (by decide) _ _ _ HR0.out).mono ?_; rw [aw1]; rintro e w1 ⟨rfl, hb⟩; clear tokP0; have h := HB.out.trans (hb.mono HB.out.size); have h2 := tabP_below HT.out hb; clear HB HT; have HB := Aside0.mk h; have HT := Aside0.mk h2; clear hb h h2)
    | (go_at_call 8; have _t := tokN1; refine (nodes_c ⟨#[79, 68, 68]⟩ _ (by decide)).mono ?_; rintro e w1 ⟨v, rfl, hr, hb⟩; clear tokN1; obtain ⟨A, c, rfl, -, -⟩ := Kd.R_reads hr; have HR1 := Aside0.mk hr; clear hr; have h := HB.out.trans (hb.mono HB.out.size); have h2 := tabP_below HT.out hb; clear HB HT; have HB := Aside0.mk h; have HT := Aside0.mk h2; clear hb h h2)
    | (go_at_call 9; have _t := tokP1; refine (prsS_c ⟨#[79, 68, 68]⟩ (by decide) _ _ _ HR1.out).mono ?_; rw [aw2]; rintro e w1 ⟨rfl, hb⟩; clear tokP1; have h := HB.out.trans (hb.mono HB.out.size); have h2 := tabP_below HT.out hb; clear HB HT; have HB := Aside0.mk h; have HT := Aside0.mk h2; clear hb h h2)
    | (go_at_call 8; have _t := tokN2; refine (nodes_c ⟨#[110, 32, 51]⟩ _ (by decide)).mono ?_; rintro e w1 ⟨v, rfl, hr, hb⟩; clear tokN2; obtain ⟨A, c, rfl, -, -⟩ := Kd.R_reads hr; have HR2 := Aside0.mk hr; clear hr; have h := HB.out.trans (hb.mono HB.out.size); have h2 := tabP_below HT.out hb; clear HB HT; have HB := Aside0.mk h; have HT := Aside0.mk h2; clear hb h h2)
    | (go_at_call 9; have _t := tokP2; refine (prsS_c ⟨#[110, 32, 51]⟩ (by decide) _ _ _ HR2.out).mono ?_; rw [aw3]; rintro e w1 ⟨rfl, hb⟩; clear tokP2; have h := HB.out.trans (hb.mono HB.out.size); have h2 := tabP_below HT.out hb; clear HB HT; have HB := Aside0.mk h; have HT := Aside0.mk h2; clear hb h h2)
    | (go_at_call 11; have _t := tokM0; refine (mat_c 2 1 5 (by decide) (by decide) (by decide) (by decide) (by decide) (by decide) _).mono ?_; rw [show matB 2 1 5 = true from by decide]; rintro e w1 ⟨rfl, hb⟩; clear tokM0; have h := HB.out.trans (hb.mono HB.out.size); have h2 := tabP_below HT.out hb; clear HB HT; have HB := Aside0.mk h; have HT := Aside0.mk h2; clear hb h h2)
    | (go_at_call 11; have _t := tokM1; refine (mat_c 2 1 4 (by decide) (by decide) (by decide) (by decide) (by decide) (by decide) _).mono ?_; rw [show matB 2 1 4 = false from by decide]; rintro e w1 ⟨rfl, hb⟩; clear tokM1; have h := HB.out.trans (hb.mono HB.out.size); have h2 := tabP_below HT.out hb; clear HB HT; have HB := Aside0.mk h; have HT := Aside0.mk h2; clear hb h h2)
    | (go_at_call 11; have _t := tokM2; refine (mat_c (-1) 3 4 (by decide) (by decide) (by decide) (by decide) (by decide) (by decide) _).mono ?_; rw [show matB (-1) 3 4 = false from by decide]; rintro e w1 ⟨rfl, hb⟩; clear tokM2; have h := HB.out.trans (hb.mono HB.out.size); have h2 := tabP_below HT.out hb; clear HB HT; have HB := Aside0.mk h; have HT := Aside0.mk h2; clear hb h h2)
    | (go_at_call 11; have _t := tokM3; refine (mat_c 0 4 4 (by decide) (by decide) (by decide) (by decide) (by decide) (by decide) _).mono ?_; rw [show matB 0 4 4 = true from by decide]; rintro e w1 ⟨rfl, hb⟩; clear tokM3; have h := HB.out.trans (hb.mono HB.out.size); have h2 := tabP_below HT.out hb; clear HB HT; have HB := Aside0.mk h; have HT := Aside0.mk h2; clear hb h h2)
    | (go_at_call 13; have _t := tokT0; refine (Text_c (-1) 3 (by decide) (by decide) (by decide) (by decide) _ HT.out).mono ?_; rw [tx1]; rintro e w1 ⟨rfl, hb⟩; clear tokT0; have h := HB.out.trans (hb.mono HB.out.size); have h2 := tabP_below HT.out hb; clear HB HT; have HB := Aside0.mk h; have HT := Aside0.mk h2; clear hb h h2)
    | (go_at_call 13; have _t := tokT1; refine (Text_c 0 4 (by decide) (by decide) (by decide) (by decide) _ HT.out).mono ?_; rw [tx2]; rintro e w1 ⟨rfl, hb⟩; clear tokT1; have h := HB.out.trans (hb.mono HB.out.size); have h2 := tabP_below HT.out hb; clear HB HT; have HB := Aside0.mk h; have HT := Aside0.mk h2; clear hb h h2)
    | (go_at_call 13; have _t := tokT2; refine (Text_c 2 0 (by decide) (by decide) (by decide) (by decide) _ HT.out).mono ?_; rw [tx3]; rintro e w1 ⟨rfl, hb⟩; clear tokT2; have h := HB.out.trans (hb.mono HB.out.size); have h2 := tabP_below HT.out hb; clear HB HT; have HB := Aside0.mk h; have HT := Aside0.mk h2; clear hb h h2))
  go_ret
  exact ⟨rfl, HB.out⟩
end Go.Proofs.YtgdolholioccdaaDoor.PX
