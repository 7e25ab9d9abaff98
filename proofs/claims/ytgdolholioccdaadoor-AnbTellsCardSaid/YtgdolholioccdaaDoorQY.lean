/-
  Contracts of the functions that the law reaches, and what they compute, on lists (part Y). No condition.
-/
import Derived.Test.YtgdolholioccdaaDoorMG
import Derived.Test.YtgdolholioccdaaDoorWApart
import Derived.Test.YtgdolholioccdaaDoorWLast
import Derived.Test.YtgdolholioccdaaDoorWMore
import Derived.Test.YtgdolholioccdaaDoorWN
import Derived.Test.YtgdolholioccdaaDoorWNEv
import Derived.Test.YtgdolholioccdaaDoorWRepsOne
import Derived.Test.YtgdolholioccdaaDoorWShare
import Derived.Test.YtgdolholioccdaaDoorWWords
import Derived.Test.YtgdolholioccdaaDoorQX
import Derived.WideShapes
set_option linter.unusedVariables false
set_option linter.unusedSimpArgs false
namespace Go.Proofs.YtgdolholioccdaaDoor.PX
open Go.RowKit Go.Proofs.YtgdolholioccdaaDoorW.PrintWords Go.Proofs.YtgdolholioccdaaDoorW.PrintLast Go.Proofs.YtgdolholioccdaaDoorW.PrintMore
/-! Decimal of the references is the numeral. -/
theorem one_num (x : Nat) (h : x < 256) : strOfNums [(x : Int)] = ⟨#[UInt8.ofNat x]⟩ := by
  refine WideShapes.bytes_inj ?_
  rw [strOfNums_data]
  rfl
theorem str_app (a b : List UInt8) : (⟨a.toArray⟩ : ByteArray) ++ ⟨b.toArray⟩ = ⟨(a ++ b).toArray⟩ := by
  refine WideShapes.bytes_inj ?_
  simp [ByteArray.data_append]
theorem dec_one (u : Nat) : ((IntKind.u64.wrap (48 + (Int.tmod (u : Int) 10))) % 256 : Int) = ((48 + u % 10 : Nat) : Int) := by
  rw [wrapu, Int.tmod_eq_emod_of_nonneg (by omega)]
  omega
theorem dec_div (u : Nat) (h : u < 18446744073709551616) : IntKind.u64.wrap (Int.tdiv (u : Int) 10) = ((u / 10 : Nat) : Int) := by
  rw [wrapu, Int.tdiv_eq_ediv_of_nonneg (by omega)]
  omega
def ddig (u : Nat) : List UInt8 := if u = 0 then [] else Lib.decDigits u
theorem ddig_step (u : Nat) (h : 0 < u) : ddig u = ddig (u / 10) ++ [UInt8.ofNat (48 + u % 10)] := by
  unfold ddig
  rw [if_neg (by omega)]
  by_cases h1 : u < 10
  · rw [if_pos (by omega), Lib.decDigits_one h1, Nat.mod_eq_of_lt h1]
    rfl
  · rw [if_neg (by omega), Lib.decDigits, dif_neg h1]
theorem dec_l0 : ∀ (m u : Nat) (s : ByteArray) (d : List UInt8) (k : Nat), u < 10 ^ m → m ≤ 20 → d.length + m ≤ 100 → s.size ≤ 10 → m + 2 ≤ k → 0 < u ∨ 0 < d.length → u < 18446744073709551616 →
    fleuronref1_Decimal.l0 k (u : Int) s ⟨d.toArray⟩ = some (s ++ ⟨(ddig u ++ d).toArray⟩)
  | 0, u, s, d, k, hu, hm, hd, hs, hk, hp, hlt => by
    obtain ⟨k, rfl⟩ : ∃ q, k = q + 1 := ⟨k - 1, by omega⟩
    have h0 : u = 0 := by simpa using hu
    subst h0
    have hdn : ¬ (⟨d.toArray⟩ : ByteArray).toList = [] := by
      rw [ByteArray.toList_eq]
      intro e
      have : d = [] := e
      rw [this] at hp
      simp at hp
    have hz : (⟨d.toArray⟩ : ByteArray).size = d.length := by show d.toArray.size = _; simp
    unfold fleuronref1_Decimal.l0
    rw [if_neg (by omega), if_neg hdn, if_pos (by omega)]
    simp [ddig]
  | m + 1, u, s, d, k, hu, hm, hd, hs, hk, hp, hlt => by
    obtain ⟨k, rfl⟩ : ∃ q, k = q + 1 := ⟨k - 1, by omega⟩
    have hz : (⟨d.toArray⟩ : ByteArray).size = d.length := by show d.toArray.size = _; simp
    by_cases h0 : u = 0
    · subst h0
      exact dec_l0 m 0 s d (k + 1) (Nat.pos_of_ne_zero (by simp)) (by omega) (by omega) hs (by omega) hp hlt
    · unfold fleuronref1_Decimal.l0
      rw [if_pos (by omega)]
      simp only [Option.bind_some]
      rw [dec_one, one_num (48 + u % 10) (by omega), dec_div u hlt]
      have h1 : (⟨#[UInt8.ofNat (48 + u % 10)]⟩ : ByteArray).size = 1 := rfl
      rw [if_pos (by omega)]
      have e : (⟨#[UInt8.ofNat (48 + u % 10)]⟩ : ByteArray) ++ ⟨d.toArray⟩ = ⟨(UInt8.ofNat (48 + u % 10) :: d).toArray⟩ := str_app [UInt8.ofNat (48 + u % 10)] d
      rw [e, dec_l0 m (u / 10) s (UInt8.ofNat (48 + u % 10) :: d) k (by rw [Nat.pow_succ] at hu; omega) (by omega) (by simp; omega) hs (by omega) (.inr (by simp)) (by omega), ddig_step u (by omega)]
      simp
theorem dec_0 (s : ByteArray) (hs : s.size ≤ 10) (u : Nat) (hu : u < 18446744073709551616) : fleuronref1_Decimal.l0 40 (u : Int) s ⟨#[]⟩ = some (s ++ ⟨(Lib.decDigits u).toArray⟩) := by
  have hb : u < 10 ^ 20 := by have : (10 : Nat) ^ 20 = 100000000000000000000 := by decide
                              omega
  by_cases h0 : u = 0
  · subst h0
    unfold fleuronref1_Decimal.l0
    rw [if_neg (by decide), if_pos (by rw [ByteArray.toList_eq])]
    simp only [Option.bind_some]
    rw [dec_one, one_num (48 + 0 % 10) (by omega), dec_div 0 (by omega)]
    rw [if_pos (show (⟨#[UInt8.ofNat (48 + 0 % 10)]⟩ : ByteArray).size + (⟨#[]⟩ : ByteArray).size ≤ 9223372036854775807 from (by decide : (1 : Nat) + 0 ≤ 9223372036854775807))]
    have h := dec_l0 0 0 s [48] 39 (by decide) (by decide) (by decide) hs (by decide) (.inr (by decide)) (by decide)
    rw [Lib.decDigits_one (by decide)]
    exact h
  · have h := dec_l0 20 u s [] 40 hb (by omega) (by simp) hs (by omega) (.inl (by omega)) hu
    have e : ddig u ++ [] = Lib.decDigits u := by unfold ddig; rw [if_neg h0]; simp
    rw [e] at h
    exact h
theorem Decimal_f (n : Int) (h0 : -9223372036854775808 ≤ n) (h1 : n ≤ 9223372036854775807) : fleuronref1_Decimal.f 41 n = some (decB n) := by
  unfold fleuronref1_Decimal.f decB Lib.itoa
  by_cases hn : n < 0
  · rw [if_pos hn, if_pos hn]
    have e : IntKind.u64.wrap (-(IntKind.u64.wrap n)) = (n.natAbs : Int) := by rw [wrapu, wrapu]; omega
    rw [e]
    show fleuronref1_Decimal.l0 40 _ _ ⟨#[]⟩ = _
    rw [dec_0 _ (by decide) _ (by omega)]
    exact congrArg some (str_app [45] _)
  · rw [if_neg hn, if_neg hn]
    have e : IntKind.u64.wrap n = (n.toNat : Int) := by rw [wrapu]; omega
    rw [e]
    show fleuronref1_Decimal.l0 40 _ _ ⟨#[]⟩ = _
    rw [dec_0 _ (by decide) _ (by omega)]
    exact congrArg some (str_app [] _)
theorem Decimal_c (n : Int) (h0 : -9223372036854775808 ≤ n) (h1 : n ≤ 9223372036854775807) (w : World) :
    Calls Tryd.prog 15 #[.int .i64 n] w fun e w' => e = .returned (.string (decB n)) ∧ Below w.heap.size w w' :=
  (fleuronref1_Decimal.calls 41 n _ w (Decimal_f n h0 h1)).mono fun _ _ ⟨e, h⟩ => ⟨e, h⟩

/-! The references' parts of AnbTells, in plain Lean: MatchAnb, Trim, number, Int. -/
theorem ref_dvd (a d : Int) (s : Int) (hs : s = a ∨ s = -a) {x : Int} (hx : x = d ∨ x = -d) : (x.tmod s = 0) ↔ a ∣ d := by
  rw [← Int.dvd_iff_tmod_eq_zero]
  rcases hs with rfl | rfl <;> rcases hx with rfl | rfl <;> simp [Int.neg_dvd, Int.dvd_neg]
theorem matRef_f (a b n : Int) (ha0 : -9223372036854775808 ≤ a) (ha1 : a ≤ 9223372036854775807) (hb0 : -9223372036854775808 ≤ b) (hb1 : b ≤ 9223372036854775807) (hn0 : -9223372036854775808 ≤ n) (hn1 : n ≤ 9223372036854775807) :
    fleuronref5_MatchAnb.f a b n = some (matB a b n) := by
  unfold fleuronref5_MatchAnb.f matB
  by_cases h1 : a = 0
  · rw [if_pos h1, if_pos h1]
  · rw [if_neg h1, if_neg h1]
    simp only [wrapu]
    by_cases hb : n < b
    · have e5 : (b % 18446744073709551616 - n % 18446744073709551616) % 18446744073709551616 = b - n := by omega
      have e2 : (n == b) = false := beq_eq_false_iff_ne.2 (by omega)
      rw [if_pos hb, e5, e2, Bool.false_or, decide_eq_true hb, decide_eq_false (show ¬ b < n by omega), if_neg (show ¬ b - n = 0 by omega)]
      by_cases ha : a < 0
      · have e4 : (-(a % 18446744073709551616)) % 18446744073709551616 = -a := by omega
        have hd := ref_dvd a (n - b) (-a) (.inr rfl) (x := b - n) (.inr (by omega))
        rw [if_pos ha, e4, if_neg (by omega), decide_eq_true ha, decide_eq_false (show ¬ 0 < a by omega)]
        by_cases h : a ∣ n - b
        · rw [if_pos (hd.2 h), decide_eq_true h]; rfl
        · rw [if_neg (fun e => h (hd.1 e)), decide_eq_false h]; rfl
      · have e4 : a % 18446744073709551616 = a := by omega
        have hd := ref_dvd a (n - b) a (.inl rfl) (x := b - n) (.inr (by omega))
        rw [if_neg ha, e4, if_neg h1, decide_eq_false ha, decide_eq_true (show 0 < a by omega)]
        by_cases h : a ∣ n - b
        · rw [if_pos (hd.2 h), decide_eq_true h]; rfl
        · rw [if_neg (fun e => h (hd.1 e)), decide_eq_false h]; rfl
    · have e5 : (n % 18446744073709551616 - b % 18446744073709551616) % 18446744073709551616 = n - b := by omega
      rw [if_neg hb, e5, decide_eq_false hb]
      have key : ∀ s : Int, (s = a ∨ s = -a) → ((if (n - b).tmod s = 0 then (if n - b = 0 then some true else some (false == decide (a < 0))) else some false) = some (decide (a ∣ n - b) && ((n == b) || (decide (b < n) == decide (0 < a))))) := by
        intro s hs
        have hd := ref_dvd a (n - b) s hs (x := n - b) (.inl rfl)
        by_cases h : a ∣ n - b
        · rw [if_pos (hd.2 h), decide_eq_true h, Bool.true_and]
          by_cases h0 : n - b = 0
          · rw [if_pos h0, show (n == b) = true from beq_iff_eq.2 (by omega)]; rfl
          · rw [if_neg h0, show (n == b) = false from beq_eq_false_iff_ne.2 (by omega), Bool.false_or, decide_eq_true (show b < n by omega)]
            by_cases ha : a < 0
            · rw [decide_eq_true ha, decide_eq_false (show ¬ 0 < a by omega)]; rfl
            · rw [decide_eq_false ha, decide_eq_true (show 0 < a by omega)]; rfl
        · rw [if_neg (fun e => h (hd.1 e)), decide_eq_false h]; rfl
      by_cases ha : a < 0
      · have e4 : (-(a % 18446744073709551616)) % 18446744073709551616 = -a := by omega
        rw [if_pos ha, e4, if_neg (by omega)]
        exact key _ (.inr rfl)
      · have e4 : a % 18446744073709551616 = a := by omega
        rw [if_neg ha, e4, if_neg h1]
        exact key _ (.inl rfl)
theorem matRef_c (a b n : Int) (ha0 : -9223372036854775808 ≤ a) (ha1 : a ≤ 9223372036854775807) (hb0 : -9223372036854775808 ≤ b) (hb1 : b ≤ 9223372036854775807) (hn0 : -9223372036854775808 ≤ n) (hn1 : n ≤ 9223372036854775807) (w : World) :
    Calls Tryd.prog 12 #[.int .i64 a, .int .i64 b, .int .i64 n] w fun e w' => e = .returned (.bool (matB a b n)) ∧ Below w.heap.size w w' :=
  (fleuronref5_MatchAnb.calls a b n _ w (matRef_f a b n ha0 ha1 hb0 hb1 hn0 hn1)).mono fun _ _ ⟨e, h⟩ => ⟨e, h.below⟩
theorem whi_13 (x : N51) : (x.f0.f0 = 13) ↔ whiN x = true := by unfold whiN; rw [beq_iff_eq]
theorem trim_l1 : ∀ (n : Nat) (l : List N51) (k : Nat), l.length = n → n ≤ 1000000000 → n + 1 ≤ k → fleuronref1_Trim.l1 k l = some (trimB n l)
  | 0, l, k, hl, hn, hk => by
    obtain ⟨k, rfl⟩ : ∃ m, k = m + 1 := ⟨k - 1, by omega⟩
    unfold fleuronref1_Trim.l1
    rw [if_neg (by omega)]
    rfl
  | n + 1, l, k, hl, hn, hk => by
    obtain ⟨k, rfl⟩ : ∃ m, k = m + 1 := ⟨k - 1, by omega⟩
    have e1 : wrap64 ((l.length : Int) - 1) = (n : Int) := by unfold wrap64; omega
    unfold fleuronref1_Trim.l1
    have e2 : rd_T51 l (n : Int) = l.getD n z51 := rfl
    rw [if_pos (by omega), e1, if_pos (by omega), if_pos (by omega), e2, Int.toNat_natCast]
    have et : trimB (n + 1) l = if l.length = n + 1 ∧ whiN (l.getD n z51) = true then trimB n (l.take n) else l := rfl
    rw [et]
    by_cases h : whiN (l.getD n z51) = true
    · rw [if_pos ((whi_13 _).2 h), if_pos (by omega), if_pos ⟨hl, h⟩]
      exact trim_l1 n (l.take n) k (by rw [List.length_take]; omega) (by omega) (by omega)
    · rw [if_neg (fun e => h ((whi_13 _).1 e)), if_neg (fun e => h e.2)]
theorem trim_l0 : ∀ (l : List N51) (k : Nat), l.length ≤ 1000000000 → 2 * l.length + 4 ≤ k → fleuronref1_Trim.l0 k l = some (trimN l)
  | [], k, hl, hk => by
    obtain ⟨k, rfl⟩ : ∃ m, k = m + 2 := ⟨k - 2, by omega⟩
    unfold fleuronref1_Trim.l0
    rw [if_neg (by simp)]
    unfold fleuronref1_Trim.j1
    exact trim_l1 0 [] k rfl (by omega) (by simp at hk; omega)
  | x :: t, k, hl, hk => by
    obtain ⟨k, rfl⟩ : ∃ m, k = m + 2 := ⟨k - 2, by omega⟩
    simp only [List.length_cons] at hl hk
    unfold fleuronref1_Trim.l0
    have e2 : rd_T51 (x :: t) 0 = x := rfl
    rw [if_pos (by simp only [List.length_cons]; omega), if_pos (by simp only [List.length_cons]; omega), e2]
    by_cases h : whiN x = true
    · rw [if_pos ((whi_13 _).2 h), if_pos (by simp only [List.length_cons]; omega)]
      have e : trimN (x :: t) = trimN t := by unfold trimN trimF; rw [List.dropWhile_cons_of_pos h]
      rw [e]
      exact trim_l0 t (k + 1) (by omega) (by omega)
    · have e : trimN (x :: t) = trimB (t.length + 1) (x :: t) := by unfold trimN trimF; rw [List.dropWhile_cons_of_neg h]; rfl
      rw [if_neg (fun e => h ((whi_13 _).1 e)), e]
      unfold fleuronref1_Trim.j1
      exact trim_l1 (t.length + 1) (x :: t) k rfl (by omega) (by omega)
theorem trim_f (l : List N51) (hl : l.length ≤ 1000000000) : fleuronref1_Trim.f (2 * l.length + 4) l = some (trimN l) := trim_l0 l _ hl (Nat.le_refl _)
/-- What number says of a list: the number, and whether it is one. -/
def numR (sg : Bool) (l : List N51) : Int × Bool := if l.length = 1 then (nbrV sg l, nbrB sg l) else (0, false)

theorem app_n_plus (s : ByteArray) : s ++ ⟨#[110]⟩ ++ ⟨#[43]⟩ = s ++ ⟨#[110, 43]⟩ := by
  rw [ByteArray.append_assoc]; rfl
set_option maxHeartbeats 4000000 in
set_option maxRecDepth 100000 in
theorem TextRef_c (a b : Int) (ha0 : -9223372036854775808 ≤ a) (ha1 : a ≤ 9223372036854775807) (hb0 : -9223372036854775808 ≤ b) (hb1 : b ≤ 9223372036854775807) (w : World) :
    Calls Tryd.prog 14 #[.int .i64 a, .int .i64 b] w fun e w' => e = .returned (.string (textB a b)) ∧ Below w.heap.size w w' := by
  have hza := decB_size a ha0 ha1
  have hzb := decB_size b hb0 hb1
  have HB := Aside0.mk (Below.refl w.heap.size w)
  by_cases h1 : a = 0
  · have b1 : (a == 0) = true := beq_iff_eq.2 h1
    have HV := Aside0.mk (show textB a b = decB b from if_pos h1)
    clear h1
    go_enter Tryd.func14, Tryd.ntmps14
    go_wp2_with (go_at_call 15; refine (Decimal_c b hb0 hb1 _).mono ?_; rintro e w1 ⟨rfl, hb⟩; have HB1 := Aside0.mk hb; clear hb)
    go_ret
    exact ⟨by rw [HV.out]; rfl, HB1.out⟩
  · have b1 : (a == 0) = false := beq_eq_false_iff_ne.2 h1
    by_cases h2 : b = 0
    · have b2 : (b == 0) = true := beq_iff_eq.2 h2
      have b2' : (b != 0) = false := by rw [bne, b2]; rfl
      have b3 : decide (0 < b) = false := decide_eq_false (by omega)
      have HV := Aside0.mk (show textB a b = decB a ++ ⟨#[110]⟩ by unfold textB; rw [if_neg h1, if_pos h2])
      clear h1 h2
      go_enter Tryd.func14, Tryd.ntmps14
      go_wp2_with (go_at_call 15; refine (Decimal_c a ha0 ha1 _).mono ?_; rintro e w1 ⟨rfl, hb⟩; have HB1 := Aside0.mk hb; clear hb)
      go_ret
      exact ⟨by rw [HV.out]; rfl, HB1.out⟩
    · have b2 : (b == 0) = false := beq_eq_false_iff_ne.2 h2
      have b2' : (b != 0) = true := by rw [bne, b2]; rfl
      by_cases h3 : b < 0
      · have b3 : decide (0 < b) = false := decide_eq_false (by omega)
        have HV := Aside0.mk (show textB a b = decB a ++ ⟨#[110]⟩ ++ decB b by unfold textB; rw [if_neg h1, if_neg h2, if_pos h3])
        clear h1 h2
        have tok0 : True := trivial
        go_enter Tryd.func14, Tryd.ntmps14
        go_wp2_with (first
          | (go_at_call 15; have _t := tok0; refine (Decimal_c a ha0 ha1 _).mono ?_; rintro e w1 ⟨rfl, hb⟩; clear tok0; have h := HB.out.trans (hb.mono HB.out.size); clear HB; have HB := Aside0.mk h; clear hb h)
          | (go_at_call 15; refine (Decimal_c b hb0 hb1 _).mono ?_; rintro e w1 ⟨rfl, hb⟩; have h := HB.out.trans (hb.mono HB.out.size); clear HB; have HB := Aside0.mk h; clear hb h))
        go_ret
        exact ⟨by rw [HV.out]; rfl, HB.out⟩
      · have b3 : decide (0 < b) = true := decide_eq_true (by omega)
        have HV := Aside0.mk (show textB a b = decB a ++ ⟨#[110]⟩ ++ ⟨#[43]⟩ ++ decB b by unfold textB; rw [if_neg h1, if_neg h2, if_neg h3, app_n_plus])
        clear h1 h2
        have tok0 : True := trivial
        go_enter Tryd.func14, Tryd.ntmps14
        go_wp2_with (first
          | (go_at_call 15; have _t := tok0; refine (Decimal_c a ha0 ha1 _).mono ?_; rintro e w1 ⟨rfl, hb⟩; clear tok0; have h := HB.out.trans (hb.mono HB.out.size); clear HB; have HB := Aside0.mk h; clear hb h)
          | (go_at_call 15; refine (Decimal_c b hb0 hb1 _).mono ?_; rintro e w1 ⟨rfl, hb⟩; have h := HB.out.trans (hb.mono HB.out.size); clear HB; have HB := Aside0.mk h; clear hb h))
        go_ret
        exact ⟨by rw [HV.out]; rfl, HB.out⟩

/-! The list of nodes as fleuronref5.Anb reads it. -/
structure Vt (w : World) (A : Option Addr) (c : Nat) (l : List N51) : Prop where
  room : l.length ≤ c
  row : Kd.F k51 w (fun _ => True) A l.length l
theorem Vt.below {w w1 : World} {A : Option Addr} {c : Nat} {l : List N51} (h : Vt w A c l) (hb : Below w.heap.size w w1) : Vt w1 A c l := ⟨h.room, Kd.F_below h.row hb⟩
theorem Vt.hd {w : World} {A : Option Addr} {c : Nat} {x : N51} {t : List N51} (h : Vt w A c (x :: t)) : ∃ (ad : Addr) (A6 : Option Addr) (c6 : Nat), A = some ad ∧
    w.cell? ad = some (.int .i64 x.f0.f0) ∧ w.cell? ⟨ad.block, ad.off + 1, none⟩ = some (.string x.f0.f1) ∧ w.cell? ⟨ad.block, ad.off + 2, none⟩ = some (.int .i64 x.f0.f2) ∧ w.cell? ⟨ad.block, ad.off + 3, none⟩ = some (.bool x.f0.f3) ∧ w.cell? ⟨ad.block, ad.off + 4, none⟩ = some (.bool x.f0.f4) ∧ w.cell? ⟨ad.block, ad.off + 5, none⟩ = some (.bool x.f0.f5) ∧ w.cell? ⟨ad.block, ad.off + 6, none⟩ = some (.slice A6 x.f1.length c6) := by
  obtain ⟨ad, A6, c6, rfl, x0, x1, x2, x3, x4, x5, x6, hl6, hi6⟩ := at_T51 (Kd.F_now h.row) 0 (by omega) (by simp)
  have e0 : rd_T51 (x :: t) 0 = x := rfl
  rw [e0] at x0 x1 x2 x3 x4 x5 x6 hl6 hi6
  rw [show (0 : Int).toNat * 7 = 0 from rfl, Addr.add_zero'] at x0 x1 x2 x3 x4 x5 x6
  exact ⟨ad, A6, c6, rfl, x0, x1, x2, x3, x4, x5, x6⟩
theorem Vt.cut {w : World} {A : Option Addr} {c : Nat} {l : List N51} (h : Vt w A c l) (j : Nat) (hj : j ≤ l.length) : ∃ (A' : Option Addr) (c' : Nat), Vt w A' c' (l.drop j) ∧
    ∀ W : World, (Instr.slice 23 (.slice A l.length c) (some (.int .i64 (j : Int))) none none).run Tryd.prog W = .ok (.slice A' (l.drop j).length c') W := by
  obtain ⟨i0, hi0, _, hsz, _⟩ := info_parts info51
  have hcut := cut_from (P := Tryd.prog) 23 51 .i64 Tryd.underlying23 hi0 7 hsz A l.length c (j : Int) (by omega) (by omega)
  have hr := Kd.F_cut (m := j) (c := c) h.row hj h.room
  rw [Int.toNat_natCast] at hcut
  refine ⟨_, c - j, ⟨by rw [List.length_drop]; have := h.room; omega, hr⟩, fun W => ?_⟩
  rw [hcut W, List.length_drop]
  rfl
theorem Vt.two {w : World} {A : Option Addr} {c : Nat} {x y : N51} {t : List N51} (h : Vt w A c (x :: y :: t)) : ∃ (ad : Addr), A = some ad ∧ w.cell? ⟨ad.block, ad.off + 7, none⟩ = some (.int .i64 y.f0.f0) ∧ w.cell? ⟨ad.block, ad.off + 8, none⟩ = some (.string y.f0.f1) := by
  obtain ⟨ad, A6, c6, rfl, x0, x1, x2, x3, x4, x5, x6, hl6, hi6⟩ := at_T51 (Kd.F_now h.row) 1 (by omega) (by simp only [List.length_cons]; omega)
  have e0 : rd_T51 (x :: y :: t) 1 = y := rfl
  rw [e0] at x0 x1
  exact ⟨ad, rfl, x0, x1⟩
theorem trimV (l : List N51) (hl : l.length ≤ 1000000000) {w : World} {A : Option Addr} {c : Nat} (h : Vt w A c l) :
    Calls Tryd.prog 24 #[.slice A l.length c] w fun e w' => ∃ A' c', e = .returned (.slice A' (trimN l).length c') ∧ Vt w' A' c' (trimN l) ∧ Below w.heap.size w w' := by
  refine (fleuronref1_Trim.calls (2 * l.length + 4) (fun _ => True) A c l (trimN l) w (Kd.V_mk h.room h.row) (trim_f l hl)).mono ?_
  rintro e w1 ⟨v, rfl, hv, hb⟩
  obtain ⟨A', c', rfl⟩ := Kd.V_slice hv
  obtain ⟨_, hc, hF⟩ := Kd.V_at hv
  exact ⟨A', c', rfl, ⟨hc, Kd.F_mono hF (fun _ _ => trivial)⟩, hb⟩
set_option maxHeartbeats 1000000 in
set_option maxRecDepth 100000 in
theorem numV (l : List N51) (sg : Bool) {w : World} {A : Option Addr} {c : Nat} (h : Vt w A c l) :
    Calls Tryd.prog 26 #[.slice A l.length c, .bool sg] w fun e w' => e = .returned (.tuple #[.int .i64 (numR sg l).1, .bool (numR sg l).2]) ∧ Below w.heap.size w w' := by
  by_cases hl : l.length = 1
  · obtain ⟨x, rfl⟩ := List.length_eq_one_iff.1 hl
    obtain ⟨ad, A6, c6, rfl, x0, x1, x2, x3, x4, x5, x6⟩ := h.hd
    have e : numR sg [x] = (if (decide (x.f0.f0 = 10) && (x.f0.f4 == sg) && x.f0.f3) then x.f0.f2 else 0, decide (x.f0.f0 = 10) && (x.f0.f4 == sg) && x.f0.f3) := rfl
    rw [e]
    clear hl e x1 x5 x6 h
    by_cases h1 : x.f0.f0 = 10
    · have k10 : (x.f0.f0 != 10) = false := bne_eq_false_iff_eq.2 h1
      rw [decide_eq_true h1]
      clear h1
      obtain ⟨b3, hb3⟩ : ∃ b, x.f0.f3 = b := ⟨_, rfl⟩
      obtain ⟨b4, hb4⟩ : ∃ b, x.f0.f4 = b := ⟨_, rfl⟩
      rw [hb3, hb4]
      rw [hb3] at x3
      rw [hb4] at x4
      clear hb3 hb4
      cases b3 <;> cases b4 <;> cases sg
      all_goals
        go_enter Tryd.func26, Tryd.ntmps26
        go_wp2
        go_ret2
        exact ⟨rfl, Below.refl _ _⟩
    · have k10 : (x.f0.f0 != 10) = true := bne_iff_ne.2 h1
      rw [decide_eq_false h1]
      clear h1
      go_enter Tryd.func26, Tryd.ntmps26
      go_wp2
      go_ret2
      exact ⟨rfl, Below.refl _ _⟩
  · have e : numR sg l = (0, false) := if_neg hl
    rw [e]
    obtain ⟨n, hn⟩ : ∃ n, l.length = n := ⟨_, rfl⟩
    rw [hn] at hl ⊢
    have k1 : ((n : Int) != 1) = true := bne_iff_ne.2 (by omega)
    clear e hn h hl
    go_enter Tryd.func26, Tryd.ntmps26
    go_wp2
    go_ret2
    exact ⟨rfl, Below.refl _ _⟩
theorem lowV (s : ByteArray) (hs : s.size ≤ 1000000000) (w : World) :
    Calls Tryd.prog 25 #[.string s] w fun e w' => e = .returned (.string (lowerB s)) ∧ Below w.heap.size w w' :=
  (fleuronref1_Lower.calls s (lowerB s) w (by unfold fleuronref1_Lower.f; rw [if_pos (by omega)])).mono fun _ _ ⟨e, hd⟩ => ⟨e, hd⟩
theorem intV (s : ByteArray) (hs : s.size ≤ 1000000000) (w : World) :
    Calls Tryd.prog 27 #[.string s] w fun e w' => e = .returned (.int .i64 (intP s)) ∧ Below w.heap.size w w' := by
  obtain ⟨k, hk⟩ := int_f s (by omega)
  exact (fleuronref1_Int.calls k s _ w hk).mono fun _ _ ⟨e, hd⟩ => ⟨e, hd⟩
/-- What stands behind the head: a steps, the head's text u from its n on, the rest. -/
def txtF : List N51 → ByteArray
  | [] => ⟨#[]⟩
  | x :: _ => x.f0.f1
def allD (l : List UInt8) : Bool := l.all fun b => decide (48 ≤ b.toNat) && decide (b.toNat ≤ 57)
def tailR (a : Int) (u : List UInt8) (rest : List N51) : Int × Int × Bool :=
  match u with
  | [] => (0, 0, false)
  | c :: v =>
    if ¬ c.toNat = 110 then (0, 0, false)
    else if v = [] then
      if rest = [] then (a, 0, true)
      else if (numR true (trimN rest)).2 = true then (a, (numR true (trimN rest)).1, true)
      else if (trimN rest).length < 2 ∨ ¬ seeK (trimN rest) = 9 ∨ (¬ txtF (trimN rest) = ⟨#[43]⟩ ∧ ¬ txtF (trimN rest) = ⟨#[45]⟩) then (0, 0, false)
      else if (numR false (trimN (trimN rest).tail)).2 = true then (a, if txtF (trimN rest) = ⟨#[45]⟩ then -(numR false (trimN (trimN rest).tail)).1 else (numR false (trimN (trimN rest).tail)).1, true)
      else (0, 0, false)
    else if v = [45] then if (numR false (trimN rest)).2 = true then (a, -(numR false (trimN rest)).1, true) else (0, 0, false)
    else if 0 < rest.length ∨ ¬ v.head? = some 45 then (0, 0, false)
    else if allD v.tail = true then (a, intL v, true) else (0, 0, false)
def headR (x : N51) (t : List N51) : Int × Int × Bool :=
  if t = [] ∧ x.f0.f0 = 1 ∧ lowerB x.f0.f1 = oddS then (2, 1, true)
  else if t = [] ∧ x.f0.f0 = 1 ∧ lowerB x.f0.f1 = evenS then (2, 0, true)
  else if t = [] ∧ x.f0.f0 = 10 ∧ x.f0.f3 = true then (0, x.f0.f2, true)
  else if x.f0.f0 = 12 ∧ x.f0.f3 = true then tailR x.f0.f2 (lowerB x.f0.f1).data.toList t
  else if x.f0.f0 = 9 ∧ x.f0.f1 = ⟨#[43]⟩ ∧ ¬ t = [] ∧ seeK t = 1 then tailR 1 (lowerB (txtF t)).data.toList t.tail
  else if x.f0.f0 = 1 then
    if (lowerB x.f0.f1).data.toList.head? = some 45 then tailR (-1) (lowerB x.f0.f1).data.toList.tail t else tailR 1 (lowerB x.f0.f1).data.toList t
  else (0, 0, false)
def kidB (x : N51) : Bool := decide (0 < x.f1.length)
def ancR (m : List N51) : Int × Int × Bool :=
  if m.any kidB = true then (0, 0, false) else
  match m with
  | [] => (0, 0, false)
  | x :: t => headR x t

/-! Plain law: what the reference reads is what Parse reads. -/
def Ls (l : List N51) : Prop := ∀ x, l.getLast? = some x → whiN x = false
theorem Ls.suf {l m : List N51} (h : Ls l) (hs : m <:+ l) : Ls m := by
  obtain ⟨p, rfl⟩ := hs
  intro x hx
  refine h x ?_
  rw [List.getLast?_append, hx]
  rfl
theorem trimF_suf (l : List N51) : trimF l <:+ l := List.dropWhile_suffix _
theorem trimB_id {l : List N51} (h : Ls l) : trimB l.length l = l := by
  cases hn : l.length with
  | zero => rfl
  | succ n =>
    have e : trimB (n + 1) l = if l.length = n + 1 ∧ whiN (l.getD n z51) = true then trimB n (l.take n) else l := rfl
    rw [e, if_neg]
    rintro ⟨_, h2⟩
    have h3 : l.getLast? = some (l.getD n z51) := by
      rw [List.getLast?_eq_getElem?, hn, List.getD_eq_getElem?_getD, Nat.add_sub_cancel, List.getElem?_eq_getElem (by omega)]
      rfl
    rw [h _ h3] at h2
    cases h2
theorem Ls.trim {l : List N51} (h : Ls l) : trimN l = trimF l := trimB_id (h.suf (trimF_suf l))
theorem trimF_all {l : List N51} (h : trimF l = []) : ∀ x, x ∈ l → whiN x = true := by
  induction l with
  | nil => intro x hx; cases hx
  | cons y t ih =>
    by_cases hy : whiN y = true
    · have e : trimF (y :: t) = trimF t := List.dropWhile_cons_of_pos hy
      rw [e] at h
      intro x hx
      rcases List.mem_cons.1 hx with rfl | hx
      · exact hy
      · exact ih h x hx
    · have e : trimF (y :: t) = y :: t := List.dropWhile_cons_of_neg hy
      rw [e] at h
      cases h
theorem Ls.ne {l : List N51} (h : Ls l) (hn : ¬ l = []) : ¬ trimF l = [] := by
  intro e
  have h1 := List.getLast?_eq_some_getLast hn
  have h2 := h _ h1
  rw [trimF_all e _ (List.getLast_mem hn)] at h2
  cases h2
theorem trimN_ls (l : List N51) : Ls (trimN l) := by
  have key : ∀ (n : Nat) (l : List N51), l.length = n → Ls (trimB n l) := by
    intro n
    induction n with
    | zero =>
      intro l hl
      have : l = [] := List.eq_nil_of_length_eq_zero hl
      subst this
      intro x hx
      cases hx
    | succ n ih =>
      intro l hl
      have e : trimB (n + 1) l = if l.length = n + 1 ∧ whiN (l.getD n z51) = true then trimB n (l.take n) else l := rfl
      rw [e]
      by_cases h : whiN (l.getD n z51) = true
      · rw [if_pos ⟨hl, h⟩]
        exact ih _ (by rw [List.length_take]; omega)
      · rw [if_neg (fun e => h e.2)]
        intro x hx
        have h3 : l.getLast? = some (l.getD n z51) := by
          rw [List.getLast?_eq_getElem?, hl, List.getD_eq_getElem?_getD, Nat.add_sub_cancel, List.getElem?_eq_getElem (by omega)]
          rfl
        rw [h3] at hx
        injection hx with hx
        rw [← hx]
        simpa using h
  exact key _ _ rfl
/-- Kinds that an A n+B may have. -/
def knK (x : N51) : Prop := x.f0.f0 = 1 ∨ x.f0.f0 = 9 ∨ x.f0.f0 = 10 ∨ x.f0.f0 = 12 ∨ x.f0.f0 = 13
theorem kn_white {x : N51} (h : whiN x = true) : knK x := .inr (.inr (.inr (.inr ((whi_13 x).2 h))))
theorem mem_trimF {l : List N51} {x : N51} (h : x ∈ l) : x ∈ trimF l ∨ whiN x = true := by
  induction l with
  | nil => cases h
  | cons y t ih =>
    by_cases hy : whiN y = true
    · have e : trimF (y :: t) = trimF t := List.dropWhile_cons_of_pos hy
      rw [e]
      rcases List.mem_cons.1 h with rfl | h
      · exact .inr hy
      · exact ih h
    · have e : trimF (y :: t) = y :: t := List.dropWhile_cons_of_neg hy
      rw [e]
      exact .inl h
theorem num_one {sg : Bool} {l : List N51} (h : (numR sg l).2 = true) : l.length = 1 ∧ nbrB sg l = true := by
  unfold numR at h
  split at h
  · next hl => exact ⟨hl, h⟩
  · cases h
theorem num_val {sg : Bool} {l : List N51} (h : (numR sg l).2 = true) : (numR sg l).1 = nbrV sg l := by
  unfold numR
  rw [if_pos (num_one h).1]
theorem nbr_kind {sg : Bool} {l : List N51} (h : nbrB sg l = true) : ∃ x t, l = x :: t ∧ x.f0.f0 = 10 := by
  cases l with
  | nil => cases h
  | cons x t =>
    have e : nbrB sg (x :: t) = (decide (x.f0.f0 = 10) && (x.f0.f4 == sg) && x.f0.f3) := rfl
    rw [e, Bool.and_eq_true, Bool.and_eq_true] at h
    exact ⟨x, t, rfl, of_decide_eq_true h.1.1⟩
theorem num_kind {sg : Bool} {l : List N51} (h : (numR sg (trimF l)).2 = true) : ∀ y, y ∈ l → knK y := by
  obtain ⟨h1, h2⟩ := num_one h
  obtain ⟨x, t, e, hk⟩ := nbr_kind h2
  intro y hy
  rcases mem_trimF hy with hm | hw
  · rw [e] at h1 hm
    simp at h1
    subst h1
    rcases List.mem_singleton.1 hm with rfl
    exact .inr (.inr (.inl hk))
  · exact kn_white hw
/-- number and nothing behind it. -/
theorem num_left (sg : Bool) (l : List N51) : (numR sg l).2 = true ↔ ¬ ((!nbrB sg l) = true ∨ 0 < (nbrL sg l).length) := by
  unfold numR nbrL
  by_cases hb : nbrB sg l = true
  · obtain ⟨x, t, rfl, _⟩ := nbr_kind hb
    rw [hb, if_pos rfl]
    by_cases ht : t = []
    · subst ht; simp [hb]
    · have : 0 < t.length := Nat.pos_of_ne_zero (fun e => ht (List.eq_nil_of_length_eq_zero e))
      rw [if_neg (by simp only [List.length_cons]; omega)]
      simp [ht]
  · have : nbrB sg l = false := by simpa using hb
    rw [this]
    split <;> simp
theorem byte_all (p : UInt8 → Bool) (h : (List.range 256).all (fun n => p (UInt8.ofNat n)) = true) (b : UInt8) : p b = true := by
  have h1 := List.all_eq_true.1 h b.toNat (List.mem_range.2 (UInt8.toNat_lt b))
  simpa using h1
theorem low_one (s : ByteArray) (c : UInt8) (hc : c = 43 ∨ c = 45) : lowerB s = ⟨#[c]⟩ ↔ s = ⟨#[c]⟩ := by
  have hl : ∀ b : UInt8, lowB b = c ↔ b = c := by
    intro b
    have := byte_all (fun b => decide (lowB b = c ↔ b = c)) (by rcases hc with rfl | rfl <;> decide +kernel) b
    exact of_decide_eq_true this
  constructor
  · intro h
    have h1 : s.data.toList.map lowB = [c] := congrArg (fun x : ByteArray => x.data.toList) h
    refine WideShapes.bytes_inj ?_
    cases hs : s.data.toList with
    | nil => rw [hs] at h1; cases h1
    | cons b t =>
      rw [hs] at h1
      simp only [List.map_cons, List.cons.injEq, List.map_eq_nil_iff] at h1
      rw [h1.2, (hl b).1 h1.1]
  · rintro rfl
    refine WideShapes.bytes_inj ?_
    show [lowB c] = [c]
    rw [(hl c).2 rfl]
theorem sgn_iff (c : UInt8) (hc : c = 43 ∨ c = 45) (l : List N51) (hn : ¬ l = []) : sgnB c l = true ↔ seeK l = 9 ∧ txtF l = ⟨#[c]⟩ := by
  cases l with
  | nil => exact absurd rfl hn
  | cons x t =>
    unfold sgnB
    rw [Bool.and_eq_true, decide_eq_true_iff, decide_eq_true_iff]
    show _ ∧ lowerB x.f0.f1 = _ ↔ _
    rw [low_one _ c hc]
    rfl
theorem digs_mem (b : UInt8) : digsL.contains b = (decide (48 ≤ b.toNat) && decide (b.toNat ≤ 57)) := by
  have := byte_all (fun b => digsL.contains b == (decide (48 ≤ b.toNat) && decide (b.toNat ≤ 57))) (by decide +kernel) b
  exact beq_iff_eq.1 this
theorem trimS_empty (l : List UInt8) : (Lib.trimS l digsL).isEmpty = allD l := by
  have h1 : ∀ m : List UInt8, m.dropWhile (digsL.contains ·) = [] ↔ ∀ b, b ∈ m → digsL.contains b = true := by
    intro m
    induction m with
    | nil => simp
    | cons c t ih =>
      by_cases hc : digsL.contains c = true
      · rw [List.dropWhile_cons_of_pos hc, ih]
        constructor
        · intro h b hb
          rcases List.mem_cons.1 hb with rfl | hb
          · exact hc
          · exact h b hb
        · exact fun h b hb => h b (List.mem_cons_of_mem _ hb)
      · rw [List.dropWhile_cons_of_neg hc]
        constructor
        · intro h; cases h
        · intro h; exact absurd (h c (List.mem_cons_self ..)) hc
  have h2 : allD l = l.all (digsL.contains ·) := by
    unfold allD
    congr 1
    funext b
    exact (digs_mem b).symm
  rw [h2, Bool.eq_iff_iff, List.isEmpty_iff, List.all_eq_true]
  unfold Lib.trimS Lib.trimLeftS Lib.trimRightS
  constructor
  · intro h
    by_cases he : l.reverse.dropWhile (digsL.contains ·) = []
    · intro b hb
      exact (h1 _).1 he b (List.mem_reverse.2 hb)
    · exfalso
      have h3 := (h1 _).1 h
      obtain ⟨c, t, hct⟩ : ∃ c t, l.reverse.dropWhile (digsL.contains ·) = c :: t := by
        cases hx : l.reverse.dropWhile (digsL.contains ·) with
        | nil => exact absurd hx he
        | cons c t => exact ⟨c, t, rfl⟩
      have h4 := h3 c (by rw [hct]; simp)
      have h5 := List.head_dropWhile_not (digsL.contains ·) (l := l.reverse) (by rw [hct]; simp)
      simp only [hct, List.head_cons] at h5
      rw [h4] at h5
      cases h5
  · intro h
    have he : l.reverse.dropWhile (digsL.contains ·) = [] := (h1 _).2 (fun b hb => h b (List.mem_reverse.1 hb))
    rw [he]
    rfl
theorem digs_sub (l : List UInt8) (n : Int) (m : Int) (h : allD l = true) (hn : 0 ≤ n) (hm : n = min m 2147483648) (hm2 : m ≤ 4294967296) :
    ∃ a b, decC n l = some a ∧ decG m l = some b ∧ a = min b 2147483648 ∧ 0 ≤ a ∧ b ≤ 4294967296 := by
  induction l generalizing n m with
  | nil => exact ⟨n, m, rfl, rfl, hm, hn, hm2⟩
  | cons c t ih =>
    unfold allD at h
    rw [List.all_cons, Bool.and_eq_true, Bool.and_eq_true] at h
    have h1 := of_decide_eq_true h.1.1
    have h2 := of_decide_eq_true h.1.2
    unfold decC decG
    rw [if_pos ⟨h1, h2⟩, if_pos ⟨h1, h2⟩]
    refine ih _ _ h.2 (by omega) ?_ (by unfold mn; split <;> omega)
    unfold mn
    split <;> omega
theorem tokI_intL (d : List UInt8) (hd : allD d = true) (hne : ¬ d = []) : tokI (45 :: d) = intL (45 :: d) := by
  obtain ⟨c, t, rfl⟩ : ∃ c t, d = c :: t := by cases d with | nil => exact absurd rfl hne | cons c t => exact ⟨c, t, rfl⟩
  have hc : 48 ≤ c.toNat ∧ c.toNat ≤ 57 := by
    unfold allD at hd
    rw [List.all_cons, Bool.and_eq_true, Bool.and_eq_true] at hd
    exact ⟨of_decide_eq_true hd.1.1, of_decide_eq_true hd.1.2⟩
  have e1 : Lib.trimLeftS (45 :: c :: t) [43, 45] = c :: t := by
    unfold Lib.trimLeftS
    rw [List.dropWhile_cons_of_pos (by decide), List.dropWhile_cons_of_neg]
    intro h
    simp only [List.contains_cons, List.contains_nil, Bool.or_false, Bool.or_eq_true, beq_iff_eq] at h
    rcases h with rfl | rfl
    · exact absurd hc.1 (by decide)
    · exact absurd hc.1 (by decide)
  obtain ⟨a, b, ha, hb, hab, ha0, hb0⟩ := digs_sub (c :: t) 0 0 hd (by omega) (by omega) (by omega)
  unfold tokI intL
  rw [e1, if_neg (by simp), ha, show intD (45 :: c :: t) = c :: t from rfl, if_neg (by simp), hb, show intM (45 :: c :: t) = true from rfl]
  simp only [if_true]
  unfold mx
  split <;> omega
theorem bytes_ne {s : ByteArray} {l : List UInt8} (h : ¬ s.data.toList = l) : ¬ s = ⟨l.toArray⟩ := fun e => h (by rw [e])
theorem tail_kn {a : Int} {u : List UInt8} {rest : List N51} (hl : Ls rest) (h : (tailR a u rest).2.2 = true) : ∀ y, y ∈ rest → knK y := by
  unfold tailR at h
  split at h
  · cases h
  · next c v =>
    by_cases c1 : ¬ c.toNat = 110
    · rw [if_pos c1] at h; cases h
    rw [if_neg c1] at h
    have ht := hl.trim
    by_cases c2 : v = []
    · rw [if_pos c2] at h
      by_cases c3 : rest = []
      · rw [c3]; intro y hy; cases hy
      rw [if_neg c3] at h
      rw [ht] at h
      by_cases c4 : (numR true (trimF rest)).2 = true
      · exact num_kind c4
      rw [if_neg c4] at h
      split at h
      · cases h
      · next c5 =>
        split at h
        · next c6 =>
          have hk : seeK (trimF rest) = 9 := by
            rcases Decidable.em (seeK (trimF rest) = 9) with h | h
            · exact h
            · exact absurd (.inr (.inl h)) c5
          have hlt := hl.suf (trimF_suf rest)
          obtain ⟨x, t, hx⟩ : ∃ x t, trimF rest = x :: t := by
            cases e : trimF rest with
            | nil => rw [e] at hk; cases hk
            | cons x t => exact ⟨x, t, rfl⟩
          rw [hx] at hk c6 hlt
          have hlt2 : Ls t := hlt.suf (List.suffix_cons x t)
          rw [show (x :: t).tail = t from rfl, hlt2.trim] at c6
          have hkn := num_kind c6
          intro y hy
          rcases mem_trimF hy with hm | hw
          · rw [hx] at hm
            rcases List.mem_cons.1 hm with rfl | hm
            · exact .inr (.inl hk)
            · exact hkn y hm
          · exact kn_white hw
        · cases h
    rw [if_neg c2] at h
    by_cases c3 : v = [45]
    · rw [if_pos c3, ht] at h
      split at h
      · next c4 => exact num_kind c4
      · cases h
    rw [if_neg c3] at h
    split at h
    · cases h
    · next c4 =>
      have : rest = [] := by
        rcases Decidable.em (0 < rest.length) with h | h
        · exact absurd (.inl h) c4
        · exact List.eq_nil_of_length_eq_zero (by omega)
      rw [this]; intro y hy; cases hy
theorem tail_sec (a : Int) (R : ByteArray) {rest : List N51} (hl : Ls rest) :
    tailR a (110 :: R.data.toList) rest = if (secP R rest).2.2 = true ∨ 0 < (secP R rest).2.1.length then (0, 0, false) else (a, (secP R rest).1, true) := by
  have ht := hl.trim
  unfold tailR
  simp only []
  rw [if_neg (show ¬ ¬ (110 : UInt8).toNat = 110 by decide), ht]
  by_cases c2 : R.data.toList = []
  · have e2 : R = ⟨#[]⟩ := WideShapes.bytes_inj c2
    have es : secP R rest = (if trimF rest = [] then 0 else endV (trimF rest), if trimF rest = [] then [] else endL (trimF rest), if trimF rest = [] then false else endB (trimF rest)) := by
      unfold secP
      rw [if_neg (by rw [e2]; intro h; exact absurd (congrArg ByteArray.size h) (by decide)), if_pos e2]
    rw [if_pos c2, es]
    simp only []
    clear es e2 c2
    by_cases c3 : rest = []
    · subst c3
      rfl
    have hq := hl.ne c3
    rw [if_neg c3, if_neg hq, if_neg hq, if_neg hq]
    have hlq := hl.suf (trimF_suf rest)
    obtain ⟨q, hqe⟩ : ∃ q, trimF rest = q := ⟨_, rfl⟩
    rw [hqe] at hq hlq ⊢
    by_cases c4 : (numR true q).2 = true
    · rw [if_pos c4]
      have h4 := (num_left true q).1 c4
      obtain ⟨x, t, rfl, hk⟩ := nbr_kind (num_one c4).2
      have hs : ∀ c, sgnB c (x :: t) = false := by
        intro c
        unfold sgnB
        rw [show seeK (x :: t) = x.f0.f0 from rfl, hk]
        rfl
      unfold endB endL endV
      simp only [hs, Bool.or_false, Bool.false_eq_true, if_false]
      rw [if_neg h4, num_val c4]
    rw [if_neg c4]
    have h43 := sgn_iff 43 (.inl rfl) q hq
    have h45 := sgn_iff 45 (.inr rfl) q hq
    by_cases c5 : sgnB 43 q = true ∨ sgnB 45 q = true
    · have hk : seeK q = 9 := by rcases c5 with h | h; exact (h43.1 h).1; exact (h45.1 h).1
      have hor : (sgnB 43 q || sgnB 45 q) = true := by rw [Bool.or_eq_true]; exact c5
      obtain ⟨x, t, rfl⟩ : ∃ x t, q = x :: t := by
        cases q with
        | nil => exact absurd rfl hq
        | cons x t => exact ⟨x, t, rfl⟩
      have hlt : Ls t := hlq.suf (List.suffix_cons x t)
      unfold endB endL endV
      rw [if_pos hor, if_pos hor, show (x :: t).tail = t from rfl, hlt.trim]
      have key := num_left false (trimF t)
      by_cases c6 : (numR false (trimF t)).2 = true
      · have hlen : ¬ (x :: t).length < 2 := by
          intro h
          have : t = [] := List.eq_nil_of_length_eq_zero (by simp only [List.length_cons] at h; omega)
          subst this
          cases (num_one c6).1
        rw [if_neg (show ¬ _ from key.1 c6), if_pos c6, num_val c6, if_neg]
        · rcases c5 with h | h
          · have e := (h43.1 h).2
            rw [if_pos h, if_neg (by rw [e]; decide)]
          · have e := (h45.1 h).2
            have hn : ¬ sgnB 43 (x :: t) = true := by
              intro h'
              have e' := (h43.1 h').2
              rw [e] at e'
              exact absurd e' (by decide)
            rw [if_neg hn, if_pos h, if_pos e]
        · rintro (h | h | h)
          · exact hlen h
          · exact h hk
          · rcases c5 with h' | h'
            · exact h.1 (h43.1 h').2
            · exact h.2 (h45.1 h').2
      · have hbad : (!nbrB false (trimF t)) = true ∨ 0 < (nbrL false (trimF t)).length := by
          rcases Decidable.em ((!nbrB false (trimF t)) = true ∨ 0 < (nbrL false (trimF t)).length) with h | h
          · exact h
          · exact absurd (key.2 h) c6
        rw [if_pos hbad, if_neg c6]
        split <;> rfl
    · have n43 : sgnB 43 q = false := by cases h : sgnB 43 q with | false => rfl | true => exact absurd (.inl h) c5
      have n45 : sgnB 45 q = false := by cases h : sgnB 45 q with | false => rfl | true => exact absurd (.inr h) c5
      have hcond : q.length < 2 ∨ ¬ seeK q = 9 ∨ (¬ txtF q = ⟨#[43]⟩ ∧ ¬ txtF q = ⟨#[45]⟩) := by
        rcases Decidable.em (seeK q = 9) with hk | hk
        · exact .inr (.inr ⟨fun e => c5 (.inl (h43.2 ⟨hk, e⟩)), fun e => c5 (.inr (h45.2 ⟨hk, e⟩))⟩)
        · exact .inr (.inl hk)
      rw [if_pos hcond]
      unfold endB endL endV
      simp only [n43, n45, Bool.or_false, Bool.false_eq_true, if_false]
      have key := num_left true q
      rw [if_pos]
      rcases Decidable.em ((!nbrB true q) = true ∨ 0 < (nbrL true q).length) with h | h
      · exact h
      · exact absurd (key.2 h) c4
  rw [if_neg c2]
  by_cases c3 : R.data.toList = [45]
  · have e3 : R = ⟨#[45]⟩ := WideShapes.bytes_inj c3
    rw [if_pos c3]
    have key := num_left false (trimF rest)
    have es : secP R rest = (-(nbrV false (trimF rest)), nbrL false (trimF rest), !nbrB false (trimF rest)) := by
      unfold secP
      rw [if_pos e3]
    rw [es]
    simp only []
    by_cases c4 : (numR false (trimF rest)).2 = true
    · rw [if_pos c4, if_neg (key.1 c4), num_val c4]
    · rw [if_neg c4, if_pos]
      rcases Decidable.em ((!nbrB false (trimF rest)) = true ∨ 0 < (nbrL false (trimF rest)).length) with h | h
      · exact h
      · exact absurd (key.2 h) c4
  have n3 : ¬ R = ⟨#[45]⟩ := bytes_ne c3
  have n2 : ¬ R = ⟨#[]⟩ := bytes_ne c2
  have es : secP R rest = (tokI R.data.toList, rest, secBad R.data.toList) := by
    unfold secP
    rw [if_neg n3, if_neg n2]
  rw [if_neg c3, es]
  simp only []
  obtain ⟨c, d, hcd⟩ : ∃ c d, R.data.toList = c :: d := by
    cases h : R.data.toList with
    | nil => exact absurd h c2
    | cons c d => exact ⟨c, d, rfl⟩
  rw [hcd] at c3 ⊢
  have hsb : secBad (c :: d) = (!decide (c.toNat = 45) || !(Lib.trimS d digsL).isEmpty) := rfl
  rw [hsb, trimS_empty, show (c :: d).head? = some c from rfl, show (c :: d).tail = d from rfl]
  by_cases hc : c = 45
  · subst hc
    by_cases hr : 0 < rest.length
    · rw [if_pos (.inl hr), if_pos (.inr hr)]
    · rw [if_neg (by simp [hr])]
      cases hd : allD d with
      | true =>
        rw [if_pos rfl, if_neg (by simp [hr])]
        rw [tokI_intL d hd (fun e => c3 (by rw [e]))]
      | false => rw [if_neg (by simp), if_pos (by simp)]
  · have hc2 : ¬ c.toNat = 45 := fun e => hc (UInt8.toNat_inj.1 e)
    rw [if_pos (.inr (by simpa using hc)), if_pos (.inl (by rw [decide_eq_false hc2]; rfl))]

theorem pre1 (c : UInt8) (s : ByteArray) : preB [c] s = true ↔ s.data.toList.head? = some c := by
  unfold preB
  cases h : s.data.toList with
  | nil => simp
  | cons a t => simp
theorem pre2 (c d : UInt8) (s : ByteArray) : preB [c, d] s = true ↔ ∃ v, s.data.toList = c :: d :: v := by
  unfold preB
  cases h : s.data.toList with
  | nil => simp
  | cons a t =>
    cases t with
    | nil => simp
    | cons b r => simp
theorem tail_no (a : Int) {u : List UInt8} (rest : List N51) (h : ¬ u.head? = some 110) : tailR a u rest = (0, 0, false) := by
  cases u with
  | nil => rfl
  | cons c v =>
    have hc : ¬ c.toNat = 110 := fun e => h (by rw [show c = 110 from UInt8.toNat_inj.1 e]; rfl)
    unfold tailR
    simp only []
    rw [if_pos hc]
def tri (r : Int × Int × Bool) : Int × Int × Int := if r.2.2 = true then (r.1, r.2.1, 0) else (0, 0, 2)
def finR (F : Int × ByteArray × List N51 × Bool) : Int × Int × Int :=
  if F.2.2.2 = true then (0, 0, 2)
  else if (secP F.2.1 F.2.2.1).2.2 = true ∨ 0 < (secP F.2.1 F.2.2.1).2.1.length then (0, 0, 2)
  else (F.1, (secP F.2.1 F.2.2.1).1, 0)
theorem tri_sec (a : Int) (s : ByteArray) (k : Nat) {rest : List N51} (hl : Ls rest) (hs : s.data.toList.drop k = 110 :: s.data.toList.drop (k + 1)) :
    tri (tailR a (s.data.toList.drop k) rest) = finR (a, s.extract (k + 1) s.size, rest, false) := by
  unfold finR
  simp only [Bool.false_eq_true, if_false]
  rw [hs, ← Lib.extract_to_end s (k + 1), tail_sec a _ hl]
  split <;> rfl
theorem head_drop {u : List UInt8} {c : UInt8} (h : u.head? = some c) : u = c :: u.drop 1 := by
  cases u with
  | nil => cases h
  | cons a t =>
    rw [List.head?_cons] at h
    injection h with h
    rw [h]
    rfl
theorem head_kn {x : N51} {t : List N51} (hl : Ls t) (h : (headR x t).2.2 = true) : ∀ y, y ∈ x :: t → knK y := by
  unfold headR at h
  split at h
  · next c =>
    rw [c.1]; intro y hy; rcases List.mem_singleton.1 hy with rfl; exact .inl c.2.1
  split at h
  · next c =>
    rw [c.1]; intro y hy; rcases List.mem_singleton.1 hy with rfl; exact .inl c.2.1
  split at h
  · next c =>
    rw [c.1]; intro y hy; rcases List.mem_singleton.1 hy with rfl; exact .inr (.inr (.inl c.2.1))
  split at h
  · next c =>
    have := tail_kn hl h
    intro y hy
    rcases List.mem_cons.1 hy with rfl | hy
    · exact .inr (.inr (.inr (.inl c.1)))
    · exact this y hy
  split at h
  · next c =>
    obtain ⟨z, r, rfl⟩ : ∃ z r, t = z :: r := by cases t with | nil => exact absurd rfl c.2.2.1 | cons z r => exact ⟨z, r, rfl⟩
    have := tail_kn (hl.suf (List.suffix_cons z r)) h
    intro y hy
    rcases List.mem_cons.1 hy with rfl | hy
    · exact .inr (.inl c.1)
    · rcases List.mem_cons.1 hy with rfl | hy
      · exact .inl c.2.2.2
      · exact this y hy
  split at h
  · next c =>
    have hk : ∀ y, y ∈ t → knK y := by
      split at h
      · exact tail_kn hl h
      · exact tail_kn hl h
    intro y hy
    rcases List.mem_cons.1 hy with rfl | hy
    · exact .inl c
    · exact hk y hy
  · cases h
theorem head_law {x : N51} {t : List N51} (hl : Ls t) :
    tri (headR x t) = if (x :: t).length = 1 ∧ seeK (x :: t) = 1 ∧ seeT (x :: t) = oddS then (2, 1, 0)
      else if (x :: t).length = 1 ∧ seeK (x :: t) = 1 ∧ seeT (x :: t) = evenS then (2, 0, 0)
      else if (x :: t).length = 1 ∧ seeK (x :: t) = 10 ∧ seeW (x :: t) = true then (0, seeI (x :: t), 0)
      else finR (fst5 (x :: t)) := by
  have hlen : (x :: t).length = 1 ↔ t = [] := by
    rw [List.length_cons]
    constructor
    · intro h; exact List.eq_nil_of_length_eq_zero (by omega)
    · rintro rfl; rfl
  simp only [hlen]
  rw [show seeK (x :: t) = x.f0.f0 from rfl, show seeT (x :: t) = lowerB x.f0.f1 from rfl, show seeW (x :: t) = x.f0.f3 from rfl, show seeI (x :: t) = x.f0.f2 from rfl]
  unfold headR
  by_cases c1 : t = [] ∧ x.f0.f0 = 1 ∧ lowerB x.f0.f1 = oddS
  · rw [if_pos c1, if_pos c1]; rfl
  rw [if_neg c1, if_neg c1]
  by_cases c2 : t = [] ∧ x.f0.f0 = 1 ∧ lowerB x.f0.f1 = evenS
  · rw [if_pos c2, if_pos c2]; rfl
  rw [if_neg c2, if_neg c2]
  by_cases c3 : t = [] ∧ x.f0.f0 = 10 ∧ x.f0.f3 = true
  · rw [if_pos c3, if_pos c3]; rfl
  rw [if_neg c3, if_neg c3]
  have hsg := sgn_iff 43 (.inl rfl) (x :: t) (by simp)
  rw [show seeK (x :: t) = x.f0.f0 from rfl, show txtF (x :: t) = x.f0.f1 from rfl] at hsg
  unfold fst5
  by_cases cs : sgnB 43 (x :: t) = true
  · have hk := hsg.1 cs
    rw [if_pos cs, if_neg (by omega), show (x :: t).tail = t from rfl]
    cases t with
    | nil => rw [if_neg (by simp), if_neg (by omega)]; rfl
    | cons z r =>
      have hlr : Ls r := hl.suf (List.suffix_cons z r)
      have e : fstP true (z :: r) = if z.f0.f0 = 1 ∧ preB [110] (lowerB z.f0.f1) = true then (1, (lowerB z.f0.f1).extract 1 (lowerB z.f0.f1).size, r, false)
        else (0, ⟨#[]⟩, z :: r, true) := by
        show (if z.f0.f0 = 12 ∧ true = false ∧ z.f0.f3 = true ∧ preB [110] (lowerB z.f0.f1) = true then (z.f0.f2, (lowerB z.f0.f1).extract 1 (lowerB z.f0.f1).size, r, false)
          else if z.f0.f0 = 1 ∧ preB [110] (lowerB z.f0.f1) = true then ((1 : Int), (lowerB z.f0.f1).extract 1 (lowerB z.f0.f1).size, r, false)
          else if z.f0.f0 = 1 ∧ true = false ∧ preB [45, 110] (lowerB z.f0.f1) = true then (-1, (lowerB z.f0.f1).extract 2 (lowerB z.f0.f1).size, r, false)
          else (0, ⟨#[]⟩, z :: r, true)) = _
        rw [if_neg (show ¬ (z.f0.f0 = 12 ∧ true = false ∧ z.f0.f3 = true ∧ preB [110] (lowerB z.f0.f1) = true) from fun h => absurd h.2.1 (by simp)),
          if_neg (show ¬ (z.f0.f0 = 1 ∧ true = false ∧ preB [45, 110] (lowerB z.f0.f1) = true) from fun h => absurd h.2.1 (by simp))]
      rw [e]
      by_cases hz : z.f0.f0 = 1
      · rw [if_pos ⟨hk.1, hk.2, by simp, hz⟩, show txtF (z :: r) = z.f0.f1 from rfl, show (z :: r).tail = r from rfl]
        by_cases hp : preB [110] (lowerB z.f0.f1) = true
        · rw [if_pos ⟨hz, hp⟩]
          exact tri_sec 1 (lowerB z.f0.f1) 0 hlr (head_drop ((pre1 _ _).1 hp))
        · rw [if_neg (fun e => hp e.2), tail_no _ _ (fun e => hp ((pre1 _ _).2 e))]
          rfl
      · rw [if_neg (fun e => hz e.2.2.2), if_neg (by omega), if_neg (fun e => hz e.1)]
        rfl
  · rw [if_neg cs]
    have e : fstP false (x :: t) = if x.f0.f0 = 12 ∧ false = false ∧ x.f0.f3 = true ∧ preB [110] (lowerB x.f0.f1) = true then (x.f0.f2, (lowerB x.f0.f1).extract 1 (lowerB x.f0.f1).size, t, false)
      else if x.f0.f0 = 1 ∧ preB [110] (lowerB x.f0.f1) = true then (1, (lowerB x.f0.f1).extract 1 (lowerB x.f0.f1).size, t, false)
      else if x.f0.f0 = 1 ∧ false = false ∧ preB [45, 110] (lowerB x.f0.f1) = true then (-1, (lowerB x.f0.f1).extract 2 (lowerB x.f0.f1).size, t, false)
      else (0, ⟨#[]⟩, x :: t, true) := rfl
    rw [e]
    by_cases k12 : x.f0.f0 = 12 ∧ x.f0.f3 = true
    · rw [if_pos k12]
      by_cases hp : preB [110] (lowerB x.f0.f1) = true
      · rw [if_pos ⟨k12.1, rfl, k12.2, hp⟩]
        exact tri_sec x.f0.f2 (lowerB x.f0.f1) 0 hl (head_drop ((pre1 _ _).1 hp))
      · rw [if_neg (fun e => hp e.2.2.2), if_neg (fun e => hp e.2), if_neg (by omega), tail_no _ _ (fun e => hp ((pre1 _ _).2 e))]
        rfl
    · rw [if_neg k12, if_neg (fun e => cs (hsg.2 ⟨e.1, e.2.1⟩)), if_neg (show ¬ (x.f0.f0 = 12 ∧ false = false ∧ x.f0.f3 = true ∧ preB [110] (lowerB x.f0.f1) = true) from fun e => k12 ⟨e.1, e.2.2.1⟩)]
      by_cases k1 : x.f0.f0 = 1
      · rw [if_pos k1]
        by_cases hp : preB [110] (lowerB x.f0.f1) = true
        · have h1 := (pre1 _ _).1 hp
          rw [if_neg (show ¬ (lowerB x.f0.f1).data.toList.head? = some 45 by rw [h1]; decide), if_pos ⟨k1, hp⟩]
          exact tri_sec 1 (lowerB x.f0.f1) 0 hl (head_drop h1)
        · have hn1 : ¬ (lowerB x.f0.f1).data.toList.head? = some 110 := fun e => hp ((pre1 _ _).2 e)
          have hnp : ¬ (x.f0.f0 = 1 ∧ preB [110] (lowerB x.f0.f1) = true) := fun e => hp e.2
          by_cases hp2 : preB [45, 110] (lowerB x.f0.f1) = true
          · obtain ⟨v, hv⟩ := (pre2 _ _ _).1 hp2
            rw [if_pos (show (lowerB x.f0.f1).data.toList.head? = some 45 by rw [hv]; rfl), if_neg hnp, if_pos ⟨k1, rfl, hp2⟩]
            rw [← List.drop_one]
            exact tri_sec (-1) (lowerB x.f0.f1) 1 hl (by rw [hv]; rfl)
          · have hnp2 : ¬ (x.f0.f0 = 1 ∧ false = false ∧ preB [45, 110] (lowerB x.f0.f1) = true) := fun e => hp2 e.2.2
            rw [if_neg hnp, if_neg hnp2]
            by_cases hd : (lowerB x.f0.f1).data.toList.head? = some 45
            · rw [if_pos hd, tail_no]
              · rfl
              · intro e
                refine hp2 ((pre2 _ _ _).2 ?_)
                have h3 := head_drop hd
                rw [← List.drop_one] at e
                have h4 := head_drop e
                exact ⟨_, h3.trans (congrArg _ h4)⟩
            · rw [if_neg hd, tail_no _ _ hn1]
              rfl
      · rw [if_neg k1, if_neg (fun e => k1 e.1), if_neg (fun e => k1 e.1)]
        rfl
theorem prs_anc (l : List N51) : prsP (trimN l) = tri (ancR (trimN l)) := by
  have hl := trimN_ls l
  obtain ⟨m, hm⟩ : ∃ m, trimN l = m := ⟨_, rfl⟩
  rw [hm] at hl ⊢
  unfold ancR
  by_cases hk : m.any kidB = true
  · rw [if_pos hk]
    have ho : m.any opB = true := by
      obtain ⟨x, hx, hb⟩ := List.any_eq_true.1 hk
      refine List.any_eq_true.2 ⟨x, hx, ?_⟩
      unfold opB
      rw [show decide (0 < x.f1.length) = true from hb]
      rfl
    unfold prsP
    rw [if_pos ho]
    rfl
  · rw [if_neg hk]
    cases m with
    | nil => rfl
    | cons x t =>
      have hlt : Ls t := hl.suf (List.suffix_cons x t)
      simp only []
      by_cases ho : (x :: t).any opB = true
      · have hf : ¬ (headR x t).2.2 = true := by
          intro h
          have hkn := head_kn hlt h
          obtain ⟨y, hy, hb⟩ := List.any_eq_true.1 ho
          have h1 := hkn y hy
          have h2 : kidB y = false := by
            cases e : kidB y with
            | false => rfl
            | true => exact absurd (List.any_eq_true.2 ⟨y, hy, e⟩) hk
          unfold opB at hb
          rw [show decide (0 < y.f1.length) = false from h2, Bool.false_or, Bool.or_eq_true, beq_iff_eq, beq_iff_eq] at hb
          unfold knK at h1
          omega
        unfold prsP tri
        rw [if_pos ho, if_neg hf]
      · rw [head_law hlt]
        unfold prsP
        rw [if_neg ho]
        rfl

theorem kid_first (m : List N51) : (∀ j, j < m.length → kidB (m.getD j z51) = false) ∨ ∃ q, q < m.length ∧ kidB (m.getD q z51) = true := by
  by_cases h : ∃ q, q < m.length ∧ kidB (m.getD q z51) = true
  · exact .inr h
  · exact .inl fun j hj => by
      cases hb : kidB (m.getD j z51) with
      | false => rfl
      | true => exact absurd ⟨j, hj, hb⟩ h
set_option maxHeartbeats 8000000 in
set_option maxRecDepth 100000 in
theorem anc_kid (l : List N51) (hl : l.length ≤ 1000000000) {w : World} {A : Option Addr} {c : Nat} (h : Vt w A c l) (m : List N51) (hm : trimN l = m) (hg : ∀ x, x ∈ m → GoodN x)
    (q : Nat) (hq : q < m.length) (hop : kidB (m.getD q z51) = true) :
    Calls Tryd.prog 10 #[.slice A l.length c] w fun e w' => e = .returned (.tuple #[.int .i64 0, .int .i64 0, .bool false]) ∧ Below w.heap.size w w' := by
  have HV0 := Aside0.mk h
  have HM := Aside0.mk hm
  have HG := Aside0.mk hg
  have hz : m.length ≤ 1000000000 := by rw [← hm]; exact Nat.le_trans (trimN_len l) hl
  have HOP := Aside0.mk hop
  clear hop
  clear h hm hg
  go_enter Tryd.func10, Tryd.ntmps10
  go_wp2_with (fail)
  refine (trimV l hl HV0.out).mono ?_
  rw [HM.out]
  rintro e w1 ⟨A2, c2, rfl, hv, hb⟩
  have HV := Aside0.mk hv
  have HB := Aside0.mk hb
  clear hv hb HV0 HM
  go_wp2_with (fail)
  obtain ⟨n, hn⟩ : ∃ n, m.length = n := ⟨_, rfl⟩
  rw [hn] at hz ⊢
  have HN := Aside0.mk hn
  clear hn
  go_loopg [5] n (fun gk v wr => ∃ k : Nat, n ≤ k + gk ∧ k ≤ q ∧ v = .int .i64 k ∧ w1 = wr)
  case atStart => exact ⟨0, by omega, Nat.zero_le _, rfl, rfl⟩
  case round =>
    obtain ⟨k, hkn, hkq, rfl, rfl⟩ := hrel
    have hlt : k < n := by have := HN.out; omega
    obtain ⟨ad, A6, c6, hA2, x0, x1, x2, x3, x4, x5, x6, hl6, hi6⟩ := at_T51 (Kd.F_now HV.out.row) k (by omega) (by have := HN.out; omega)
    have HA2 := Aside0.mk hA2
    subst hA2
    have e0 : rd_T51 m k = m.getD k z51 := rfl
    rw [e0] at x0 x1 x2 x3 x4 x5 x6 hl6 hi6
    obtain ⟨x, hx⟩ : ∃ x, m.getD k z51 = x := ⟨_, rfl⟩
    rw [hx] at x0 x1 x2 x3 x4 x5 x6 hl6 hi6
    rw [Int.toNat_natCast] at x0 x1 x2 x3 x4 x5 x6
    have HX := Aside0.mk hx
    have hkn2 : (k : Int) < (n : Int) := by omega
    clear hx e0 hl6 hi6
    cases hox : kidB x with
    | true =>
      have b1 : 0 < x.f1.length := of_decide_eq_true hox
      have b1i : (0 : Int) < (x.f1.length : Int) := by omega
      clear hox
      go_wp2
      go_ret3
      exact ⟨rfl, HB.out⟩
    | false =>
      have b1 : ¬ 0 < x.f1.length := of_decide_eq_false hox
      have b1i : decide ((0 : Int) < (x.f1.length : Int)) = false := decide_eq_false (by omega)
      have b1j : decide (0 < x.f1.length) = false := decide_eq_false (by omega)
      have HKQ : Aside0 (k + 1 ≤ q) := ⟨by
        rcases Nat.lt_or_ge k q with h | h
        · exact h
        · have e : k = q := by omega
          have h2 := HOP.out
          rw [← e, HX.out, hox] at h2
          cases h2⟩
      clear hox b1
      go_wp2
      go_roundg (gk - 1)
      case measure => omega
      case rel => exact ⟨k + 1, by omega, HKQ.out, by go_num, rfl⟩
set_option maxHeartbeats 8000000 in
set_option maxRecDepth 100000 in
theorem anc_nil (l : List N51) (hl : l.length ≤ 1000000000) {w : World} {A : Option Addr} {c : Nat} (h : Vt w A c l) (m : List N51) (hm : trimN l = m) (hg : ∀ x, x ∈ m → GoodN x)
    (hop : ∀ j, j < m.length → kidB (m.getD j z51) = false) (hm0 : m = []) :
    Calls Tryd.prog 10 #[.slice A l.length c] w fun e w' => e = .returned (.tuple #[.int .i64 0, .int .i64 0, .bool false]) ∧ Below w.heap.size w w' := by
  have HV0 := Aside0.mk h
  have HM := Aside0.mk hm
  have HG := Aside0.mk hg
  have hz : m.length ≤ 1000000000 := by rw [← hm]; exact Nat.le_trans (trimN_len l) hl
  have HOP := Aside0.mk hop
  clear hop
  have HM0 := Aside0.mk hm0
  clear hm0
  clear h hm hg
  go_enter Tryd.func10, Tryd.ntmps10
  go_wp2_with (fail)
  refine (trimV l hl HV0.out).mono ?_
  rw [HM.out]
  rintro e w1 ⟨A2, c2, rfl, hv, hb⟩
  have HV := Aside0.mk hv
  have HB := Aside0.mk hb
  clear hv hb HV0 HM
  go_wp2_with (fail)
  obtain ⟨n, hn⟩ : ∃ n, m.length = n := ⟨_, rfl⟩
  rw [hn] at hz ⊢
  have HN := Aside0.mk hn
  clear hn
  go_loopg [5] n (fun gk v wr => ∃ k : Nat, n ≤ k + gk ∧ k ≤ n ∧ v = .int .i64 k ∧ w1 = wr)
  case atStart => exact ⟨0, by omega, by omega, rfl, rfl⟩
  case round =>
    obtain ⟨k, hkn, hkl, rfl, rfl⟩ := hrel
    by_cases hlt : k < n
    · as_aux_lemma =>
      obtain ⟨ad, A6, c6, hA2, x0, x1, x2, x3, x4, x5, x6, hl6, hi6⟩ := at_T51 (Kd.F_now HV.out.row) k (by omega) (by have := HN.out; omega)
      have HA2 := Aside0.mk hA2
      subst hA2
      have e0 : rd_T51 m k = m.getD k z51 := rfl
      rw [e0] at x0 x1 x2 x3 x4 x5 x6 hl6 hi6
      obtain ⟨x, hx⟩ : ∃ x, m.getD k z51 = x := ⟨_, rfl⟩
      rw [hx] at x0 x1 x2 x3 x4 x5 x6 hl6 hi6
      rw [Int.toNat_natCast] at x0 x1 x2 x3 x4 x5 x6
      have HX := Aside0.mk hx
      have hkn2 : (k : Int) < (n : Int) := by omega
      clear hx e0 hl6 hi6
      have hox := HOP.out k (by have := HN.out; omega)
      rw [HX.out] at hox
      have b1 : ¬ 0 < x.f1.length := of_decide_eq_false hox
      have b1i : decide ((0 : Int) < (x.f1.length : Int)) = false := decide_eq_false (by omega)
      have b1j : decide (0 < x.f1.length) = false := decide_eq_false (by omega)
      clear hox b1
      go_wp2
      go_roundg (gk - 1)
      case measure => omega
      case rel => exact ⟨k + 1, by omega, by omega, by go_num, rfl⟩
    · have hke : k = n := by omega
      clear hlt hkn hkl
      subst hke
      have hsl : decide ((k : Int) < (k : Int)) = false := decide_eq_false (by omega)
      have hk0 : k = 0 := by have := HN.out; rw [HM0.out] at this; simpa using this.symm
      subst hk0
      go_wp2
      go_ret3
      exact ⟨rfl, HB.out⟩

def triV (R : Int × Int × Bool) : Value := .tuple #[.int .i64 R.1, .int .i64 R.2.1, .bool R.2.2]
inductive retR (x : N51) (t : List N51) : Int × Int × Bool → Prop
  | odd (ht : t = []) (k1 : x.f0.f0 = 1) (hu0 : lowerB x.f0.f1 = oddS) : retR x t (2, 1, true)
  | even (ht : t = []) (k1 : x.f0.f0 = 1) (hu0 : lowerB x.f0.f1 = evenS) : retR x t (2, 0, true)
  | num (ht : t = []) (k1 : x.f0.f0 = 10) (h3 : x.f0.f3 = true) : retR x t (0, x.f0.f2, true)
  | n12 (k1 : x.f0.f0 = 12) (h3 : x.f0.f3 = false) : retR x t (0, 0, false)
  | n10f (k1 : x.f0.f0 = 10) (h3 : x.f0.f3 = false) : retR x t (0, 0, false)
  | n9 (k1 : x.f0.f0 = 9) (hp : ¬ x.f0.f1 = ⟨#[43]⟩) : retR x t (0, 0, false)
  | no (k1 : ¬ x.f0.f0 = 1) (k9 : ¬ x.f0.f0 = 9) (k10 : ¬ x.f0.f0 = 10) (k12 : ¬ x.f0.f0 = 12) : retR x t (0, 0, false)
  | n10t (k1 : x.f0.f0 = 10) (ht : ¬ t = []) : retR x t (0, 0, false)
  | n9n (k1 : x.f0.f0 = 9) (hp : x.f0.f1 = ⟨#[43]⟩) (ht : t = []) : retR x t (0, 0, false)
  | n9z (k1 : x.f0.f0 = 9) (hp : x.f0.f1 = ⟨#[43]⟩) (z : N51) (r : List N51) (htz : t = z :: r) (hz1 : ¬ z.f0.f0 = 1) : retR x t (0, 0, false)
set_option maxHeartbeats 8000000 in
set_option maxRecDepth 100000 in
theorem anc_ret (l : List N51) (hl : l.length ≤ 1000000000) {w : World} {A : Option Addr} {c : Nat} (h : Vt w A c l) (x : N51) (t : List N51) (m : List N51) (hmx : m = x :: t) (hm : trimN l = m) (hg : ∀ x, x ∈ m → GoodN x)
    (hop : ∀ j, j < m.length → kidB (m.getD j z51) = false) (R : Int × Int × Bool) (hret : retR x t R) :
    Calls Tryd.prog 10 #[.slice A l.length c] w fun e w' => e = .returned (triV R) ∧ Below w.heap.size w w' := by
  have HV0 := Aside0.mk h
  have HM := Aside0.mk hm
  have HG := Aside0.mk hg
  have hz : m.length ≤ 1000000000 := by rw [← hm]; exact Nat.le_trans (trimN_len l) hl
  have HOP := Aside0.mk hop
  clear hop
  have HMX := Aside0.mk hmx
  have HRET := Aside0.mk hret
  clear h hm hg hmx hret
  go_enter Tryd.func10, Tryd.ntmps10
  go_wp2_with (fail)
  refine (trimV l hl HV0.out).mono ?_
  rw [HM.out]
  rintro e w1 ⟨A2, c2, rfl, hv, hb⟩
  have HV := Aside0.mk hv
  have HB := Aside0.mk hb
  clear hv hb HV0 HM
  go_wp2_with (fail)
  obtain ⟨n, hn⟩ : ∃ n, m.length = n := ⟨_, rfl⟩
  rw [hn] at hz ⊢
  have HN := Aside0.mk hn
  clear hn
  go_loopg [5] n (fun gk v wr => ∃ k : Nat, n ≤ k + gk ∧ k ≤ n ∧ v = .int .i64 k ∧ w1 = wr)
  case atStart => exact ⟨0, by omega, by omega, rfl, rfl⟩
  case round =>
    obtain ⟨k, hkn, hkl, rfl, rfl⟩ := hrel
    by_cases hlt : k < n
    · as_aux_lemma =>
      obtain ⟨ad, A6, c6, hA2, x0, x1, x2, x3, x4, x5, x6, hl6, hi6⟩ := at_T51 (Kd.F_now HV.out.row) k (by omega) (by have := HN.out; omega)
      have HA2 := Aside0.mk hA2
      subst hA2
      have e0 : rd_T51 m k = m.getD k z51 := rfl
      rw [e0] at x0 x1 x2 x3 x4 x5 x6 hl6 hi6
      obtain ⟨x, hx⟩ : ∃ x, m.getD k z51 = x := ⟨_, rfl⟩
      rw [hx] at x0 x1 x2 x3 x4 x5 x6 hl6 hi6
      rw [Int.toNat_natCast] at x0 x1 x2 x3 x4 x5 x6
      have HX := Aside0.mk hx
      have hkn2 : (k : Int) < (n : Int) := by omega
      clear hx e0 hl6 hi6
      have hox := HOP.out k (by have := HN.out; omega)
      rw [HX.out] at hox
      have b1 : ¬ 0 < x.f1.length := of_decide_eq_false hox
      have b1i : decide ((0 : Int) < (x.f1.length : Int)) = false := decide_eq_false (by omega)
      have b1j : decide (0 < x.f1.length) = false := decide_eq_false (by omega)
      clear hox b1
      go_wp2
      go_roundg (gk - 1)
      case measure => omega
      case rel => exact ⟨k + 1, by omega, by omega, by go_num, rfl⟩
    · have hke : k = n := by omega
      clear hlt hkn hkl
      subst hke
      have hsl : decide ((k : Int) < (k : Int)) = false := decide_eq_false (by omega)
      have hvx : Vt w1 A2 c2 (x :: t) := by rw [← HMX.out]; exact HV.out
      obtain ⟨ad, A6, c6, hA2, x0, x1, x2, x3, x4, x5, x6⟩ := hvx.hd
      subst hA2
      have hlk : (x :: t).length = k := by rw [← HMX.out]; exact HN.out
      obtain ⟨A3, c3, hv3, hcut0⟩ := hvx.cut 1 (by simp)
      rw [hlk] at hcut0
      have hcut : ∀ W : World, (Instr.slice 23 (.slice (some ad) k c2) (some (.int .i64 1)) none none).run Tryd.prog W = .ok (.slice A3 t.length c3) W := hcut0
      have HV3 := Aside0.mk (show Vt w1 A3 c3 t from hv3)
      clear hcut0 hv3 hvx hlk
      have hk1 : k = t.length + 1 := by have := HN.out; rw [HMX.out] at this; simpa using this.symm
      have hk0 : ((k : Int) == 0) = false := beq_eq_false_iff_ne.2 (by omega)
      have hkp : decide ((0 : Int) < (k : Int)) = true := decide_eq_true (by omega)
      have hkq : decide (0 < k) = true := decide_eq_true (by omega)
      have hkr : (0 < k) = True := eq_true (by omega)
      have hki : ((0 : Int) < (k : Int)) = True := eq_true (by omega)
      have HK1 := Aside0.mk hk1
      clear hk1
      have hzx : x.f0.f1.size ≤ 1000000000 := (HG.out x (by rw [HMX.out]; simp)).1
      obtain ⟨u, hu⟩ : ∃ u, lowerB x.f0.f1 = u := ⟨_, rfl⟩
      have HU := Aside0.mk hu
      clear hu
      obtain ⟨b3, hb3⟩ : ∃ b, x.f0.f3 = b := ⟨_, rfl⟩
      rw [hb3] at x3
      go_upto_block 2 with (go_at_call 25; refine (lowV x.f0.f1 hzx _).mono ?_; rw [HU.out]; rintro e w2 ⟨rfl, hb⟩; have hbk := (hb.block w1.heap.size (by simp)).trans (heap_alloc_new w1 _); obtain ⟨⟨y0, y1, y2, y3, y4, y5⟩, -⟩ := blk6 hbk; have HB2 := Aside0.mk ((below_alloc (Below.refl _ w1) _).trans (hb.mono (by simp))); clear hb hbk)
      cases HRET.out with
      | odd ht k1 hu0 => as_aux_lemma =>
        have hkk : ((k : Int) == 1) = true := beq_iff_eq.2 (by have := HK1.out; rw [ht] at this; simp at this; omega)
        have kk1 : (x.f0.f0 == 1) = true := beq_iff_eq.2 (by omega)
        have e1 := str_eqT (show u = ⟨[111, 100, 100].toArray⟩ from HU.out.symm.trans hu0)
        go_wp2_with (fail)
        go_ret3
        exact ⟨rfl, HB.out.trans (HB2.out.mono HB.out.size)⟩
      | even ht k1 hu0 => as_aux_lemma =>
        have hkk : ((k : Int) == 1) = true := beq_iff_eq.2 (by have := HK1.out; rw [ht] at this; simp at this; omega)
        have kk1 : (x.f0.f0 == 1) = true := beq_iff_eq.2 (by omega)
        have e1 := str_eqF (show ¬ u = ⟨[111, 100, 100].toArray⟩ from (by rw [← HU.out, hu0]; decide))
        have e2 := str_eqT (show u = ⟨[101, 118, 101, 110].toArray⟩ from HU.out.symm.trans hu0)
        go_wp2_with (fail)
        go_ret3
        exact ⟨rfl, HB.out.trans (HB2.out.mono HB.out.size)⟩
      | num ht k1 h3 =>
        have hkk : ((k : Int) == 1) = true := beq_iff_eq.2 (by have := HK1.out; rw [ht] at this; simp at this; omega)
        have kk1 : (x.f0.f0 == 1) = false := beq_eq_false_iff_ne.2 (by omega)
        have kk10 : (x.f0.f0 == 10) = true := beq_iff_eq.2 (by omega)
        obtain rfl : b3 = true := hb3.symm.trans h3
        go_wp2_with (fail)
        have y2d : w2.drew.cell? ⟨w1.heap.size, 2, none⟩ = some (.int .i64 x.f0.f2) := by simpa using y2
        go_region_with (first | fail)
        all_goals go_wp2
        all_goals (go_ret3; exact ⟨rfl, HB.out.trans ((HB2.out.trans (below_drew (Below.refl _ _))).mono HB.out.size)⟩)
      | n12 k1 h3 => as_aux_lemma =>
        have kk1 : (x.f0.f0 == 1) = false := beq_eq_false_iff_ne.2 (by omega)
        have kk10 : (x.f0.f0 == 10) = false := beq_eq_false_iff_ne.2 (by omega)
        have kk12 : (x.f0.f0 == 12) = true := beq_iff_eq.2 (by omega)
        have kk9 : (x.f0.f0 == 9) = false := beq_eq_false_iff_ne.2 (by omega)
        obtain rfl : b3 = false := hb3.symm.trans h3
        cases hkk : ((k : Int) == 1)
        all_goals
          go_wp2_with (fail)
          go_ret3
          exact ⟨rfl, HB.out.trans (HB2.out.mono HB.out.size)⟩
      | n10f k1 h3 => as_aux_lemma =>
        have kk1 : (x.f0.f0 == 1) = false := beq_eq_false_iff_ne.2 (by omega)
        have kk10 : (x.f0.f0 == 10) = true := beq_iff_eq.2 (by omega)
        have kk12 : (x.f0.f0 == 12) = false := beq_eq_false_iff_ne.2 (by omega)
        have kk9 : (x.f0.f0 == 9) = false := beq_eq_false_iff_ne.2 (by omega)
        obtain rfl : b3 = false := hb3.symm.trans h3
        cases hkk : ((k : Int) == 1)
        all_goals
          go_wp2_with (fail)
          go_ret3
          exact ⟨rfl, HB.out.trans (HB2.out.mono HB.out.size)⟩
      | n9 k1 hp => as_aux_lemma =>
        have kk1 : (x.f0.f0 == 1) = false := beq_eq_false_iff_ne.2 (by omega)
        have kk10 : (x.f0.f0 == 10) = false := beq_eq_false_iff_ne.2 (by omega)
        have kk12 : (x.f0.f0 == 12) = false := beq_eq_false_iff_ne.2 (by omega)
        have kk9 : (x.f0.f0 == 9) = true := beq_iff_eq.2 (by omega)
        have e3 := str_eqF (show ¬ x.f0.f1 = ⟨[43].toArray⟩ from hp)
        cases hkk : ((k : Int) == 1)
        all_goals
          go_wp2_with (fail)
          go_ret3
          exact ⟨rfl, HB.out.trans (HB2.out.mono HB.out.size)⟩
      | no k1 k9 k10 k12 => as_aux_lemma =>
        have kk1 : (x.f0.f0 == 1) = false := beq_eq_false_iff_ne.2 (by omega)
        have kk10 : (x.f0.f0 == 10) = false := beq_eq_false_iff_ne.2 (by omega)
        have kk12 : (x.f0.f0 == 12) = false := beq_eq_false_iff_ne.2 (by omega)
        have kk9 : (x.f0.f0 == 9) = false := beq_eq_false_iff_ne.2 (by omega)
        cases hkk : ((k : Int) == 1)
        all_goals
          go_wp2_with (fail)
          go_ret3
          exact ⟨rfl, HB.out.trans (HB2.out.mono HB.out.size)⟩
      | n10t k1 ht => as_aux_lemma =>
        have hkk : ((k : Int) == 1) = false := beq_eq_false_iff_ne.2 (by have := HK1.out; have := Nat.pos_of_ne_zero (fun e => ht (List.eq_nil_of_length_eq_zero e)); omega)
        have kk1 : (x.f0.f0 == 1) = false := beq_eq_false_iff_ne.2 (by omega)
        have kk10 : (x.f0.f0 == 10) = true := beq_iff_eq.2 (by omega)
        have kk12 : (x.f0.f0 == 12) = false := beq_eq_false_iff_ne.2 (by omega)
        have kk9 : (x.f0.f0 == 9) = false := beq_eq_false_iff_ne.2 (by omega)
        go_wp2_with (fail)
        go_ret3
        exact ⟨rfl, HB.out.trans (HB2.out.mono HB.out.size)⟩
      | n9n k1 hp ht => as_aux_lemma =>
        have hkk : ((k : Int) == 1) = true := beq_iff_eq.2 (by have := HK1.out; rw [ht] at this; simp at this; omega)
        have hkg : decide ((1 : Int) < (k : Int)) = false := decide_eq_false (by have := HK1.out; rw [ht] at this; simp at this; omega)
        have kk1 : (x.f0.f0 == 1) = false := beq_eq_false_iff_ne.2 (by omega)
        have kk10 : (x.f0.f0 == 10) = false := beq_eq_false_iff_ne.2 (by omega)
        have kk12 : (x.f0.f0 == 12) = false := beq_eq_false_iff_ne.2 (by omega)
        have kk9 : (x.f0.f0 == 9) = true := beq_iff_eq.2 (by omega)
        have e3 := str_eqT (show x.f0.f1 = ⟨[43].toArray⟩ from hp)
        clear hp
        go_wp2_with (fail)
        go_ret3
        exact ⟨rfl, HB.out.trans (HB2.out.mono HB.out.size)⟩
      | n9z k1 hp z r htz hz1 => as_aux_lemma =>
        have hk2 : 1 < k := by have := HK1.out; rw [htz] at this; simp at this; omega
        have hkg : decide ((1 : Int) < (k : Int)) = true := decide_eq_true (by omega)
        have hkh : decide (1 < k) = true := decide_eq_true hk2
        have hkj : (1 < k) = True := eq_true hk2
        have hkl : ((1 : Int) < (k : Int)) = True := eq_true (by omega)
        have hkk : ((k : Int) == 1) = false := beq_eq_false_iff_ne.2 (by omega)
        have HVX := Aside0.mk (show Vt w1 (some ad) c2 (x :: z :: r) by rw [← htz, ← HMX.out]; exact HV.out)
        clear hk2
        obtain ⟨ad', e', z0, z1⟩ := (HVX.out.below HB2.out).two
        cases e'
        have kk1 : (x.f0.f0 == 1) = false := beq_eq_false_iff_ne.2 (by omega)
        have kk10 : (x.f0.f0 == 10) = false := beq_eq_false_iff_ne.2 (by omega)
        have kk12 : (x.f0.f0 == 12) = false := beq_eq_false_iff_ne.2 (by omega)
        have kk9 : (x.f0.f0 == 9) = true := beq_iff_eq.2 (by omega)
        have e3 := str_eqT (show x.f0.f1 = ⟨[43].toArray⟩ from hp)
        clear hp
        have kz1 : (z.f0.f0 == 1) = false := beq_eq_false_iff_ne.2 hz1
        go_wp2_with (fail)
        go_ret3
        exact ⟨rfl, HB.out.trans (HB2.out.mono HB.out.size)⟩

def goR (x : N51) (t : List N51) (a : Int) (u : ByteArray) (rest : List N51) : Prop :=
  (x.f0.f0 = 12 ∧ x.f0.f3 = true ∧ a = x.f0.f2 ∧ u = lowerB x.f0.f1 ∧ rest = t) ∨
  (∃ z, x.f0.f0 = 9 ∧ x.f0.f1 = ⟨#[43]⟩ ∧ t = z :: rest ∧ z.f0.f0 = 1 ∧ a = 1 ∧ u = lowerB z.f0.f1) ∨
  (x.f0.f0 = 1 ∧ ¬ (t = [] ∧ lowerB x.f0.f1 = oddS) ∧ ¬ (t = [] ∧ lowerB x.f0.f1 = evenS) ∧ (lowerB x.f0.f1).data.toList.head? = some 45 ∧ a = -1 ∧ u = (lowerB x.f0.f1).extract 1 (lowerB x.f0.f1).size ∧ rest = t) ∨
  (x.f0.f0 = 1 ∧ ¬ (t = [] ∧ lowerB x.f0.f1 = oddS) ∧ ¬ (t = [] ∧ lowerB x.f0.f1 = evenS) ∧ ¬ (lowerB x.f0.f1).data.toList.head? = some 45 ∧ a = 1 ∧ u = lowerB x.f0.f1 ∧ rest = t)
theorem lst_size {u : ByteArray} {l : List UInt8} (h : u.data.toList = l) : u.size = l.length := by
  rw [← h, Array.length_toList]; rfl
theorem lst_at {u : ByteArray} {b : UInt8} {v : List UInt8} (h : u.data.toList = b :: v) (hs : 0 < u.size) : ((u[0]'hs).toNat : Int) = (b.toNat : Int) := by
  have h3 : u[0]'hs = b := by
    show u.data[0]'hs = b
    have : u.data.toList[0]'(by simpa using hs) = b := by simp [h]
    simpa using this
  rw [h3]
theorem lst_at1 {u : ByteArray} {b c : UInt8} {v : List UInt8} (h : u.data.toList = b :: c :: v) (hs : 1 < u.size) : ((u[1]'hs).toNat : Int) = (c.toNat : Int) := by
  have h3 : u[1]'hs = c := by
    show u.data[1]'hs = c
    have : u.data.toList[1]'(by simpa using hs) = c := by simp [h]
    simpa using this
  rw [h3]
theorem lst_is {u : ByteArray} {l : List UInt8} (h : u.data.toList = l) : u = ⟨l.toArray⟩ := WideShapes.bytes_inj (by rw [h])
theorem lst_not {u : ByteArray} {l m : List UInt8} (h : u.data.toList = l) (hn : ¬ l = m) : ¬ u = ⟨m.toArray⟩ := by
  rintro rfl
  exact hn h.symm
theorem tail_n (a : Int) (rest : List N51) (hr : ¬ rest = []) : tailR a [110] rest = if (numR true (trimN rest)).2 = true then (a, (numR true (trimN rest)).1, true)
      else if (trimN rest).length < 2 ∨ ¬ seeK (trimN rest) = 9 ∨ (¬ txtF (trimN rest) = ⟨#[43]⟩ ∧ ¬ txtF (trimN rest) = ⟨#[45]⟩) then (0, 0, false)
      else if (numR false (trimN (trimN rest).tail)).2 = true then (a, if txtF (trimN rest) = ⟨#[45]⟩ then -(numR false (trimN (trimN rest).tail)).1 else (numR false (trimN (trimN rest).tail)).1, true)
      else (0, 0, false) := by
  have e : tailR a [110] rest = if rest = [] then (a, 0, true) else _ := rfl
  rw [e, if_neg hr]
theorem tail_nm (a : Int) (rest : List N51) : tailR a [110, 45] rest = if (numR false (trimN rest)).2 = true then (a, -(numR false (trimN rest)).1, true) else (0, 0, false) := rfl
theorem tail_nd (a : Int) (v : List UInt8) (rest : List N51) (h0 : ¬ v = []) (h1 : ¬ v = [45]) : tailR a (110 :: v) rest = if 0 < rest.length ∨ ¬ v.head? = some 45 then (0, 0, false) else if allD v.tail = true then (a, intL v, true) else (0, 0, false) := by
  unfold tailR
  simp only []
  rw [if_neg (by decide : ¬ ¬ (110 : UInt8).toNat = 110), if_neg h0, if_neg h1]
theorem numR_bd (sg : Bool) (l : List N51) (h : ∀ y, y ∈ l → GoodN y) : -2147483648 ≤ (numR sg l).1 ∧ (numR sg l).1 ≤ 2147483647 := by
  unfold numR
  split
  · next hl =>
    obtain ⟨x, rfl⟩ := List.length_eq_one_iff.1 hl
    have ev : nbrV sg [x] = if nbrB sg [x] then x.f0.f2 else 0 := rfl
    have hx := (h x (by simp)).2
    show -2147483648 ≤ nbrV sg [x] ∧ nbrV sg [x] ≤ 2147483647
    rw [ev]
    split
    · exact hx
    · omega
  · show -2147483648 ≤ (0 : Int) ∧ (0 : Int) ≤ 2147483647
    omega
theorem good_mem (l : List N51) : ∀ z, z ∈ trimN l → z ∈ l := by
  have key : ∀ (n : Nat) (l : List N51) (z : N51), z ∈ trimB n l → z ∈ l := by
    intro n
    induction n with
    | zero => intro l z h; exact h
    | succ n ih =>
      intro l z hx
      unfold trimB at hx
      split at hx
      · exact List.mem_of_mem_take (ih _ z hx)
      · exact hx
  intro z h
  exact (List.dropWhile_sublist whiN).mem (key _ _ z h)
theorem neg_w (q : Int) (h0 : -2147483648 ≤ q) (h1 : q ≤ 2147483647) : wrap64 (-q) = -q := by
  unfold wrap64; omega
theorem allD_at {u : ByteArray} {q : List UInt8} (h : u.data.toList = 110 :: 45 :: q) :
    (allD q = true → ∀ k, 2 ≤ k → k < u.size → 48 ≤ byteAt u k ∧ byteAt u k ≤ 57) ∧ (allD q = false → ∃ j, 2 ≤ j ∧ j < u.size ∧ (byteAt u j < 48 ∨ 57 < byteAt u j)) := by
  have hz : u.size = q.length + 2 := lst_size h
  have hb : ∀ i, i < q.length → byteAt u (i + 2) = ((q.getD i 0).toNat : Int) := by
    intro i hi
    unfold byteAt
    rw [h]
    rfl
  constructor
  · intro ha k h2 hk
    have hi : k - 2 < q.length := by omega
    have h1 := hb (k - 2) hi
    rw [show k - 2 + 2 = k by omega, List.getD_eq_getElem?_getD, List.getElem?_eq_getElem hi, Option.getD_some] at h1
    have h3 := List.all_eq_true.1 ha _ (List.getElem_mem hi)
    simp only [Bool.and_eq_true, decide_eq_true_eq] at h3
    omega
  · intro ha
    unfold allD at ha
    rw [List.all_eq_false] at ha
    obtain ⟨x, hx, hn⟩ := ha
    obtain ⟨i, hi, rfl⟩ := List.mem_iff_getElem.1 hx
    refine ⟨i + 2, by omega, by omega, ?_⟩
    rw [hb i hi, List.getD_eq_getElem?_getD, List.getElem?_eq_getElem hi, Option.getD_some]
    simp only [Bool.and_eq_true, decide_eq_true_eq] at hn
    omega
set_option maxHeartbeats 8000000 in
set_option maxRecDepth 100000 in
theorem anc_go (l : List N51) (hl : l.length ≤ 1000000000) {w : World} {A : Option Addr} {c : Nat} (h : Vt w A c l) (x : N51) (t : List N51) (m : List N51) (hmx : m = x :: t) (hm : trimN l = m) (hg : ∀ x, x ∈ m → GoodN x)
    (hop : ∀ j, j < m.length → kidB (m.getD j z51) = false) (a : Int) (u0 : ByteArray) (rest : List N51) (hgo : goR x t a u0 rest) (hzr : rest.length ≤ 1000000000) (hzu : u0.size ≤ 1000000000) (hgr : ∀ y, y ∈ rest → GoodN y) :
    Calls Tryd.prog 10 #[.slice A l.length c] w fun e w' => e = .returned (triV (tailR a u0.data.toList rest)) ∧ Below w.heap.size w w' := by
  obtain ⟨R, hR⟩ : ∃ R, tailR a u0.data.toList rest = R := ⟨_, rfl⟩
  rw [hR]
  have HV0 := Aside0.mk h
  have HM := Aside0.mk hm
  have HG := Aside0.mk hg
  have hz : m.length ≤ 1000000000 := by rw [← hm]; exact Nat.le_trans (trimN_len l) hl
  have HOP := Aside0.mk hop
  clear hop
  have HMX := Aside0.mk hmx
  have HR := Aside0.mk hR
  have HGO := Aside0.mk hgo
  have HGR := Aside0.mk hgr
  have HZR := Aside0.mk hzr
  have HZU := Aside0.mk hzu
  clear h hm hg hmx hR hgo hgr hzr hzu
  go_enter Tryd.func10, Tryd.ntmps10
  go_wp2_with (fail)
  refine (trimV l hl HV0.out).mono ?_
  rw [HM.out]
  rintro e w1 ⟨A2, c2, rfl, hv, hb⟩
  have HV := Aside0.mk hv
  have HB := Aside0.mk hb
  clear hv hb HV0 HM
  go_wp2_with (fail)
  obtain ⟨n, hn⟩ : ∃ n, m.length = n := ⟨_, rfl⟩
  rw [hn] at hz ⊢
  have HN := Aside0.mk hn
  clear hn
  go_loopg [5] n (fun gk v wr => ∃ k : Nat, n ≤ k + gk ∧ k ≤ n ∧ v = .int .i64 k ∧ w1 = wr)
  case atStart => exact ⟨0, by omega, by omega, rfl, rfl⟩
  case round =>
    obtain ⟨k, hkn, hkl, rfl, rfl⟩ := hrel
    by_cases hlt : k < n
    · as_aux_lemma =>
      obtain ⟨ad, A6, c6, hA2, x0, x1, x2, x3, x4, x5, x6, hl6, hi6⟩ := at_T51 (Kd.F_now HV.out.row) k (by omega) (by have := HN.out; omega)
      have HA2 := Aside0.mk hA2
      subst hA2
      have e0 : rd_T51 m k = m.getD k z51 := rfl
      rw [e0] at x0 x1 x2 x3 x4 x5 x6 hl6 hi6
      obtain ⟨x, hx⟩ : ∃ x, m.getD k z51 = x := ⟨_, rfl⟩
      rw [hx] at x0 x1 x2 x3 x4 x5 x6 hl6 hi6
      rw [Int.toNat_natCast] at x0 x1 x2 x3 x4 x5 x6
      have HX := Aside0.mk hx
      have hkn2 : (k : Int) < (n : Int) := by omega
      clear hx e0 hl6 hi6
      have hox := HOP.out k (by have := HN.out; omega)
      rw [HX.out] at hox
      have b1 : ¬ 0 < x.f1.length := of_decide_eq_false hox
      have b1i : decide ((0 : Int) < (x.f1.length : Int)) = false := decide_eq_false (by omega)
      have b1j : decide (0 < x.f1.length) = false := decide_eq_false (by omega)
      clear hox b1
      go_wp2
      go_roundg (gk - 1)
      case measure => omega
      case rel => exact ⟨k + 1, by omega, by omega, by go_num, rfl⟩
    · have hke : k = n := by omega
      clear hlt hkn hkl
      subst hke
      have hsl : decide ((k : Int) < (k : Int)) = false := decide_eq_false (by omega)
      have hvx : Vt w1 A2 c2 (x :: t) := by rw [← HMX.out]; exact HV.out
      obtain ⟨ad, A6, c6, hA2, x0, x1, x2, x3, x4, x5, x6⟩ := hvx.hd
      subst hA2
      have hlk : (x :: t).length = k := by rw [← HMX.out]; exact HN.out
      obtain ⟨A3, c3, hv3, hcut0⟩ := hvx.cut 1 (by simp)
      rw [hlk] at hcut0
      have hcut : ∀ W : World, (Instr.slice 23 (.slice (some ad) k c2) (some (.int .i64 1)) none none).run Tryd.prog W = .ok (.slice A3 t.length c3) W := hcut0
      have HV3 := Aside0.mk (show Vt w1 A3 c3 t from hv3)
      clear hcut0 hv3 hvx hlk
      have hk1 : k = t.length + 1 := by have := HN.out; rw [HMX.out] at this; simpa using this.symm
      have hk0 : ((k : Int) == 0) = false := beq_eq_false_iff_ne.2 (by omega)
      have hkp : decide ((0 : Int) < (k : Int)) = true := decide_eq_true (by omega)
      have hkq : decide (0 < k) = true := decide_eq_true (by omega)
      have hkr : (0 < k) = True := eq_true (by omega)
      have hki : ((0 : Int) < (k : Int)) = True := eq_true (by omega)
      have HK1 := Aside0.mk hk1
      clear hk1
      have hzx : x.f0.f1.size ≤ 1000000000 := (HG.out x (by rw [HMX.out]; simp)).1
      obtain ⟨u, hu⟩ : ∃ u, lowerB x.f0.f1 = u := ⟨_, rfl⟩
      have HU := Aside0.mk hu
      clear hu
      go_upto_block 2 with (go_at_call 25; refine (lowV x.f0.f1 hzx _).mono ?_; rw [HU.out]; rintro e w2 ⟨rfl, hb⟩; have hbk := (hb.block w1.heap.size (by simp)).trans (heap_alloc_new w1 _); obtain ⟨⟨y0, y1, y2, y3, y4, y5⟩, -⟩ := blk6 hbk; have HB2 := Aside0.mk ((below_alloc (Below.refl _ w1) _).trans (hb.mono (by simp))); clear hb hbk)
      go_cut [7, 8, 9] (fun v7 v8 v9 wc => ∃ (A3 : Option Addr) (c3 : Nat), v7 = .string u0 ∧ v8 = .int .i64 a ∧ v9 = .slice A3 rest.length c3 ∧ Aside0 (Vt wc A3 c3 rest) ∧ Aside0 (Below w.heap.size w wc))
      case first => as_aux_lemma =>
        rcases HGO.out with ⟨k1, h3, ra, ru, rr⟩ | ⟨z, k1, hp, htz, hz1, ra, ru⟩ | ⟨k1, ho, he, hd, ra, ru, rr⟩ | ⟨k1, ho, he, hd, ra, ru, rr⟩
        · as_aux_lemma =>
          subst ra
          subst rr
          obtain rfl : u = u0 := HU.out.symm.trans ru.symm
          clear ru
          have kk1 : (x.f0.f0 == 1) = false := beq_eq_false_iff_ne.2 (by omega)
          have kk10 : (x.f0.f0 == 10) = false := beq_eq_false_iff_ne.2 (by omega)
          have kk12 : (x.f0.f0 == 12) = true := beq_iff_eq.2 (by omega)
          rw [h3] at x3
          cases hkk : ((k : Int) == 1)
          all_goals
            (
            go_wp2_with (fail)
            go_meet
            case rel => exact ⟨A3, c3, rfl, rfl, rfl, ⟨HV3.out.below HB2.out⟩, ⟨HB.out.trans (HB2.out.mono HB.out.size)⟩⟩)
        · as_aux_lemma =>
          subst ra
          have HTZ := Aside0.mk htz
          subst htz
          have hk2 : 1 < k := by have := HK1.out; simp at this; omega
          have hkg : decide ((1 : Int) < (k : Int)) = true := decide_eq_true (by omega)
          have hkh : decide (1 < k) = true := decide_eq_true hk2
          have hkj : (1 < k) = True := eq_true hk2
          have hkl : ((1 : Int) < (k : Int)) = True := eq_true (by omega)
          have hkk : ((k : Int) == 1) = false := beq_eq_false_iff_ne.2 (by omega)
          have HVX := Aside0.mk (show Vt w1 (some ad) c2 (x :: z :: rest) by rw [← HMX.out]; exact HV.out)
          clear hk2
          have kk1 : (x.f0.f0 == 1) = false := beq_eq_false_iff_ne.2 (by omega)
          have kk10 : (x.f0.f0 == 10) = false := beq_eq_false_iff_ne.2 (by omega)
          have kk12 : (x.f0.f0 == 12) = false := beq_eq_false_iff_ne.2 (by omega)
          have kk9 : (x.f0.f0 == 9) = true := beq_iff_eq.2 (by omega)
          have e3 := str_eqT (show x.f0.f1 = ⟨[43].toArray⟩ from hp)
          have kz1 : (z.f0.f0 == 1) = true := beq_iff_eq.2 hz1
          have hzz : z.f0.f1.size ≤ 1000000000 := (HG.out z (by rw [HMX.out]; simp)).1
          obtain ⟨A5, c5, hv5, hcut5⟩ := HVX.out.cut 2 (by simp)
          rw [show (x :: z :: rest).length = k by rw [← HMX.out]; exact HN.out] at hcut5
          have hcut2 : ∀ W : World, (Instr.slice 23 (.slice (some ad) k c2) (some (.int .i64 2)) none none).run Tryd.prog W = .ok (.slice A5 rest.length c5) W := hcut5
          have HV5 := Aside0.mk (show Vt w1 A5 c5 rest from hv5)
          clear hcut5 hv5 hp hz1
          have HRU := Aside0.mk ru.symm
          clear ru
          obtain ⟨ad', e', z0, z1⟩ := (HVX.out.below HB2.out).two
          cases e'
          go_wp2_with (fail)
          refine (lowV z.f0.f1 hzz _).mono ?_
          rw [HRU.out]
          rintro e w3 ⟨rfl, hb⟩
          have HB3 := Aside0.mk (HB2.out.trans (hb.mono HB2.out.size))
          clear hb
          go_wp2_with (fail)
          go_meet
          case rel => exact ⟨A5, c5, rfl, rfl, rfl, ⟨HV5.out.below HB3.out⟩, ⟨HB.out.trans (HB3.out.mono HB.out.size)⟩⟩
        · as_aux_lemma =>
          subst ra
          subst rr
          have kk1 : (x.f0.f0 == 1) = true := beq_iff_eq.2 (by omega)
          have kk10 : (x.f0.f0 == 10) = false := beq_eq_false_iff_ne.2 (by omega)
          have kk12 : (x.f0.f0 == 12) = false := beq_eq_false_iff_ne.2 (by omega)
          have kk9 : (x.f0.f0 == 9) = false := beq_eq_false_iff_ne.2 (by omega)
          have ho2 : rest = [] → ¬ u = oddS := fun e1 e2 => ho ⟨e1, HU.out.trans e2⟩
          have he2 : rest = [] → ¬ u = evenS := fun e1 e2 => he ⟨e1, HU.out.trans e2⟩
          rw [HU.out] at hd ru
          have HO2 := Aside0.mk ho2
          have HE2 := Aside0.mk he2
          have HD := Aside0.mk hd
          clear ho he ho2 he2 hd k1
          obtain rfl := ru
          obtain ⟨v, hv⟩ : ∃ v, u.data.toList = 45 :: v := ⟨_, head_drop HD.out⟩
          have hs1 : 0 < u.size := by rw [lst_size hv]; exact Nat.zero_lt_succ _
          have hat := lst_at hv hs1
          rw [show (((45 : UInt8).toNat : Nat) : Int) = 45 from rfl] at hat
          clear hv
          have hd1 : decide ((0 : Int) < (u.size : Int)) = true := decide_eq_true (by omega)
          have hd2 : decide (0 < u.size) = true := decide_eq_true hs1
          cases hkk : ((k : Int) == 1)
          · go_wp2_with (fail)
            go_meet
            case rel => exact ⟨A3, c3, rfl, rfl, rfl, ⟨HV3.out.below HB2.out⟩, ⟨HB.out.trans (HB2.out.mono HB.out.size)⟩⟩
          · have ht0 : rest = [] := List.eq_nil_of_length_eq_zero (by have := HK1.out; have := beq_iff_eq.1 hkk; omega)
            have e1 := str_eqF (show ¬ u = ⟨[111, 100, 100].toArray⟩ from HO2.out ht0)
            have e2 := str_eqF (show ¬ u = ⟨[101, 118, 101, 110].toArray⟩ from HE2.out ht0)
            clear ht0
            go_wp2_with (fail)
            go_meet
            case rel => exact ⟨A3, c3, rfl, rfl, rfl, ⟨HV3.out.below HB2.out⟩, ⟨HB.out.trans (HB2.out.mono HB.out.size)⟩⟩
        · as_aux_lemma =>
          subst ra
          subst rr
          have kk1 : (x.f0.f0 == 1) = true := beq_iff_eq.2 (by omega)
          have kk10 : (x.f0.f0 == 10) = false := beq_eq_false_iff_ne.2 (by omega)
          have kk12 : (x.f0.f0 == 12) = false := beq_eq_false_iff_ne.2 (by omega)
          have kk9 : (x.f0.f0 == 9) = false := beq_eq_false_iff_ne.2 (by omega)
          have ho2 : rest = [] → ¬ u = oddS := fun e1 e2 => ho ⟨e1, HU.out.trans e2⟩
          have he2 : rest = [] → ¬ u = evenS := fun e1 e2 => he ⟨e1, HU.out.trans e2⟩
          rw [HU.out] at hd ru
          have HO2 := Aside0.mk ho2
          have HE2 := Aside0.mk he2
          have HD := Aside0.mk hd
          clear ho he ho2 he2 hd k1
          obtain rfl : u = u0 := ru.symm
          cases hv : u.data.toList with
          | nil =>
            have hs1 : u.size = 0 := lst_size hv
            have hd1 : decide ((0 : Int) < (u.size : Int)) = false := decide_eq_false (by omega)
            have hd2 : decide (0 < u.size) = false := decide_eq_false (by omega)
            clear hv
            cases hkk : ((k : Int) == 1)
            · go_wp2_with (fail)
              go_meet
              case rel => exact ⟨A3, c3, rfl, rfl, rfl, ⟨HV3.out.below HB2.out⟩, ⟨HB.out.trans (HB2.out.mono HB.out.size)⟩⟩
            · have ht0 : rest = [] := List.eq_nil_of_length_eq_zero (by have := HK1.out; have := beq_iff_eq.1 hkk; omega)
              have e1 := str_eqF (show ¬ u = ⟨[111, 100, 100].toArray⟩ from HO2.out ht0)
              have e2 := str_eqF (show ¬ u = ⟨[101, 118, 101, 110].toArray⟩ from HE2.out ht0)
              clear ht0
              go_wp2_with (fail)
              go_meet
              case rel => exact ⟨A3, c3, rfl, rfl, rfl, ⟨HV3.out.below HB2.out⟩, ⟨HB.out.trans (HB2.out.mono HB.out.size)⟩⟩
          | cons b v =>
            have hs1 : 0 < u.size := by rw [lst_size hv]; exact Nat.zero_lt_succ _
            have hat := lst_at hv hs1
            have hnb : ((b.toNat : Int) == 45) = false := beq_eq_false_iff_ne.2 (fun e => HD.out (by rw [hv, show b = 45 from UInt8.toNat_inj.1 (by have : (45 : UInt8).toNat = 45 := rfl; omega)]; rfl))
            clear hv
            have hd1 : decide ((0 : Int) < (u.size : Int)) = true := decide_eq_true (by omega)
            have hd2 : decide (0 < u.size) = true := decide_eq_true hs1
            cases hkk : ((k : Int) == 1)
            · go_wp2_with (fail)
              go_meet
              case rel => exact ⟨A3, c3, rfl, rfl, rfl, ⟨HV3.out.below HB2.out⟩, ⟨HB.out.trans (HB2.out.mono HB.out.size)⟩⟩
            · have ht0 : rest = [] := List.eq_nil_of_length_eq_zero (by have := HK1.out; have := beq_iff_eq.1 hkk; omega)
              have e1 := str_eqF (show ¬ u = ⟨[111, 100, 100].toArray⟩ from HO2.out ht0)
              have e2 := str_eqF (show ¬ u = ⟨[101, 118, 101, 110].toArray⟩ from HE2.out ht0)
              clear ht0
              go_wp2_with (fail)
              go_meet
              case rel => exact ⟨A3, c3, rfl, rfl, rfl, ⟨HV3.out.below HB2.out⟩, ⟨HB.out.trans (HB2.out.mono HB.out.size)⟩⟩
      case rest => as_aux_lemma =>
        obtain ⟨A3, c3, rfl, rfl, rfl, HV3, HB3⟩ := hcut
        clear HGO HMX HN HV HB HG HOP
        have hzr := HZR.out
        have hzu := HZU.out
        cases hU : u0.data.toList with
        | nil => as_aux_lemma =>
          have hs0 : u0.size = 0 := lst_size hU
          have hz0 : ((u0.size : Int) == 0) = true := beq_iff_eq.2 (by omega)
          have HT : Aside0 (R = (0, 0, false)) := ⟨by rw [← HR.out, hU]; rfl⟩
          clear hU
          go_wp2_with (fail)
          go_ret3
          exact ⟨by rw [HT.out]; rfl, HB3.out⟩
        | cons b v =>
          have hs1 : 0 < u0.size := by rw [lst_size hU]; exact Nat.zero_lt_succ _
          have hat := lst_at hU hs1
          have hz0 : ((u0.size : Int) == 0) = false := beq_eq_false_iff_ne.2 (by omega)
          by_cases hb : b.toNat = 110
          · have hbt : ((b.toNat : Int) != 110) = false := bne_eq_false_iff_eq.2 (by omega)
            obtain rfl : b = 110 := UInt8.toNat_inj.1 (by rw [hb]; rfl)
            clear hb
            by_cases hv0 : v = []
            · subst hv0
              have e1 := str_eqT (show u0 = ⟨[110].toArray⟩ from lst_is hU)
              by_cases hr0 : rest = []
              · as_aux_lemma =>
                have hl0 : ((rest.length : Int) == 0) = true := beq_iff_eq.2 (by rw [hr0]; rfl)
                have HT : Aside0 (R = (a, 0, true)) := ⟨by rw [← HR.out, hU, hr0]; rfl⟩
                clear hU hr0
                go_wp2_with (fail)
                refine (trimV rest hzr HV3.out).mono ?_
                obtain ⟨m4, hm4⟩ : ∃ m4, trimN rest = m4 := ⟨_, rfl⟩
                rw [hm4]
                rintro e w4 ⟨A4, c4, rfl, hv4, hb4⟩
                have HV4 := Aside0.mk hv4
                have HB4 := Aside0.mk (HB3.out.trans (hb4.mono HB3.out.size))
                have HM4 := Aside0.mk hm4
                have hm4x := hm4
                clear hv4 hb4 hm4
                go_wp2_with (fail)
                go_ret3
                exact ⟨by rw [HT.out]; rfl, HB4.out⟩
              · have hl0 : ((rest.length : Int) == 0) = false := beq_eq_false_iff_ne.2 (fun e => hr0 (List.eq_nil_of_length_eq_zero (by omega)))
                have HTL := Aside0.mk ((show tailR a [110] rest = R by rw [← hU]; exact HR.out).symm.trans (tail_n a rest hr0))
                clear hU hr0
                as_aux_lemma =>
                go_wp2_with (fail)
                refine (trimV rest hzr HV3.out).mono ?_
                obtain ⟨m4, hm4⟩ : ∃ m4, trimN rest = m4 := ⟨_, rfl⟩
                rw [hm4]
                rintro e w4 ⟨A4, c4, rfl, hv4, hb4⟩
                have HV4 := Aside0.mk hv4
                have HB4 := Aside0.mk (HB3.out.trans (hb4.mono HB3.out.size))
                have HM4 := Aside0.mk hm4
                have hm4x := hm4
                clear hv4 hb4 hm4
                rw [hm4x] at HTL
                have HZ4 := Aside0.mk (show m4.length ≤ 1000000000 by rw [← HM4.out]; exact Nat.le_trans (trimN_len rest) hzr)
                cases hq2 : (numR true m4).2 with
                | true =>
                  have hq1 : ∃ q, (numR true m4).1 = q := ⟨_, rfl⟩
                  obtain ⟨q, hq1⟩ := hq1
                  have hcall := numV m4 true HV4.out
                  rw [hq1, hq2] at hcall
                  go_wp2_with (fail)
                  refine hcall.mono ?_
                  clear hcall
                  rintro e w5 ⟨rfl, hb5⟩
                  have HQ1 := Aside0.mk hq1
                  clear hq1
                  have HT : Aside0 (R = (a, q, true)) := ⟨by rw [HTL.out, if_pos hq2, HQ1.out]⟩
                  clear hq2
                  go_wp2_with (fail)
                  go_ret3
                  exact ⟨by rw [HT.out]; rfl, HB4.out.trans (hb5.mono HB4.out.size)⟩
                | false =>
                  have hq1 : ∃ q, (numR true m4).1 = q := ⟨_, rfl⟩
                  obtain ⟨q, hq1⟩ := hq1
                  have hcall := numV m4 true HV4.out
                  rw [hq1, hq2] at hcall
                  go_wp2_with (fail)
                  refine hcall.mono ?_
                  clear hcall
                  rintro e w5 ⟨rfl, hb5⟩
                  have HQ1 := Aside0.mk hq1
                  clear hq1
                  have HTL2 := Aside0.mk (HTL.out.trans (if_neg (by rw [hq2]; simp)))
                  have HB5 := Aside0.mk (HB4.out.trans (hb5.mono HB4.out.size))
                  have HV5 := Aside0.mk (HV4.out.below hb5)
                  clear hq2 HTL HQ1 hb5
                  by_cases hlen : m4.length < 2
                  · have hl2 : decide ((m4.length : Int) < 2) = true := decide_eq_true (by omega)
                    have HT : Aside0 (R = (0, 0, false)) := ⟨by rw [HTL2.out, if_pos (.inl hlen)]⟩
                    clear hlen
                    go_wp2_with (fail)
                    go_ret3
                    exact ⟨by rw [HT.out]; rfl, HB5.out⟩
                  · obtain ⟨y, t4, hy⟩ : ∃ y t4, m4 = y :: t4 := by
                      cases m4 with
                      | nil => exact absurd (Nat.zero_lt_succ 1) hlen
                      | cons y t4 => exact ⟨y, t4, rfl⟩
                    have hl2 : decide ((m4.length : Int) < 2) = false := decide_eq_false (by omega)
                    obtain ⟨n4, hn4⟩ : ∃ n4, m4.length = n4 := ⟨_, rfl⟩
                    have HN4 := Aside0.mk hn4
                    have HY := Aside0.mk hy
                    have HL := Aside0.mk hlen
                    clear hlen hy
                    rw [hn4] at hl2
                    rw [hn4]
                    clear hn4
                    have hvx : Vt w5 A4 c4 (y :: t4) := by rw [← HY.out]; exact HV5.out
                    obtain ⟨ad5, A6', c6', hA5, p0, p1, p2, p3, p4, p5, p6⟩ := hvx.hd
                    subst hA5
                    clear p2 p3 p4 p5 p6
                    have hpn : (0 < n4) = True := eq_true (by have := HL.out; have := HN4.out; omega)
                    have hpi : ((0 : Int) < (n4 : Int)) = True := eq_true (by have := HL.out; have := HN4.out; omega)
                    by_cases hk9 : y.f0.f0 = 9
                    · have k9 : (y.f0.f0 != 9) = false := bne_eq_false_iff_eq.2 hk9
                      by_cases hpl : y.f0.f1 = ⟨#[43]⟩
                      · have s1 := str_eqT (show y.f0.f1 = ⟨[43].toArray⟩ from hpl)
                        have s2 := str_eqF (show ¬ y.f0.f1 = ⟨[45].toArray⟩ from by rw [hpl]; decide)
                        have HTL3 : Aside0 (R = if (numR false (trimN t4)).2 = true then (a, (numR false (trimN t4)).1, true) else (0, 0, false)) := ⟨by
                          rw [HTL2.out, if_neg (by
                            rintro (h | h | ⟨h, h'⟩)
                            · exact HL.out h
                            · exact h (by rw [HY.out]; exact hk9)
                            · exact h (by rw [HY.out]; exact hpl)), show m4.tail = t4 by rw [HY.out]; rfl, if_neg (show ¬ txtF m4 = ⟨#[45]⟩ by rw [HY.out]; show ¬ y.f0.f1 = _; rw [hpl]; decide)]⟩
                        have HG4 := Aside0.mk (fun z hz => HGR.out z (good_mem rest z (by rw [HM4.out, HY.out]; exact List.mem_cons_of_mem _ hz)))
                        obtain ⟨A5, c5, hv5, hcut5⟩ := hvx.cut 1 (by simp)
                        rw [show (y :: t4).length = n4 by rw [← HY.out]; exact HN4.out] at hcut5
                        have hcut4 : ∀ W : World, (Instr.slice 23 (.slice (some ad5) n4 c4) (some (.int .i64 1)) none none).run Tryd.prog W = .ok (.slice A5 t4.length c5) W := hcut5
                        have HV6 := Aside0.mk (show Vt w5 A5 c5 t4 from hv5)
                        have HVX := Aside0.mk hvx
                        have hz6 : t4.length ≤ 1000000000 := by have := HZ4.out; rw [HY.out] at this; simp at this; omega
                        clear hcut5 hv5 hvx hk9 hpl HTL2
                        go_wp2_with (fail)
                        refine (trimV t4 hz6 HV6.out).mono ?_
                        obtain ⟨m6, hm6⟩ : ∃ m6, trimN t4 = m6 := ⟨_, rfl⟩
                        rw [hm6] at HTL3 ⊢
                        rintro e w6 ⟨A6, c6, rfl, hv6, hb6⟩
                        have HV7 := Aside0.mk hv6
                        have HB6 := Aside0.mk (HB5.out.trans (hb6.mono HB5.out.size))
                        have HB56 := Aside0.mk hb6
                        have HQB := Aside0.mk (numR_bd false m6 (fun z hz => HG4.out z (good_mem t4 z (by rw [hm6]; exact hz))))
                        clear hv6 hb6 hm6 p0 p1
                        cases hq3 : (numR false m6).2 with
                        | true =>
                          have hq1 : ∃ q, (numR false m6).1 = q := ⟨_, rfl⟩
                          obtain ⟨q, hq1⟩ := hq1
                          have hcall := numV m6 false HV7.out
                          rw [hq1] at HQB
                          rw [hq1, hq3] at hcall
                          go_wp2_with (fail)
                          refine hcall.mono ?_
                          clear hcall
                          rintro e w7 ⟨rfl, hb7⟩
                          have HQ1 := Aside0.mk hq1
                          clear hq1
                          obtain ⟨ad6, A6', c6', hA6, p0, p1, p2, p3, p4, p5, p6⟩ := ((HVX.out.below HB56.out).below (hb7.mono (Nat.le_refl _))).hd
                          cases hA6
                          have HT : Aside0 (R = (a, q, true)) := ⟨by rw [HTL3.out, if_pos hq3, HQ1.out]⟩
                          clear hq3
                          go_wp2_with (fail)
                          go_ret3
                          exact ⟨by rw [HT.out]; rfl, HB6.out.trans (hb7.mono HB6.out.size)⟩
                        | false =>
                          have hq1 : ∃ q, (numR false m6).1 = q := ⟨_, rfl⟩
                          obtain ⟨q, hq1⟩ := hq1
                          have hcall := numV m6 false HV7.out
                          rw [hq1, hq3] at hcall
                          go_wp2_with (fail)
                          refine hcall.mono ?_
                          clear hcall
                          rintro e w7 ⟨rfl, hb7⟩
                          have HQ1 := Aside0.mk hq1
                          clear hq1
                          obtain ⟨ad6, A6', c6', hA6, p0, p1, p2, p3, p4, p5, p6⟩ := ((HVX.out.below HB56.out).below (hb7.mono (Nat.le_refl _))).hd
                          cases hA6
                          have HT : Aside0 (R = (0, 0, false)) := ⟨by rw [HTL3.out, if_neg (by rw [hq3]; simp)]⟩
                          clear hq3
                          go_wp2_with (fail)
                          go_ret3
                          exact ⟨by rw [HT.out]; rfl, HB6.out.trans (hb7.mono HB6.out.size)⟩
                      · have s1 := str_eqF (show ¬ y.f0.f1 = ⟨[43].toArray⟩ from hpl)
                        by_cases hmi : y.f0.f1 = ⟨#[45]⟩
                        · have s2 := str_eqT (show y.f0.f1 = ⟨[45].toArray⟩ from hmi)
                          have HTL3 : Aside0 (R = if (numR false (trimN t4)).2 = true then (a, -(numR false (trimN t4)).1, true) else (0, 0, false)) := ⟨by
                            rw [HTL2.out, if_neg (by
                              rintro (h | h | ⟨h, h'⟩)
                              · exact HL.out h
                              · exact h (by rw [HY.out]; exact hk9)
                              · exact h' (by rw [HY.out]; exact hmi)), show m4.tail = t4 by rw [HY.out]; rfl, if_pos (show txtF m4 = ⟨#[45]⟩ by rw [HY.out]; exact hmi)]⟩
                          have HG4 := Aside0.mk (fun z hz => HGR.out z (good_mem rest z (by rw [HM4.out, HY.out]; exact List.mem_cons_of_mem _ hz)))
                          obtain ⟨A5, c5, hv5, hcut5⟩ := hvx.cut 1 (by simp)
                          rw [show (y :: t4).length = n4 by rw [← HY.out]; exact HN4.out] at hcut5
                          have hcut4 : ∀ W : World, (Instr.slice 23 (.slice (some ad5) n4 c4) (some (.int .i64 1)) none none).run Tryd.prog W = .ok (.slice A5 t4.length c5) W := hcut5
                          have HV6 := Aside0.mk (show Vt w5 A5 c5 t4 from hv5)
                          have HVX := Aside0.mk hvx
                          have hz6 : t4.length ≤ 1000000000 := by have := HZ4.out; rw [HY.out] at this; simp at this; omega
                          clear hcut5 hv5 hvx hk9 hpl hmi HTL2
                          go_wp2_with (fail)
                          refine (trimV t4 hz6 HV6.out).mono ?_
                          obtain ⟨m6, hm6⟩ : ∃ m6, trimN t4 = m6 := ⟨_, rfl⟩
                          rw [hm6] at HTL3 ⊢
                          rintro e w6 ⟨A6, c6, rfl, hv6, hb6⟩
                          have HV7 := Aside0.mk hv6
                          have HB6 := Aside0.mk (HB5.out.trans (hb6.mono HB5.out.size))
                          have HB56 := Aside0.mk hb6
                          have HQB := Aside0.mk (numR_bd false m6 (fun z hz => HG4.out z (good_mem t4 z (by rw [hm6]; exact hz))))
                          clear hv6 hb6 hm6 p0 p1
                          cases hq3 : (numR false m6).2 with
                          | true =>
                            have hq1 : ∃ q, (numR false m6).1 = q := ⟨_, rfl⟩
                            obtain ⟨q, hq1⟩ := hq1
                            have hcall := numV m6 false HV7.out
                            rw [hq1] at HQB
                            rw [hq1, hq3] at hcall
                            go_wp2_with (fail)
                            refine hcall.mono ?_
                            clear hcall
                            rintro e w7 ⟨rfl, hb7⟩
                            have HQ1 := Aside0.mk hq1
                            clear hq1
                            obtain ⟨ad6, A6', c6', hA6, p0, p1, p2, p3, p4, p5, p6⟩ := ((HVX.out.below HB56.out).below (hb7.mono (Nat.le_refl _))).hd
                            cases hA6
                            have HT : Aside0 (R = (a, -q, true)) := ⟨by rw [HTL3.out, if_pos hq3, HQ1.out]⟩
                            clear hq3
                            go_wp2_with (fail)
                            go_ret3
                            exact ⟨by rw [HT.out]; simp [triV, neg_w q HQB.out.1 HQB.out.2], HB6.out.trans (hb7.mono HB6.out.size)⟩
                          | false =>
                            have hq1 : ∃ q, (numR false m6).1 = q := ⟨_, rfl⟩
                            obtain ⟨q, hq1⟩ := hq1
                            have hcall := numV m6 false HV7.out
                            rw [hq1, hq3] at hcall
                            go_wp2_with (fail)
                            refine hcall.mono ?_
                            clear hcall
                            rintro e w7 ⟨rfl, hb7⟩
                            have HQ1 := Aside0.mk hq1
                            clear hq1
                            obtain ⟨ad6, A6', c6', hA6, p0, p1, p2, p3, p4, p5, p6⟩ := ((HVX.out.below HB56.out).below (hb7.mono (Nat.le_refl _))).hd
                            cases hA6
                            have HT : Aside0 (R = (0, 0, false)) := ⟨by rw [HTL3.out, if_neg (by rw [hq3]; simp)]⟩
                            clear hq3
                            go_wp2_with (fail)
                            go_ret3
                            exact ⟨by rw [HT.out]; rfl, HB6.out.trans (hb7.mono HB6.out.size)⟩
                        · have s2 := str_eqF (show ¬ y.f0.f1 = ⟨[45].toArray⟩ from hmi)
                          have HT : Aside0 (R = (0, 0, false)) := ⟨by rw [HTL2.out, if_pos (.inr (.inr (by rw [HY.out]; exact ⟨hpl, hmi⟩)))]⟩
                          clear hk9 hpl hmi
                          go_wp2_with (fail)
                          go_ret3
                          exact ⟨by rw [HT.out]; rfl, HB5.out⟩
                    · have k9 : (y.f0.f0 != 9) = true := bne_iff_ne.2 hk9
                      have HT : Aside0 (R = (0, 0, false)) := ⟨by rw [HTL2.out, if_pos (.inr (.inl (by rw [HY.out]; exact hk9)))]⟩
                      clear hk9
                      go_wp2_with (fail)
                      go_ret3
                      exact ⟨by rw [HT.out]; rfl, HB5.out⟩
            · have e1 := str_eqF (show ¬ u0 = ⟨[110].toArray⟩ from lst_not hU (by intro e; injection e with _ e; exact hv0 e))
              by_cases hv1 : v = [45]
              · subst hv1
                have e2 := str_eqT (show u0 = ⟨[110, 45].toArray⟩ from lst_is hU)
                have HTL := Aside0.mk ((show tailR a [110, 45] rest = R by rw [← hU]; exact HR.out).symm.trans (tail_nm a rest))
                clear hU hv0
                as_aux_lemma =>
                  go_wp2_with (fail)
                  refine (trimV rest hzr HV3.out).mono ?_
                  obtain ⟨m4, hm4⟩ : ∃ m4, trimN rest = m4 := ⟨_, rfl⟩
                  rw [hm4]
                  rintro e w4 ⟨A4, c4, rfl, hv4, hb4⟩
                  have HV4 := Aside0.mk hv4
                  have HB4 := Aside0.mk (HB3.out.trans (hb4.mono HB3.out.size))
                  have HM4 := Aside0.mk hm4
                  have hm4x := hm4
                  clear hv4 hb4 hm4
                  rw [hm4x] at HTL
                  have HQB := Aside0.mk (numR_bd false m4 (fun z hz => HGR.out z (good_mem rest z (by rw [HM4.out]; exact hz))))
                  cases hq2 : (numR false m4).2 with
                  | true =>
                    have hq1 : ∃ q, (numR false m4).1 = q := ⟨_, rfl⟩
                    obtain ⟨q, hq1⟩ := hq1
                    have hcall := numV m4 false HV4.out
                    rw [hq1] at HQB
                    rw [hq1, hq2] at hcall
                    go_wp2_with (fail)
                    refine hcall.mono ?_
                    clear hcall
                    rintro e w5 ⟨rfl, hb5⟩
                    have HQ1 := Aside0.mk hq1
                    clear hq1
                    have HT : Aside0 (R = (a, -q, true)) := ⟨by rw [HTL.out, if_pos hq2, HQ1.out]⟩
                    clear hq2
                    go_wp2_with (fail)
                    go_ret3
                    exact ⟨by rw [HT.out]; simp [triV, neg_w q HQB.out.1 HQB.out.2], HB4.out.trans (hb5.mono HB4.out.size)⟩
                  | false =>
                    have hq1 : ∃ q, (numR false m4).1 = q := ⟨_, rfl⟩
                    obtain ⟨q, hq1⟩ := hq1
                    have hcall := numV m4 false HV4.out
                    rw [hq1, hq2] at hcall
                    go_wp2_with (fail)
                    refine hcall.mono ?_
                    clear hcall
                    rintro e w5 ⟨rfl, hb5⟩
                    have HQ1 := Aside0.mk hq1
                    clear hq1
                    have HT : Aside0 (R = (0, 0, false)) := ⟨by rw [HTL.out, if_neg (by rw [hq2]; simp)]⟩
                    clear hq2
                    go_wp2_with (fail)
                    go_ret3
                    exact ⟨by rw [HT.out]; rfl, HB4.out.trans (hb5.mono HB4.out.size)⟩
              · have e2 := str_eqF (show ¬ u0 = ⟨[110, 45].toArray⟩ from lst_not hU (by intro e; injection e with _ e; exact hv1 e))
                have HTL := Aside0.mk ((show tailR a (110 :: v) rest = R by rw [← hU]; exact HR.out).symm.trans (tail_nd a v rest hv0 hv1))
                obtain ⟨c, q, hvq⟩ : ∃ c q, v = c :: q := by
                  cases v with
                  | nil => exact absurd rfl hv0
                  | cons c q => exact ⟨c, q, rfl⟩
                subst hvq
                have hs2 : 1 < u0.size := by rw [lst_size hU]; simp
                have hat1 := lst_at1 hU hs2
                clear hv0 hv1
                by_cases hrl : 0 < rest.length
                · as_aux_lemma =>
                  have hr1 : decide ((0 : Int) < (rest.length : Int)) = true := decide_eq_true (by omega)
                  have hr2 : decide (0 < rest.length) = true := decide_eq_true hrl
                  have HT : Aside0 (R = (0, 0, false)) := ⟨by rw [HTL.out, if_pos (.inl hrl)]⟩
                  clear hrl hU
                  go_wp2_with (fail)
                  refine (trimV rest hzr HV3.out).mono ?_
                  obtain ⟨m4, hm4⟩ : ∃ m4, trimN rest = m4 := ⟨_, rfl⟩
                  rw [hm4]
                  rintro e w4 ⟨A4, c4, rfl, hv4, hb4⟩
                  have HV4 := Aside0.mk hv4
                  have HB4 := Aside0.mk (HB3.out.trans (hb4.mono HB3.out.size))
                  have HM4 := Aside0.mk hm4
                  have hm4x := hm4
                  clear hv4 hb4 hm4
                  go_wp2_with (fail)
                  go_ret3
                  exact ⟨by rw [HT.out]; rfl, HB4.out⟩
                · have hr1 : decide ((0 : Int) < (rest.length : Int)) = false := decide_eq_false (by omega)
                  have hr2 : decide (0 < rest.length) = false := decide_eq_false hrl
                  by_cases h45 : c.toNat = 45
                  · have b45 : ((c.toNat : Int) != 45) = false := bne_eq_false_iff_eq.2 (by omega)
                    obtain rfl : c = 45 := UInt8.toNat_inj.1 (by rw [h45]; rfl)
                    have HTL2 := Aside0.mk (HTL.out.trans (if_neg (by rintro (h | h); exact hrl h; exact h rfl)))
                    have HDG := Aside0.mk (allD_at hU)
                    have HU := Aside0.mk hU
                    clear hrl hU h45 HTL
                    cases hal : allD q with
                    | true => as_aux_lemma =>
                      have HAL := Aside0.mk (HDG.out.1 hal)
                      have HTL3 := Aside0.mk (HTL2.out.trans (if_pos hal))
                      have hzi : (u0.extract 1 u0.size).size ≤ 1000000000 := by rw [extract_one_size]; omega
                      have HT : Aside0 (R = (a, intP (u0.extract 1 u0.size), true)) := ⟨by rw [HTL3.out]; unfold intP; rw [extract_one, HU.out]; rfl⟩
                      have HZI := Aside0.mk hzi
                      clear hal HTL2 hzi
                      go_wp2_with (fail)
                      refine (trimV rest hzr HV3.out).mono ?_
                      obtain ⟨m4, hm4⟩ : ∃ m4, trimN rest = m4 := ⟨_, rfl⟩
                      rw [hm4]
                      rintro e w4 ⟨A4, c4, rfl, hv4, hb4⟩
                      have HV4 := Aside0.mk hv4
                      have HB4 := Aside0.mk (HB3.out.trans (hb4.mono HB3.out.size))
                      have HM4 := Aside0.mk hm4
                      have hm4x := hm4
                      clear hv4 hb4 hm4
                      have HBW := Aside0.mk HB4.out
                      clear HB4
                      go_wp2_with (fail)
                      go_loopg [15] u0.size (fun gk v wr => ∃ k : Nat, u0.size ≤ k + gk ∧ 2 ≤ k ∧ k ≤ u0.size ∧ v = .int .i64 k ∧ w4 = wr)
                      case atStart => exact ⟨2, by omega, by omega, by omega, rfl, rfl⟩
                      case round =>
                        obtain ⟨k, hkn, hk2, hkl, rfl, rfl⟩ := hrel
                        by_cases hlt : k < u0.size
                        · have hat2 := at_byte u0 k hlt
                          obtain ⟨hd1, hd2⟩ := HAL.out k hk2 hlt
                          obtain ⟨d, hd⟩ : ∃ d, byteAt u0 k = d := ⟨_, rfl⟩
                          rw [hd] at hat2 hd1 hd2
                          have hk1 : decide ((k : Int) < (u0.size : Int)) = true := decide_eq_true (by omega)
                          have hd3 : decide (d < 48) = false := decide_eq_false (by omega)
                          have hd4 : decide (57 < d) = false := decide_eq_false (by omega)
                          clear hd hd1 hd2
                          go_wp2_with (fail)
                          go_roundg (gk - 1)
                          case measure => omega
                          case rel => exact ⟨k + 1, by omega, by omega, by omega, by go_num, rfl⟩
                        · have hke : k = u0.size := by omega
                          clear hlt hkn hkl
                          subst hke
                          have hk1 : decide ((u0.size : Int) < (u0.size : Int)) = false := decide_eq_false (by omega)
                          go_wp2_with (fail)
                          refine (intV (u0.extract 1 u0.size) HZI.out _).mono ?_
                          rintro e w5 ⟨rfl, hb5⟩
                          go_wp2_with (fail)
                          go_ret3
                          exact ⟨by rw [HT.out]; rfl, HBW.out.trans (hb5.mono HBW.out.size)⟩
                    | false => as_aux_lemma =>
                      obtain ⟨j, hj2, hjl, hjd⟩ := HDG.out.2 hal
                      have HJD := Aside0.mk hjd
                      have HT : Aside0 (R = (0, 0, false)) := ⟨by rw [HTL2.out]; exact if_neg (by show ¬ allD q = true; rw [hal]; simp)⟩
                      clear hal HTL2 hjd
                      go_wp2_with (fail)
                      refine (trimV rest hzr HV3.out).mono ?_
                      obtain ⟨m4, hm4⟩ : ∃ m4, trimN rest = m4 := ⟨_, rfl⟩
                      rw [hm4]
                      rintro e w4 ⟨A4, c4, rfl, hv4, hb4⟩
                      have HV4 := Aside0.mk hv4
                      have HB4 := Aside0.mk (HB3.out.trans (hb4.mono HB3.out.size))
                      have HM4 := Aside0.mk hm4
                      have hm4x := hm4
                      clear hv4 hb4 hm4
                      have HBW := Aside0.mk HB4.out
                      clear HB4
                      go_wp2_with (fail)
                      go_loopg [15] u0.size (fun gk v wr => ∃ k : Nat, u0.size ≤ k + gk ∧ 2 ≤ k ∧ k ≤ j ∧ v = .int .i64 k ∧ w4 = wr)
                      case atStart => exact ⟨2, by omega, by omega, by omega, rfl, rfl⟩
                      case round =>
                        obtain ⟨k, hkn, hk2, hkl, rfl, rfl⟩ := hrel
                        have hlt : k < u0.size := by omega
                        have hat2 := at_byte u0 k hlt
                        obtain ⟨d, hd⟩ : ∃ d, byteAt u0 k = d := ⟨_, rfl⟩
                        have HD := Aside0.mk hd
                        rw [hd] at hat2
                        have hk1 : decide ((k : Int) < (u0.size : Int)) = true := decide_eq_true (by omega)
                        clear hd
                        by_cases hd1 : d < 48
                        · have hd3 : decide (d < 48) = true := decide_eq_true hd1
                          clear hd1
                          go_wp2_with (fail)
                          go_ret3
                          exact ⟨by rw [HT.out]; rfl, HBW.out⟩
                        · have hd3 : decide (d < 48) = false := decide_eq_false hd1
                          by_cases hd2 : 57 < d
                          · have hd4 : decide (57 < d) = true := decide_eq_true hd2
                            clear hd1 hd2
                            go_wp2_with (fail)
                            go_ret3
                            exact ⟨by rw [HT.out]; rfl, HBW.out⟩
                          · have hd4 : decide (57 < d) = false := decide_eq_false hd2
                            have hkj : k < j := by
                              rcases Nat.lt_or_ge k j with h | h
                              · exact h
                              · have e : k = j := by omega
                                subst e
                                have h2 := HJD.out
                                rw [HD.out] at h2
                                omega
                            have HKJ := Aside0.mk hkj
                            clear hd1 hd2 hkj
                            go_wp2_with (fail)
                            go_roundg (gk - 1)
                            case measure => omega
                            case rel => exact ⟨k + 1, by omega, by omega, HKJ.out, by go_num, rfl⟩
                  · as_aux_lemma =>
                    have b45 : ((c.toNat : Int) != 45) = true := bne_iff_ne.2 (by omega)
                    have HT : Aside0 (R = (0, 0, false)) := ⟨by rw [HTL.out, if_pos (.inr (by intro e; injection e with e; exact h45 (by rw [e]; rfl)))]⟩
                    clear hrl hU h45
                    go_wp2_with (fail)
                    refine (trimV rest hzr HV3.out).mono ?_
                    obtain ⟨m4, hm4⟩ : ∃ m4, trimN rest = m4 := ⟨_, rfl⟩
                    rw [hm4]
                    rintro e w4 ⟨A4, c4, rfl, hv4, hb4⟩
                    have HV4 := Aside0.mk hv4
                    have HB4 := Aside0.mk (HB3.out.trans (hb4.mono HB3.out.size))
                    have HM4 := Aside0.mk hm4
                    have hm4x := hm4
                    clear hv4 hb4 hm4
                    go_wp2_with (fail)
                    go_ret3
                    exact ⟨by rw [HT.out]; rfl, HB4.out⟩
          · as_aux_lemma =>
            have hbt : ((b.toNat : Int) != 110) = true := bne_iff_ne.2 (by omega)
            have HT : Aside0 (R = (0, 0, false)) := ⟨by rw [← HR.out, hU]; exact tail_no a rest (by intro e; injection e with e; exact hb (by rw [e]; rfl))⟩
            clear hU hb
            go_wp2_with (fail)
            go_ret3
            exact ⟨by rw [HT.out]; rfl, HB3.out⟩

theorem anc_cons (x : N51) (t : List N51) (h : ¬ (x :: t).any kidB = true) : ancR (x :: t) = headR x t := by
  unfold ancR
  rw [if_neg h]
theorem Anb_c (l : List N51) (hl : l.length ≤ 1000000000) {w : World} {A : Option Addr} {c : Nat} (h : Vt w A c l) (hg : ∀ x, x ∈ l → GoodN x) :
    Calls Tryd.prog 10 #[.slice A l.length c] w fun e w' => e = .returned (triV (ancR (trimN l))) ∧ Below w.heap.size w w' := by
  have hgm : ∀ x, x ∈ trimN l → GoodN x := good_trimN hg
  have hzm : (trimN l).length ≤ 1000000000 := Nat.le_trans (trimN_len l) hl
  obtain ⟨m, hm⟩ : ∃ m, trimN l = m := ⟨_, rfl⟩
  rw [hm] at hgm hzm ⊢
  rcases kid_first m with hop | ⟨q, hq, hop⟩
  · have hk : ¬ m.any kidB = true := by
      intro e
      obtain ⟨x, hx, hb⟩ := List.any_eq_true.1 e
      obtain ⟨i, hi, rfl⟩ := List.mem_iff_getElem.1 hx
      have h1 := hop i hi
      rw [List.getD_eq_getElem?_getD, List.getElem?_eq_getElem hi, Option.getD_some, hb] at h1
      cases h1
    cases hmx : m with
    | nil => exact anc_nil l hl h m hm hgm hop hmx
    | cons x t =>
      have ea2 : ancR (x :: t) = headR x t := anc_cons x t (by rw [← hmx]; exact hk)
      rw [ea2]
      have hxg : GoodN x := hgm x (by rw [hmx]; simp)
      have htg : ∀ y, y ∈ t → GoodN y := fun y hy => hgm y (by rw [hmx]; simp [hy])
      have hzt : t.length ≤ 1000000000 := by rw [hmx] at hzm; simp at hzm; omega
      unfold headR
      by_cases c1 : t = [] ∧ x.f0.f0 = 1 ∧ lowerB x.f0.f1 = oddS
      · rw [if_pos c1]; exact anc_ret l hl h x t m hmx hm hgm hop _ (.odd c1.1 c1.2.1 c1.2.2)
      rw [if_neg c1]
      by_cases c2 : t = [] ∧ x.f0.f0 = 1 ∧ lowerB x.f0.f1 = evenS
      · rw [if_pos c2]; exact anc_ret l hl h x t m hmx hm hgm hop _ (.even c2.1 c2.2.1 c2.2.2)
      rw [if_neg c2]
      by_cases c3 : t = [] ∧ x.f0.f0 = 10 ∧ x.f0.f3 = true
      · rw [if_pos c3]; exact anc_ret l hl h x t m hmx hm hgm hop _ (.num c3.1 c3.2.1 c3.2.2)
      rw [if_neg c3]
      by_cases c4 : x.f0.f0 = 12 ∧ x.f0.f3 = true
      · rw [if_pos c4]
        exact anc_go l hl h x t m hmx hm hgm hop _ _ t (.inl ⟨c4.1, c4.2, rfl, rfl, rfl⟩) hzt (by rw [lowerB_size]; exact hxg.1) htg
      rw [if_neg c4]
      by_cases c5 : x.f0.f0 = 9 ∧ x.f0.f1 = ⟨#[43]⟩ ∧ ¬ t = [] ∧ seeK t = 1
      · rw [if_pos c5]
        obtain ⟨z, r, rfl⟩ : ∃ z r, t = z :: r := by cases t with | nil => exact absurd rfl c5.2.2.1 | cons z r => exact ⟨z, r, rfl⟩
        exact anc_go l hl h x (z :: r) m hmx hm hgm hop 1 (lowerB z.f0.f1) r (.inr (.inl ⟨z, c5.1, c5.2.1, rfl, c5.2.2.2, rfl, rfl⟩)) (by simp at hzt; omega) (by rw [lowerB_size]; exact (htg z (by simp)).1) (fun y hy => htg y (by simp [hy]))
      rw [if_neg c5]
      by_cases c6 : x.f0.f0 = 1
      · rw [if_pos c6]
        have n1 : ¬ (t = [] ∧ lowerB x.f0.f1 = oddS) := fun e => c1 ⟨e.1, c6, e.2⟩
        have n2 : ¬ (t = [] ∧ lowerB x.f0.f1 = evenS) := fun e => c2 ⟨e.1, c6, e.2⟩
        by_cases hd : (lowerB x.f0.f1).data.toList.head? = some 45
        · rw [if_pos hd]
          have := anc_go l hl h x t m hmx hm hgm hop (-1) ((lowerB x.f0.f1).extract 1 (lowerB x.f0.f1).size) t (.inr (.inr (.inl ⟨c6, n1, n2, hd, rfl, rfl, rfl⟩))) hzt (by rw [extract_one_size, lowerB_size]; have := hxg.1; omega) htg
          rw [extract_one] at this
          exact this
        · rw [if_neg hd]
          exact anc_go l hl h x t m hmx hm hgm hop 1 (lowerB x.f0.f1) t (.inr (.inr (.inr ⟨c6, n1, n2, hd, rfl, rfl, rfl⟩))) hzt (by rw [lowerB_size]; exact hxg.1) htg
      rw [if_neg c6]
      by_cases k12 : x.f0.f0 = 12
      · exact anc_ret l hl h x t m hmx hm hgm hop _ (.n12 k12 (by cases e : x.f0.f3 with | false => rfl | true => exact absurd ⟨k12, e⟩ c4))
      by_cases k9 : x.f0.f0 = 9
      · by_cases hp : x.f0.f1 = ⟨#[43]⟩
        · cases ht : t with
          | nil => rw [ht] at hmx; exact anc_ret l hl h x [] m hmx hm hgm hop _ (.n9n k9 hp rfl)
          | cons z r =>
            refine anc_ret l hl h x t m hmx hm hgm hop _ (.n9z k9 hp z r ht (fun e => c5 ⟨k9, hp, by rw [ht]; simp, by rw [ht]; exact e⟩))
        · exact anc_ret l hl h x t m hmx hm hgm hop _ (.n9 k9 hp)
      by_cases k10 : x.f0.f0 = 10
      · by_cases ht : t = []
        · exact anc_ret l hl h x t m hmx hm hgm hop _ (.n10f k10 (by cases e : x.f0.f3 with | false => rfl | true => exact absurd ⟨ht, k10, e⟩ c3))
        · exact anc_ret l hl h x t m hmx hm hgm hop _ (.n10t k10 ht)
      exact anc_ret l hl h x t m hmx hm hgm hop _ (.no c6 k9 k10 k12)
  · have hk : m.any kidB = true := List.any_eq_true.2 ⟨m.getD q z51, by rw [List.getD_eq_getElem?_getD, List.getElem?_eq_getElem hq, Option.getD_some]; exact List.getElem_mem hq, hop⟩
    have ea : ancR m = (0, 0, false) := by unfold ancR; rw [if_pos hk]
    rw [ea]
    exact anc_kid l hl h m hm hgm q hq hop

theorem triV_mk (a b : Int) (c : Bool) : triV (a, b, c) = .tuple #[.int .i64 a, .int .i64 b, .bool c] := rfl
theorem nodesS_short (s : ByteArray) (hs : s.size ≤ 1000000) : (nodesS s).length ≤ 1000000000 := by
  cases (nodesS_good s hs).1 with
  | mk _ hl hk => exact hl
set_option maxHeartbeats 8000000 in
set_option maxRecDepth 100000 in
theorem lawTells_long (s : ByteArray) (a b n : Int) (ha0 : -9223372036854775808 ≤ a) (ha1 : a ≤ 9223372036854775807) (hb0 : -9223372036854775808 ≤ b) (hb1 : b ≤ 9223372036854775807) (hn0 : -9223372036854775808 ≤ n) (hn1 : n ≤ 9223372036854775807) (h2 : 200 < s.size) (w : World) (ht : TabP w) :
    Calls Tryd.prog 3 #[.string s, .int .i64 a, .int .i64 b, .int .i64 n] w fun e w' => e = .returned (.bool true) ∧ Below w.heap.size w w' := by
  have HT := Aside0.mk ht
  have HB := Aside0.mk (Below.refl w.heap.size w)
  clear ht
  have d0 : decide ((200 : Int) < (s.size : Int)) = true := decide_eq_true (by omega)
  have d1 : decide (200 < s.size) = true := decide_eq_true h2
  go_enter Tryd.func3, Tryd.ntmps3
  go_wp2_with (go_at_call 7; refine (awake_c _ HT.out).mono ?_; rintro e w1 ⟨rfl, hb⟩; have h := HB.out.trans (hb.mono HB.out.size); have h2 := tabP_below HT.out hb; clear HB HT; have HB := Aside0.mk h; have HT := Aside0.mk h2; clear h h2; clear hb)
  go_ret
  exact ⟨rfl, HB.out⟩
set_option maxHeartbeats 8000000 in
set_option maxRecDepth 100000 in
theorem lawTells_yes (s : ByteArray) (a b n : Int) (ha0 : -9223372036854775808 ≤ a) (ha1 : a ≤ 9223372036854775807) (hb0 : -9223372036854775808 ≤ b) (hb1 : b ≤ 9223372036854775807) (hn0 : -9223372036854775808 ≤ n) (hn1 : n ≤ 9223372036854775807) (h2 : ¬ 200 < s.size) (r1 r2 : Int) (hR : ancR (trimN (nodesS s)) = (r1, r2, true)) (w : World) (ht : TabP w) :
    Calls Tryd.prog 3 #[.string s, .int .i64 a, .int .i64 b, .int .i64 n] w fun e w' => e = .returned (.bool true) ∧ Below w.heap.size w w' := by
  have HT := Aside0.mk ht
  have HB := Aside0.mk (Below.refl w.heap.size w)
  clear ht
  have d0 : decide ((200 : Int) < (s.size : Int)) = false := decide_eq_false (by omega)
  have d1 : decide (200 < s.size) = false := decide_eq_false h2
  have hz : s.size ≤ 1000000 := by omega
  have HZ := Aside0.mk hz
  have HG := Aside0.mk (nodesS_good s hz).2
  have HL := Aside0.mk (nodesS_short s hz)
  have HRR := Aside0.mk hR
  have HPR := Aside0.mk (show prsP (trimN (nodesS s)) = (r1, r2, 0) by rw [prs_anc, hR]; rfl)
  have HM1 := Aside0.mk (fun W => mat_c a b n ha0 ha1 hb0 hb1 hn0 hn1 W)
  have HM2 := Aside0.mk (fun W => matRef_c a b n ha0 ha1 hb0 hb1 hn0 hn1 W)
  have HX1 := Aside0.mk (fun W => Text_c a b ha0 ha1 hb0 hb1 W)
  have HX2 := Aside0.mk (fun W => TextRef_c a b ha0 ha1 hb0 hb1 W)
  obtain ⟨mv, hmv⟩ : ∃ v, matB a b n = v := ⟨_, rfl⟩
  rw [hmv] at HM1 HM2
  obtain ⟨tv, htv⟩ : ∃ v, textB a b = v := ⟨_, rfl⟩
  rw [htv] at HX1 HX2
  clear hmv htv hz h2 hR
  have q1 : (r1 == r1) = true := beq_self_eq_true _
  have q2 : (r2 == r2) = true := beq_self_eq_true _
  have q3 : (mv == mv) = true := beq_self_eq_true _
  have q4 : (tv.toList == tv.toList) = true := beq_self_eq_true _
  go_enter Tryd.func3, Tryd.ntmps3
  go_wp2_with (fail)
  refine (nodes_c s _ HZ.out).mono ?_
  rintro e w1 ⟨v, rfl, hr, hb⟩
  obtain ⟨A, c, rfl⟩ := Kd.N_slice (Kd.R_N hr)
  have HV := Aside0.mk (show Vt w1 A c (nodesS s) from ⟨(Kd.R_reads' hr).2.1, Kd.N_F (Kd.R_N hr)⟩)
  have HR := Aside0.mk hr
  clear hr
  have h := HB.out.trans (hb.mono HB.out.size)
  have h2 := tabP_below HT.out hb
  clear HB HT
  have HB := Aside0.mk h
  have HT := Aside0.mk h2
  clear h h2
  clear hb
  go_wp2_with (fail)
  refine (prsS_c s HZ.out _ _ _ HR.out).mono ?_
  rw [HPR.out]
  rintro e w2 ⟨rfl, hb⟩
  have HV2 := Aside0.mk (HV.out.below hb)
  clear HR HV
  have h := HB.out.trans (hb.mono HB.out.size)
  have h2 := tabP_below HT.out hb
  clear HB HT
  have HB := Aside0.mk h
  have HT := Aside0.mk h2
  clear h h2
  clear hb
  go_wp2_with (fail)
  refine (Anb_c (nodesS s) HL.out HV2.out HG.out).mono ?_
  rw [HRR.out, triV_mk]
  rintro e w3 ⟨rfl, hb⟩
  have h := HB.out.trans (hb.mono HB.out.size)
  have h2 := tabP_below HT.out hb
  clear HB HT
  have HB := Aside0.mk h
  have HT := Aside0.mk h2
  clear h h2
  clear hb HV2
  go_wp2_with (first
    | (go_at_call 11; refine (HM1.out _).mono ?_; rintro e w1 ⟨rfl, hb⟩; have h := HB.out.trans (hb.mono HB.out.size); have h2 := tabP_below HT.out hb; clear HB HT; have HB := Aside0.mk h; have HT := Aside0.mk h2; clear h h2; clear hb)
    | (go_at_call 12; refine (HM2.out _).mono ?_; rintro e w1 ⟨rfl, hb⟩; have h := HB.out.trans (hb.mono HB.out.size); have h2 := tabP_below HT.out hb; clear HB HT; have HB := Aside0.mk h; have HT := Aside0.mk h2; clear h h2; clear hb)
    | (go_at_call 13; refine (HX1.out _ HT.out).mono ?_; rintro e w1 ⟨rfl, hb⟩; have h := HB.out.trans (hb.mono HB.out.size); have h2 := tabP_below HT.out hb; clear HB HT; have HB := Aside0.mk h; have HT := Aside0.mk h2; clear h h2; clear hb)
    | (go_at_call 14; refine (HX2.out _).mono ?_; rintro e w1 ⟨rfl, hb⟩; have h := HB.out.trans (hb.mono HB.out.size); have h2 := tabP_below HT.out hb; clear HB HT; have HB := Aside0.mk h; have HT := Aside0.mk h2; clear h h2; clear hb)
    | (go_at_call 7; refine (awake_c _ HT.out).mono ?_; rintro e w1 ⟨rfl, hb⟩; have h := HB.out.trans (hb.mono HB.out.size); have h2 := tabP_below HT.out hb; clear HB HT; have HB := Aside0.mk h; have HT := Aside0.mk h2; clear h h2; clear hb))
  go_ret
  exact ⟨rfl, HB.out⟩
set_option maxHeartbeats 8000000 in
set_option maxRecDepth 100000 in
theorem lawTells_no (s : ByteArray) (a b n : Int) (ha0 : -9223372036854775808 ≤ a) (ha1 : a ≤ 9223372036854775807) (hb0 : -9223372036854775808 ≤ b) (hb1 : b ≤ 9223372036854775807) (hn0 : -9223372036854775808 ≤ n) (hn1 : n ≤ 9223372036854775807) (h2 : ¬ 200 < s.size) (r1 r2 : Int) (hR : ancR (trimN (nodesS s)) = (r1, r2, false)) (w : World) (ht : TabP w) :
    Calls Tryd.prog 3 #[.string s, .int .i64 a, .int .i64 b, .int .i64 n] w fun e w' => e = .returned (.bool true) ∧ Below w.heap.size w w' := by
  have HT := Aside0.mk ht
  have HB := Aside0.mk (Below.refl w.heap.size w)
  clear ht
  have d0 : decide ((200 : Int) < (s.size : Int)) = false := decide_eq_false (by omega)
  have d1 : decide (200 < s.size) = false := decide_eq_false h2
  have hz : s.size ≤ 1000000 := by omega
  have HZ := Aside0.mk hz
  have HG := Aside0.mk (nodesS_good s hz).2
  have HL := Aside0.mk (nodesS_short s hz)
  have HRR := Aside0.mk hR
  have HPR := Aside0.mk (show prsP (trimN (nodesS s)) = (0, 0, 2) by rw [prs_anc, hR]; rfl)
  have HM1 := Aside0.mk (fun W => mat_c a b n ha0 ha1 hb0 hb1 hn0 hn1 W)
  have HM2 := Aside0.mk (fun W => matRef_c a b n ha0 ha1 hb0 hb1 hn0 hn1 W)
  have HX1 := Aside0.mk (fun W => Text_c a b ha0 ha1 hb0 hb1 W)
  have HX2 := Aside0.mk (fun W => TextRef_c a b ha0 ha1 hb0 hb1 W)
  obtain ⟨mv, hmv⟩ : ∃ v, matB a b n = v := ⟨_, rfl⟩
  rw [hmv] at HM1 HM2
  obtain ⟨tv, htv⟩ : ∃ v, textB a b = v := ⟨_, rfl⟩
  rw [htv] at HX1 HX2
  clear hmv htv hz h2 hR
  have q1 : (r1 == r1) = true := beq_self_eq_true _
  have q2 : (r2 == r2) = true := beq_self_eq_true _
  have q3 : (mv == mv) = true := beq_self_eq_true _
  have q4 : (tv.toList == tv.toList) = true := beq_self_eq_true _
  go_enter Tryd.func3, Tryd.ntmps3
  go_wp2_with (fail)
  refine (nodes_c s _ HZ.out).mono ?_
  rintro e w1 ⟨v, rfl, hr, hb⟩
  obtain ⟨A, c, rfl⟩ := Kd.N_slice (Kd.R_N hr)
  have HV := Aside0.mk (show Vt w1 A c (nodesS s) from ⟨(Kd.R_reads' hr).2.1, Kd.N_F (Kd.R_N hr)⟩)
  have HR := Aside0.mk hr
  clear hr
  have h := HB.out.trans (hb.mono HB.out.size)
  have h2 := tabP_below HT.out hb
  clear HB HT
  have HB := Aside0.mk h
  have HT := Aside0.mk h2
  clear h h2
  clear hb
  go_wp2_with (fail)
  refine (prsS_c s HZ.out _ _ _ HR.out).mono ?_
  rw [HPR.out]
  rintro e w2 ⟨rfl, hb⟩
  have HV2 := Aside0.mk (HV.out.below hb)
  clear HR HV
  have h := HB.out.trans (hb.mono HB.out.size)
  have h2 := tabP_below HT.out hb
  clear HB HT
  have HB := Aside0.mk h
  have HT := Aside0.mk h2
  clear h h2
  clear hb
  go_wp2_with (fail)
  refine (Anb_c (nodesS s) HL.out HV2.out HG.out).mono ?_
  rw [HRR.out, triV_mk]
  rintro e w3 ⟨rfl, hb⟩
  have h := HB.out.trans (hb.mono HB.out.size)
  have h2 := tabP_below HT.out hb
  clear HB HT
  have HB := Aside0.mk h
  have HT := Aside0.mk h2
  clear h h2
  clear hb HV2
  go_wp2_with (first
    | (go_at_call 11; refine (HM1.out _).mono ?_; rintro e w1 ⟨rfl, hb⟩; have h := HB.out.trans (hb.mono HB.out.size); have h2 := tabP_below HT.out hb; clear HB HT; have HB := Aside0.mk h; have HT := Aside0.mk h2; clear h h2; clear hb)
    | (go_at_call 12; refine (HM2.out _).mono ?_; rintro e w1 ⟨rfl, hb⟩; have h := HB.out.trans (hb.mono HB.out.size); have h2 := tabP_below HT.out hb; clear HB HT; have HB := Aside0.mk h; have HT := Aside0.mk h2; clear h h2; clear hb)
    | (go_at_call 13; refine (HX1.out _ HT.out).mono ?_; rintro e w1 ⟨rfl, hb⟩; have h := HB.out.trans (hb.mono HB.out.size); have h2 := tabP_below HT.out hb; clear HB HT; have HB := Aside0.mk h; have HT := Aside0.mk h2; clear h h2; clear hb)
    | (go_at_call 14; refine (HX2.out _).mono ?_; rintro e w1 ⟨rfl, hb⟩; have h := HB.out.trans (hb.mono HB.out.size); have h2 := tabP_below HT.out hb; clear HB HT; have HB := Aside0.mk h; have HT := Aside0.mk h2; clear h h2; clear hb)
    | (go_at_call 7; refine (awake_c _ HT.out).mono ?_; rintro e w1 ⟨rfl, hb⟩; have h := HB.out.trans (hb.mono HB.out.size); have h2 := tabP_below HT.out hb; clear HB HT; have HB := Aside0.mk h; have HT := Aside0.mk h2; clear h h2; clear hb))
  go_ret
  exact ⟨rfl, HB.out⟩
theorem lawTells_c (s : ByteArray) (a b n : Int) (ha0 : -9223372036854775808 ≤ a) (ha1 : a ≤ 9223372036854775807) (hb0 : -9223372036854775808 ≤ b) (hb1 : b ≤ 9223372036854775807) (hn0 : -9223372036854775808 ≤ n) (hn1 : n ≤ 9223372036854775807) (w : World) (ht : TabP w) :
    Calls Tryd.prog 3 #[.string s, .int .i64 a, .int .i64 b, .int .i64 n] w fun e w' => e = .returned (.bool true) ∧ Below w.heap.size w w' := by
  by_cases h2 : 200 < s.size
  · exact lawTells_long s a b n ha0 ha1 hb0 hb1 hn0 hn1 h2 w ht
  · obtain ⟨r1, r2, r3, hR⟩ : ∃ r1 r2 r3, ancR (trimN (nodesS s)) = (r1, r2, r3) := ⟨_, _, _, rfl⟩
    cases r3 with
    | true => exact lawTells_yes s a b n ha0 ha1 hb0 hb1 hn0 hn1 h2 r1 r2 hR w ht
    | false => exact lawTells_no s a b n ha0 ha1 hb0 hb1 hn0 hn1 h2 r1 r2 hR w ht

end Go.Proofs.YtgdolholioccdaaDoor.PX
