/-
  Contracts of the functions that the law reaches, and what they compute, on lists (part Y). No condition.
-/
import Derived.Test.YtgdolholioccdaaDoorMG
import Derived.Test.YtgdolholioccdaaDoorWApart
import Derived.Test.YtgdolholioccdaaDoorWLast
import Derived.Test.YtgdolholioccdaaDoorWMore
import Derived.Test.YtgdolholioccdaaDoorWN
import Derived.Test.YtgdolholioccdaaDoorWNEv
import Derived.Test.YtgdolholioccdaaDoorWRepsOne
import Derived.Test.YtgdolholioccdaaDoorWShare
import Derived.Test.YtgdolholioccdaaDoorWWords
import Derived.Test.YtgdolholioccdaaDoorVX
import Derived.WideShapes
set_option linter.unusedVariables false
set_option linter.unusedSimpArgs false
namespace Go.Proofs.YtgdolholioccdaaDoor.PX
open Go.RowKit Go.Proofs.YtgdolholioccdaaDoorW.PrintWords Go.Proofs.YtgdolholioccdaaDoorW.PrintLast Go.Proofs.YtgdolholioccdaaDoorW.PrintMore
/-! Decimal of the references is the numeral. -/
theorem one_num (x : Nat) (h : x < 256) : strOfNums [(x : Int)] = ⟨#[UInt8.ofNat x]⟩ := by
  refine WideShapes.bytes_inj ?_
  rw [strOfNums_data]
  rfl
theorem str_app (a b : List UInt8) : (⟨a.toArray⟩ : ByteArray) ++ ⟨b.toArray⟩ = ⟨(a ++ b).toArray⟩ := by
  refine WideShapes.bytes_inj ?_
  simp [ByteArray.data_append]
theorem dec_one (u : Nat) : ((IntKind.u64.wrap (48 + (Int.tmod (u : Int) 10))) % 256 : Int) = ((48 + u % 10 : Nat) : Int) := by
  rw [wrapu, Int.tmod_eq_emod_of_nonneg (by omega)]
  omega
theorem dec_div (u : Nat) (h : u < 18446744073709551616) : IntKind.u64.wrap (Int.tdiv (u : Int) 10) = ((u / 10 : Nat) : Int) := by
  rw [wrapu, Int.tdiv_eq_ediv_of_nonneg (by omega)]
  omega
def ddig (u : Nat) : List UInt8 := if u = 0 then [] else Lib.decDigits u
theorem ddig_step (u : Nat) (h : 0 < u) : ddig u = ddig (u / 10) ++ [UInt8.ofNat (48 + u % 10)] := by
  unfold ddig
  rw [if_neg (by omega)]
  by_cases h1 : u < 10
  · rw [if_pos (by omega), Lib.decDigits_one h1, Nat.mod_eq_of_lt h1]
    rfl
  · rw [if_neg (by omega), Lib.decDigits, dif_neg h1]
theorem dec_l0 : ∀ (m u : Nat) (s : ByteArray) (d : List UInt8) (k : Nat), u < 10 ^ m → m ≤ 20 → d.length + m ≤ 100 → s.size ≤ 10 → m + 2 ≤ k → 0 < u ∨ 0 < d.length → u < 18446744073709551616 →
    fleuronref1_Decimal.l0 k (u : Int) s ⟨d.toArray⟩ = some (s ++ ⟨(ddig u ++ d).toArray⟩)
  | 0, u, s, d, k, hu, hm, hd, hs, hk, hp, hlt => by
    obtain ⟨k, rfl⟩ : ∃ q, k = q + 1 := ⟨k - 1, by omega⟩
    have h0 : u = 0 := by simpa using hu
    subst h0
    have hdn : ¬ (⟨d.toArray⟩ : ByteArray).toList = [] := by
      rw [ByteArray.toList_eq]
      intro e
      have : d = [] := e
      rw [this] at hp
      simp at hp
    have hz : (⟨d.toArray⟩ : ByteArray).size = d.length := by show d.toArray.size = _; simp
    unfold fleuronref1_Decimal.l0
    rw [if_neg (by omega), if_neg hdn, if_pos (by omega)]
    simp [ddig]
  | m + 1, u, s, d, k, hu, hm, hd, hs, hk, hp, hlt => by
    obtain ⟨k, rfl⟩ : ∃ q, k = q + 1 := ⟨k - 1, by omega⟩
    have hz : (⟨d.toArray⟩ : ByteArray).size = d.length := by show d.toArray.size = _; simp
    by_cases h0 : u = 0
    · subst h0
      exact dec_l0 m 0 s d (k + 1) (Nat.pos_of_ne_zero (by simp)) (by omega) (by omega) hs (by omega) hp hlt
    · unfold fleuronref1_Decimal.l0
      rw [if_pos (by omega)]
      simp only [Option.bind_some]
      rw [dec_one, one_num (48 + u % 10) (by omega), dec_div u hlt]
      have h1 : (⟨#[UInt8.ofNat (48 + u % 10)]⟩ : ByteArray).size = 1 := rfl
      rw [if_pos (by omega)]
      have e : (⟨#[UInt8.ofNat (48 + u % 10)]⟩ : ByteArray) ++ ⟨d.toArray⟩ = ⟨(UInt8.ofNat (48 + u % 10) :: d).toArray⟩ := str_app [UInt8.ofNat (48 + u % 10)] d
      rw [e, dec_l0 m (u / 10) s (UInt8.ofNat (48 + u % 10) :: d) k (by rw [Nat.pow_succ] at hu; omega) (by omega) (by simp; omega) hs (by omega) (.inr (by simp)) (by omega), ddig_step u (by omega)]
      simp
theorem dec_0 (s : ByteArray) (hs : s.size ≤ 10) (u : Nat) (hu : u < 18446744073709551616) : fleuronref1_Decimal.l0 40 (u : Int) s ⟨#[]⟩ = some (s ++ ⟨(Lib.decDigits u).toArray⟩) := by
  have hb : u < 10 ^ 20 := by have : (10 : Nat) ^ 20 = 100000000000000000000 := by decide
                              omega
  by_cases h0 : u = 0
  · subst h0
    unfold fleuronref1_Decimal.l0
    rw [if_neg (by decide), if_pos (by rw [ByteArray.toList_eq])]
    simp only [Option.bind_some]
    rw [dec_one, one_num (48 + 0 % 10) (by omega), dec_div 0 (by omega)]
    rw [if_pos (show (⟨#[UInt8.ofNat (48 + 0 % 10)]⟩ : ByteArray).size + (⟨#[]⟩ : ByteArray).size ≤ 9223372036854775807 from (by decide : (1 : Nat) + 0 ≤ 9223372036854775807))]
    have h := dec_l0 0 0 s [48] 39 (by decide) (by decide) (by decide) hs (by decide) (.inr (by decide)) (by decide)
    rw [Lib.decDigits_one (by decide)]
    exact h
  · have h := dec_l0 20 u s [] 40 hb (by omega) (by simp) hs (by omega) (.inl (by omega)) hu
    have e : ddig u ++ [] = Lib.decDigits u := by unfold ddig; rw [if_neg h0]; simp
    rw [e] at h
    exact h
theorem Decimal_f (n : Int) (h0 : -9223372036854775808 ≤ n) (h1 : n ≤ 9223372036854775807) : fleuronref1_Decimal.f 41 n = some (decB n) := by
  unfold fleuronref1_Decimal.f decB Lib.itoa
  by_cases hn : n < 0
  · rw [if_pos hn, if_pos hn]
    have e : IntKind.u64.wrap (-(IntKind.u64.wrap n)) = (n.natAbs : Int) := by rw [wrapu, wrapu]; omega
    rw [e]
    show fleuronref1_Decimal.l0 40 _ _ ⟨#[]⟩ = _
    rw [dec_0 _ (by decide) _ (by omega)]
    exact congrArg some (str_app [45] _)
  · rw [if_neg hn, if_neg hn]
    have e : IntKind.u64.wrap n = (n.toNat : Int) := by rw [wrapu]; omega
    rw [e]
    show fleuronref1_Decimal.l0 40 _ _ ⟨#[]⟩ = _
    rw [dec_0 _ (by decide) _ (by omega)]
    exact congrArg some (str_app [] _)
theorem Decimal_c (n : Int) (h0 : -9223372036854775808 ≤ n) (h1 : n ≤ 9223372036854775807) (w : World) :
    Calls Tryd.prog 15 #[.int .i64 n] w fun e w' => e = .returned (.string (decB n)) ∧ Below w.heap.size w w' :=
  (fleuronref1_Decimal.calls 41 n _ w (Decimal_f n h0 h1)).mono fun _ _ ⟨e, h⟩ => ⟨e, h⟩

/-! Plain: what a written number's signs are read as. -/
def asc (l : List UInt8) : List Int := l.map fun b => (b.toNat : Int)
theorem asc_app (a b : List UInt8) : asc (a ++ b) = asc a ++ asc b := List.map_append
theorem asc_cons (a : UInt8) (b : List UInt8) : asc (a :: b) = (a.toNat : Int) :: asc b := rfl
def plainU (b : UInt8) : Bool := decide (b.toNat < 128) && (!decide (b.toNat = 13) && (!decide (b.toNat = 12) && !decide (b.toNat = 0)))
theorem plainU_facts {b : UInt8} (h : plainU b = true) : b.toNat < 128 ∧ b.toNat ≠ 13 ∧ b.toNat ≠ 12 ∧ b.toNat ≠ 0 := by
  simpa [plainU] using h
theorem redP_asc : ∀ (n : Nat) (f : Bool) (s : ByteArray) (pos : Nat), s.size ≤ pos + n → (∀ b, b ∈ s.data.toList → plainU b = true) → redP n f false s pos = asc (s.data.toList.drop pos)
  | 0, f, s, pos, h, ha => by
    rw [List.drop_eq_nil_of_le (by rw [Array.length_toList]; exact h)]
    rfl
  | n + 1, f, s, pos, h, ha => by
    by_cases hlt : pos < s.size
    · have hl : pos < s.data.toList.length := by rw [Array.length_toList]; exact hlt
      have hb := plainU_facts (ha _ (List.getElem_mem hl))
      have hdr := List.drop_eq_getElem_cons hl
      obtain ⟨c, hc⟩ : ∃ c : UInt8, s.data.toList[pos]'hl = c := ⟨_, rfl⟩
      rw [hc] at hb hdr
      have hc' : s[pos]'hlt = c := hc
      have hd := decode_ascii s pos hlt (by rw [hc']; exact hb.1)
      rw [hc'] at hd
      have e1 : (f && (((c.toNat : Nat) : Int) == 65279)) = false := by rw [beq_eq_false_iff_ne.2 (by omega)]; simp
      have e2 : (((c.toNat : Nat) : Int) == 13) = false := beq_eq_false_iff_ne.2 (by omega)
      rw [redP_one n f false s pos c.toNat 1 hlt hd, if_neg (by rw [e1]; simp), if_neg (by simp), e2, redP_asc n false s (pos + 1) (by omega) ha, hdr, asc_cons]
      congr 1
      unfold redC
      rw [if_neg (by omega), if_neg (by omega)]
    · rw [redP_end _ _ _ _ _ hlt, List.drop_eq_nil_of_le (by rw [Array.length_toList]; exact Nat.le_of_not_lt hlt)]
      rfl
theorem reads_asc (l : List UInt8) (ha : ∀ b, b ∈ l → plainU b = true) : reads ⟨l.toArray⟩ = asc l := by
  unfold reads
  rw [redP_asc _ true ⟨l.toArray⟩ 0 (by omega) ha]
  rfl
theorem enc_asc (b : UInt8) (h : b.toNat < 128) : Utf8.encode (b.toNat : Int) = ⟨#[b]⟩ := by
  have hv : Utf8.valid (b.toNat : Int) = true := by unfold Utf8.valid; simp; omega
  unfold Utf8.encode
  generalize hk : (if Utf8.valid (b.toNat : Int) then ((b.toNat : Int)).toNat else Utf8.runeError) = k
  have hkb : k = b.toNat := by rw [← hk, if_pos hv]; exact Int.toNat_natCast _
  subst hkb
  show (if b.toNat < 128 then (⟨#[UInt8.ofNat b.toNat]⟩ : ByteArray) else _) = _
  rw [if_pos h]
  simp
theorem enc43 : Utf8.encode 43 = ⟨#[43]⟩ := by kernel_rfl
theorem enc45 : Utf8.encode 45 = ⟨#[45]⟩ := by kernel_rfl
theorem app_one (acc : List UInt8) (b : UInt8) : (⟨acc.toArray⟩ : ByteArray) ++ ⟨#[b]⟩ = ⟨(acc ++ [b]).toArray⟩ := str_app acc [b]
def isD (b : UInt8) : Bool := decide (48 ≤ b.toNat) && decide (b.toNat ≤ 57)
theorem isD_facts {b : UInt8} (h : isD b = true) : 48 ≤ b.toNat ∧ b.toNat ≤ 57 := by simpa [isD] using h
theorem isD_dig {b : UInt8} (h : isD b = true) : digB (b.toNat : Int) = true := by
  have := isD_facts h
  unfold digB
  exact decide_eq_true (by omega)
theorem digP_asc : ∀ (ds acc : List UInt8) (r : List Int), (∀ b, b ∈ ds → isD b = true) → digB (sg r 0) = false → digP ⟨acc.toArray⟩ (asc ds ++ r) = (⟨(acc ++ ds).toArray⟩, r)
  | [], acc, r, hd, hr => by
    rw [List.append_nil]
    show digP ⟨acc.toArray⟩ r = _
    cases r with
    | nil => rfl
    | cons c t =>
      have h : digB c = false := hr
      unfold digP
      rw [if_neg (by rw [h]; simp)]
  | b :: ds, acc, r, hd, hr => by
    have hb := hd b (by simp)
    show digP ⟨acc.toArray⟩ ((b.toNat : Int) :: (asc ds ++ r)) = _
    have hf := isD_facts hb
    unfold digP
    rw [if_pos (isD_dig hb), enc_asc b (by omega), app_one, digP_asc ds (acc ++ [b]) r (fun c hc => hd c (List.mem_cons_of_mem _ hc)) hr]
    simp
theorem digL_asc (ds : List UInt8) (r : List Int) (hd : ∀ b, b ∈ ds → isD b = true) (hr : digB (sg r 0) = false) : digL (asc ds ++ r) = (⟨ds.toArray⟩, r) := digP_asc ds [] r hd hr
def isN (b : UInt8) : Bool := decide (b.toNat < 128) && namB (b.toNat : Int)
theorem nameP_asc : ∀ (ns acc : List UInt8) (r : List Int) (n : Nat), (∀ b, b ∈ ns → isN b = true) → namB (sg r 0) = false → escB r 0 = false → ns.length ≤ n → nameP n ⟨acc.toArray⟩ (asc ns ++ r) = (⟨(acc ++ ns).toArray⟩, r)
  | [], acc, r, n, hd, hr, he, hn => by
    rw [List.append_nil]
    show nameP n ⟨acc.toArray⟩ r = _
    cases n with
    | zero => rfl
    | succ n =>
      unfold nameP
      rw [if_neg (by rw [hr]; simp), if_neg (by rw [he]; simp)]
  | b :: ns, acc, r, n, hd, hr, he, hn => by
    have hb := hd b (by simp)
    unfold isN at hb
    rw [Bool.and_eq_true, decide_eq_true_iff] at hb
    obtain ⟨n, rfl⟩ : ∃ m, n = m + 1 := ⟨n - 1, by simp at hn; omega⟩
    show nameP (n + 1) ⟨acc.toArray⟩ ((b.toNat : Int) :: (asc ns ++ r)) = _
    unfold nameP
    have e : sg ((b.toNat : Int) :: (asc ns ++ r)) 0 = (b.toNat : Int) := rfl
    rw [e, if_pos hb.2, enc_asc b hb.1, app_one]
    show nameP n _ (asc ns ++ r) = _
    rw [nameP_asc ns (acc ++ [b]) r n (fun c hc => hd c (List.mem_cons_of_mem _ hc)) hr he (by simp at hn; omega)]
    simp
theorem nameL_asc (ns : List UInt8) (r : List Int) (hd : ∀ b, b ∈ ns → isN b = true) (hr : namB (sg r 0) = false) (he : escB r 0 = false) : nameL (asc ns ++ r) = (⟨ns.toArray⟩, r) := by
  unfold nameL
  exact nameP_asc ns [] r _ hd hr he (by rw [List.length_append]; unfold asc; rw [List.length_map]; omega)
def okSg (sgn : List UInt8) : Prop := sgn = [] ∨ sgn = [43] ∨ sgn = [45]
theorem hd_dig {ds : List UInt8} (hne : ds ≠ []) (hd : ∀ b, b ∈ ds → isD b = true) (r : List Int) : ∃ d, isD d = true ∧ sg (asc ds ++ r) 0 = (d.toNat : Int) ∧ ∃ t, ds = d :: t := by
  cases ds with
  | nil => exact absurd rfl hne
  | cons d t => exact ⟨d, hd d (by simp), rfl, t, rfl⟩
theorem nA_sgn {sgn : List UInt8} (hs : okSg sgn) {ds : List UInt8} (hne : ds ≠ []) (hd : ∀ b, b ∈ ds → isD b = true) (r : List Int) :
    nA (asc sgn ++ (asc ds ++ r)) = (⟨sgn.toArray⟩, asc ds ++ r) ∧ sgB (asc sgn ++ (asc ds ++ r)) = !sgn.isEmpty := by
  obtain ⟨d, h1, h2, -⟩ := hd_dig hne hd r
  have hf := isD_facts h1
  rcases hs with rfl | rfl | rfl
  · have e : sgB (asc ds ++ r) = false := by
      unfold sgB
      rw [h2, beq_eq_false_iff_ne.2 (by omega), beq_eq_false_iff_ne.2 (by omega)]
      rfl
    refine ⟨?_, e⟩
    show nA (asc ds ++ r) = _
    unfold nA
    rw [e]
    rfl
  · refine ⟨?_, rfl⟩
    unfold nA
    rw [show sgB (asc [43] ++ (asc ds ++ r)) = true from rfl, if_pos rfl]
    show (Utf8.encode 43, asc ds ++ r) = (⟨#[43]⟩, asc ds ++ r)
    rw [enc43]
  · refine ⟨?_, rfl⟩
    unfold nA
    rw [show sgB (asc [45] ++ (asc ds ++ r)) = true from rfl, if_pos rfl]
    show (Utf8.encode 45, asc ds ++ r) = (⟨#[45]⟩, asc ds ++ r)
    rw [enc45]
theorem numT_std {sgn ds : List UInt8} {r : List Int} (hs : okSg sgn) (hne : ds ≠ []) (hd : ∀ b, b ∈ ds → isD b = true) (hr : digB (sg r 0) = false) (hdot : dotB r = false) (hexp : (expB r && digB (sg r (sgK r : Nat))) = false) :
    numT (asc sgn ++ (asc ds ++ r)) = if nmsB r 0 then (⟨12, (nameL r).1, intL (sgn ++ ds), true, !sgn.isEmpty, false⟩, (nameL r).2)
      else if sg r 0 = 37 then (⟨11, ⟨#[]⟩, intL (sgn ++ ds), true, !sgn.isEmpty, false⟩, r.tail) else (⟨10, ⟨#[]⟩, intL (sgn ++ ds), true, !sgn.isEmpty, false⟩, r) := by
  obtain ⟨h1, h2⟩ := nA_sgn hs hne hd r
  have e1 : nL1 (asc sgn ++ (asc ds ++ r)) = r := by unfold nL1; rw [h1, digL_asc ds r hd hr]
  have e2 : nS (asc sgn ++ (asc ds ++ r)) = ⟨(sgn ++ ds).toArray⟩ := by unfold nS; rw [h1, digL_asc ds r hd hr]; exact str_app sgn ds
  have e3 : nF r = (true, r) := by unfold nF; rw [hdot]; rfl
  have e4 : nQ (asc sgn ++ (asc ds ++ r)) = (true, r) := by
    unfold nQ
    rw [e1, e3]
    unfold nE
    rw [hexp]
    rfl
  have e5 : nI (asc sgn ++ (asc ds ++ r)) = intL (sgn ++ ds) := by unfold nI; rw [e4, e2]; rfl
  unfold numT
  rw [e4, e5, h2]
theorem numT_dot {sgn ds : List UInt8} (hs : okSg sgn) (hne : ds ≠ []) (hd : ∀ b, b ∈ ds → isD b = true) :
    numT (asc sgn ++ (asc ds ++ asc [46, 53])) = (⟨10, ⟨#[]⟩, 0, false, !sgn.isEmpty, false⟩, []) := by
  obtain ⟨h1, h2⟩ := nA_sgn hs hne hd (asc [46, 53])
  have e1 : nL1 (asc sgn ++ (asc ds ++ asc [46, 53])) = asc [46, 53] := by unfold nL1; rw [h1, digL_asc ds (asc [46, 53]) hd (by rfl)]
  have e4 : nQ (asc sgn ++ (asc ds ++ asc [46, 53])) = (false, []) := by
    unfold nQ
    rw [e1]
    rfl
  have e5 : nI (asc sgn ++ (asc ds ++ asc [46, 53])) = 0 := by unfold nI; rw [e4]; rfl
  unfold numT
  rw [e4, e5, h2]
  rfl
theorem numB_sgn {sgn : List UInt8} (hs : okSg sgn) {ds : List UInt8} (hne : ds ≠ []) (hd : ∀ b, b ∈ ds → isD b = true) (r : List Int) : tokP (asc sgn ++ (asc ds ++ r)) = numT (asc sgn ++ (asc ds ++ r)) ∧ 0 ≤ sg (asc sgn ++ (asc ds ++ r)) 0 ∧ comB (asc sgn ++ (asc ds ++ r)) = false := by
  obtain ⟨d, h1, h2, t, rfl⟩ := hd_dig hne hd r
  have hf := isD_facts h1
  have hdd := isD_dig h1
  rcases hs with rfl | rfl | rfl
  · obtain ⟨z, hz⟩ : ∃ z : Int, (d.toNat : Int) = z := ⟨_, rfl⟩
    have hz0 : 48 ≤ z := by omega
    have hz1 : z ≤ 57 := by omega
    rw [hz] at hdd
    show tokP ((d.toNat : Int) :: (asc t ++ r)) = numT ((d.toNat : Int) :: (asc t ++ r)) ∧ 0 ≤ (d.toNat : Int) ∧ comB ((d.toNat : Int) :: (asc t ++ r)) = false
    rw [hz]
    have g0 : ∀ l : List Int, sg (z :: l) 0 = z := fun _ => rfl
    refine ⟨?_, by omega, ?_⟩
    · have k1 : plainK z = 0 := by unfold plainK; repeat (first | rw [if_neg (by omega)])
      have k2 : whiB z = false := by unfold whiB; rw [decide_eq_false (by omega), decide_eq_false (by omega), decide_eq_false (by omega)]; rfl
      have k3 : hashB (z :: (asc t ++ r)) = false := by unfold hashB; rw [g0, beq_eq_false_iff_ne.2 (show z ≠ 35 by omega)]; rfl
      have k4 : numsB (z :: (asc t ++ r)) = true := by
        unfold numsB numB
        rw [g0, if_neg (by omega), hdd]
        simp
      unfold tokP
      rw [g0, if_neg (by rw [k1]; simp), if_neg (by rw [k2]; simp), if_neg (by omega), if_neg (by rw [k3]; simp), if_pos k4]
    · unfold comB
      rw [g0, beq_eq_false_iff_ne.2 (show z ≠ 47 by omega)]
      rfl
  · refine ⟨?_, (show (0 : Int) ≤ 43 by decide), rfl⟩
    have k4 : numsB (asc [43] ++ (asc (d :: t) ++ r)) = true := by
      unfold numsB numB
      rw [if_pos (.inl rfl), show sg (asc [43] ++ (asc (d :: t) ++ r)) 1 = (d.toNat : Int) from rfl, hdd]
      rfl
    unfold tokP
    rw [show sg (asc [43] ++ (asc (d :: t) ++ r)) 0 = 43 from rfl, if_neg (by decide : ¬ plainK 43 ≠ 0), if_neg (by decide : ¬ whiB 43 = true), if_neg (by decide : ¬ ((43 : Int) = 34 ∨ (43 : Int) = 39)), if_neg (by exact Bool.false_ne_true), if_pos k4]
  · refine ⟨?_, (show (0 : Int) ≤ 45 by decide), rfl⟩
    have k4 : numsB (asc [45] ++ (asc (d :: t) ++ r)) = true := by
      unfold numsB numB
      rw [if_pos (.inr rfl), show sg (asc [45] ++ (asc (d :: t) ++ r)) 1 = (d.toNat : Int) from rfl, hdd]
      rfl
    unfold tokP
    rw [show sg (asc [45] ++ (asc (d :: t) ++ r)) 0 = 45 from rfl, if_neg (by decide : ¬ plainK 45 ≠ 0), if_neg (by decide : ¬ whiB 45 = true), if_neg (by decide : ¬ ((45 : Int) = 34 ∨ (45 : Int) = 39)), if_neg (by exact Bool.false_ne_true), if_pos k4]
/-- The tokens of signs, step by step. -/
inductive TS : List Int → List S49 → Prop
  | nil : TS [] []
  | cons (l r : List Int) (t : S49) (ts : List S49) (ht : tokP l = (t, r)) (h0 : 0 ≤ sg l 0) (hc : comB l = false) (h : TS r ts) : TS l (t :: ts)
theorem comL_ne {l : List Int} (h : comB l = false) (n : Nat) : comL n l = l := by
  cases n with
  | zero => rfl
  | succ n => unfold comL; rw [h]; rfl
theorem TS.tok {l : List Int} {ts : List S49} (h : TS l ts) : ∀ n, l.length < n → tokF n l = ts := by
  induction h with
  | nil =>
    intro n hn
    cases n with
    | zero => rfl
    | succ n => rfl
  | cons l r t ts ht h0 hc h ih =>
    intro n hn
    obtain ⟨n, rfl⟩ : ∃ m, n = m + 1 := ⟨n - 1, by omega⟩
    have hlt := tokP_lt h0
    rw [ht] at hlt
    unfold tokF
    rw [comL_ne hc, if_neg (by omega), ht]
    show t :: tokF n r = _
    rw [ih n (by have h' : r.length < l.length := hlt; omega)]
theorem TS.tokens {l : List Int} {ts : List S49} (h : TS l ts) : tokens l = ts := h.tok _ (Nat.lt_succ_self _)
theorem TS.nodes {s : List UInt8} {ts : List S49} (ha : ∀ b, b ∈ s → plainU b = true) (h : TS (asc s) ts) : nodesS ⟨s.toArray⟩ = nodesP ts.length ts := by
  unfold nodesS
  rw [reads_asc s ha, h.tokens]
theorem ofNat_n {x : Nat} (h : x < 256) : (UInt8.ofNat x).toNat = x := UInt8.toNat_ofNat_of_lt' (show x < UInt8.size from h)
theorem dd_all : ∀ (m u : Nat), u < 10 ^ m → m ≤ 30 → ∀ b, b ∈ Lib.decDigits u → isD b = true
  | 0, u, hu, hm, b, hb => by
    have h0 : u = 0 := by simpa using hu
    subst h0
    rw [Lib.decDigits_one (by decide)] at hb
    simp at hb
    subst hb
    rfl
  | m + 1, u, hu, hm, b, hb => by
    by_cases h1 : u < 10
    · rw [Lib.decDigits_one h1, List.mem_singleton] at hb
      subst hb
      unfold isD
      rw [ofNat_n (by omega)]
      simp
      omega
    · rw [Lib.decDigits, dif_neg h1] at hb
      rcases List.mem_append.1 hb with hb | hb
      · exact dd_all m (u / 10) (by rw [Nat.pow_succ] at hu; omega) (by omega) b hb
      · rw [List.mem_singleton] at hb
        subst hb
        unfold isD
        rw [ofNat_n (by omega)]
        simp
        omega
theorem dd_ne (u : Nat) : Lib.decDigits u ≠ [] := by
  by_cases h1 : u < 10
  · rw [Lib.decDigits_one h1]; simp
  · rw [Lib.decDigits, dif_neg h1]; simp
theorem dd_dig (u : Nat) (h : u < 100000000000000000000) : ∀ b, b ∈ Lib.decDigits u → isD b = true :=
  dd_all 20 u (by have : (10 : Nat) ^ 20 = 100000000000000000000 := by decide
                  omega) (by decide)
theorem isD_plain {b : UInt8} (h : isD b = true) : plainU b = true := by
  have := isD_facts h
  unfold plainU
  simp
  omega
theorem decG_snoc (n : Int) (l : List UInt8) (c : UInt8) (hc : isD c = true) : decG n (l ++ [c]) = (decG n l).bind fun m => some (mn (m * 10 + ((c.toNat : Int) - 48)) 4294967296) := by
  induction l generalizing n with
  | nil =>
    have := isD_facts hc
    show decG n [c] = _
    unfold decG
    rw [if_pos (by omega)]
    rfl
  | cons b t ih =>
    show decG n (b :: (t ++ [c])) = _
    unfold decG
    by_cases h : 48 ≤ b.toNat ∧ b.toNat ≤ 57
    · rw [if_pos h, if_pos h]; exact ih _
    · rw [if_neg h, if_neg h]; rfl
theorem decG_dd : ∀ (m u : Nat), u < 10 ^ m → m ≤ 30 → u ≤ 4294967296 → decG 0 (Lib.decDigits u) = some (u : Int)
  | 0, u, hu, hm, hl => by
    have h0 : u = 0 := by simpa using hu
    subst h0
    rw [Lib.decDigits_one (by decide)]
    rfl
  | m + 1, u, hu, hm, hl => by
    by_cases h1 : u < 10
    · rw [Lib.decDigits_one h1]
      unfold decG
      rw [ofNat_n (by omega), if_pos (by omega)]
      show some (mn (0 * 10 + (((48 + u : Nat) : Int) - 48)) 4294967296) = some (u : Int)
      unfold mn
      congr 1
      split <;> omega
    · rw [Lib.decDigits, dif_neg h1, decG_snoc _ _ _ (by unfold isD; rw [ofNat_n (by omega)]; simp; omega), decG_dd m (u / 10) (by rw [Nat.pow_succ] at hu; omega) (by omega) (by omega)]
      simp only [Option.bind_some]
      rw [ofNat_n (by omega)]
      unfold mn
      congr 1
      split <;> omega
theorem decG_u (u : Nat) (hl : u ≤ 4294967296) : decG 0 (Lib.decDigits u) = some (u : Int) :=
  decG_dd 20 u (by have : (10 : Nat) ^ 20 = 100000000000000000000 := by decide
                   omega) (by decide) hl
theorem intL_pos (u : Nat) (hu : u ≤ 2147483647) : intL (Lib.decDigits u) = u := by
  have hne := dd_ne u
  have hd := dd_dig u (by omega)
  have e1 : intD (Lib.decDigits u) = Lib.decDigits u ∧ intM (Lib.decDigits u) = false := by
    cases h : Lib.decDigits u with
    | nil => exact absurd h hne
    | cons d t =>
      have hf := isD_facts (hd d (by rw [h]; simp))
      exact ⟨if_neg (by omega), decide_eq_false (by omega)⟩
  unfold intL
  rw [e1.1, if_neg hne, decG_u u (by omega), e1.2]
  show mn (u : Int) 2147483647 = u
  unfold mn
  split <;> omega
theorem intL_minus (u : Nat) (hu : u ≤ 2147483648) : intL ([45] ++ Lib.decDigits u) = -(u : Int) := by
  unfold intL
  rw [show intD ([45] ++ Lib.decDigits u) = Lib.decDigits u from rfl, if_neg (dd_ne u), decG_u u (by omega), show intM ([45] ++ Lib.decDigits u) = true from rfl]
  show mx (-(u : Int)) (-2147483648) = -(u : Int)
  unfold mx
  split <;> omega
/-- A numeral: its sign and digits. -/
def nSg (n : Int) : List UInt8 := if n < 0 then [45] else []
def nDs (n : Int) : List UInt8 := Lib.decDigits n.natAbs
theorem itoa_parts (n : Int) : Lib.itoa n = nSg n ++ nDs n := by
  unfold Lib.itoa nSg nDs
  by_cases h : n < 0
  · rw [if_pos h, if_pos h]; rfl
  · rw [if_neg h, if_neg h, show n.toNat = n.natAbs by omega]; rfl
theorem nSg_ok (n : Int) : okSg (nSg n) := by
  unfold nSg
  split
  · exact .inr (.inr rfl)
  · exact .inl rfl
theorem nDs_ne (n : Int) : nDs n ≠ [] := dd_ne _
theorem nDs_dig (n : Int) (h0 : -2147483648 ≤ n) (h1 : n ≤ 2147483647) : ∀ b, b ∈ nDs n → isD b = true := dd_dig _ (by omega)
theorem nInt (n : Int) (h0 : -2147483648 ≤ n) (h1 : n ≤ 2147483647) : intL (nSg n ++ nDs n) = n := by
  unfold nSg nDs
  by_cases h : n < 0
  · rw [if_pos h, intL_minus _ (by omega)]; omega
  · rw [if_neg h]
    show intL (Lib.decDigits n.natAbs) = n
    rw [intL_pos _ (by omega)]; omega
theorem nSg_plain (n : Int) : ∀ b, b ∈ nSg n → plainU b = true := by
  unfold nSg
  split
  · intro b hb; simp at hb; subst hb; rfl
  · intro b hb; cases hb
theorem nDs_plain (n : Int) (h0 : -2147483648 ≤ n) (h1 : n ≤ 2147483647) : ∀ b, b ∈ nDs n → plainU b = true := fun b hb => isD_plain (nDs_dig n h0 h1 b hb)

theorem lit_plain {l : List UInt8} (h : l.all plainU = true) : ∀ b, b ∈ l → plainU b = true := List.all_eq_true.1 h
theorem app_plain {a c : List UInt8} (ha : ∀ b, b ∈ a → plainU b = true) (hc : ∀ b, b ∈ c → plainU b = true) : ∀ b, b ∈ a ++ c → plainU b = true := fun b hb => (List.mem_append.1 hb).elim (ha b) (hc b)
theorem itoa_plain (n : Int) (h0 : -2147483648 ≤ n) (h1 : n ≤ 2147483647) : ∀ b, b ∈ Lib.itoa n → plainU b = true := by
  rw [itoa_parts]
  exact app_plain (nSg_plain n) (nDs_plain n h0 h1)
/-- A number, and what is behind it. -/
theorem tok_num {sgn ds : List UInt8} {r : List Int} (hs : okSg sgn) (hne : ds ≠ []) (hd : ∀ b, b ∈ ds → isD b = true) (hr : digB (sg r 0) = false) (hdot : dotB r = false) (hexp : (expB r && digB (sg r (sgK r : Nat))) = false) (hn : nmsB r 0 = false) (hp : ¬ sg r 0 = 37) {V : Int} (hV : intL (sgn ++ ds) = V) {ts : List S49} (h : TS r ts) :
    TS (asc sgn ++ (asc ds ++ r)) (⟨10, ⟨#[]⟩, V, true, !sgn.isEmpty, false⟩ :: ts) := by
  obtain ⟨h1, h2, h3⟩ := numB_sgn hs hne hd r
  have h4 := numT_std hs hne hd hr hdot hexp
  rw [hn, if_neg (by simp), if_neg hp, hV] at h4
  exact .cons _ r _ ts (h1.trans h4) h2 h3 h
theorem tok_dim {sgn ds ns : List UInt8} {r : List Int} (hs : okSg sgn) (hne : ds ≠ []) (hd : ∀ b, b ∈ ds → isD b = true) (hr : digB (sg (asc ns ++ r) 0) = false) (hdot : dotB (asc ns ++ r) = false) (hexp : (expB (asc ns ++ r) && digB (sg (asc ns ++ r) (sgK (asc ns ++ r) : Nat))) = false) (hn : nmsB (asc ns ++ r) 0 = true) (hns : ∀ b, b ∈ ns → isN b = true) (hr2 : namB (sg r 0) = false) (he : escB r 0 = false) {V : Int} (hV : intL (sgn ++ ds) = V) {ts : List S49} (h : TS r ts) :
    TS (asc sgn ++ (asc ds ++ (asc ns ++ r))) (⟨12, ⟨ns.toArray⟩, V, true, !sgn.isEmpty, false⟩ :: ts) := by
  obtain ⟨h1, h2, h3⟩ := numB_sgn hs hne hd (asc ns ++ r)
  have h4 := numT_std hs hne hd hr hdot hexp
  rw [hn, if_pos rfl, nameL_asc ns r hns hr2 he, hV] at h4
  exact .cons _ r _ ts (h1.trans h4) h2 h3 h
theorem lit_name {l : List UInt8} (h : l.all isN = true) : ∀ b, b ∈ l → isN b = true := List.all_eq_true.1 h
theorem wd0 (n : Int) (h0 : -2147483648 ≤ n) (h1 : n ≤ 2147483647) : prsP (trimN (nodesS (decB n))) = (0, n, 0) := by
  have hT : TS (asc (Lib.itoa n)) [⟨10, ⟨#[]⟩, n, true, !(nSg n).isEmpty, false⟩] := by
    have h := tok_num (r := []) (nSg_ok n) (nDs_ne n) (nDs_dig n h0 h1) rfl rfl rfl rfl (by decide) (nInt n h0 h1) .nil
    rw [List.append_nil] at h
    rw [itoa_parts, asc_app]
    exact h
  unfold decB
  rw [hT.nodes (itoa_plain n h0 h1)]
  generalize (!(nSg n).isEmpty) = S
  rfl
theorem wd3 (n : Int) (h0 : -2147483648 ≤ n) (h1 : n ≤ 2147483647) : prsP (trimN (nodesS (decB n ++ ⟨#[46, 53]⟩))) = (0, 0, 2) := by
  have hT : TS (asc (Lib.itoa n ++ [46, 53])) [⟨10, ⟨#[]⟩, 0, false, !(nSg n).isEmpty, false⟩] := by
    obtain ⟨g1, g2, g3⟩ := numB_sgn (nSg_ok n) (nDs_ne n) (nDs_dig n h0 h1) (asc [46, 53])
    rw [itoa_parts, asc_app, asc_app, List.append_assoc]
    exact .cons _ [] _ [] (g1.trans (numT_dot (nSg_ok n) (nDs_ne n) (nDs_dig n h0 h1))) g2 g3 .nil
  have e : decB n ++ ⟨#[46, 53]⟩ = ⟨(Lib.itoa n ++ [46, 53]).toArray⟩ := str_app _ [46, 53]
  rw [e, hT.nodes (app_plain (itoa_plain n h0 h1) (lit_plain rfl))]
  generalize (!(nSg n).isEmpty) = S
  rfl
theorem close_tok : TS (asc [41]) [⟨20, ⟨#[41]⟩, 0, false, false, false⟩] := .cons (asc [41]) [] ⟨20, ⟨#[41]⟩, 0, false, false, false⟩ [] (by kernel_rfl) (show (0 : Int) ≤ 41 by decide) rfl .nil
theorem wd4 (n : Int) (h0 : -2147483648 ≤ n) (h1 : n ≤ 2147483647) : prsP (trimN (nodesS (⟨#[40]⟩ ++ decB n ++ ⟨#[41]⟩))) = (0, 0, 2) := by
  have hT : TS (asc ([40] ++ (Lib.itoa n ++ [41]))) [⟨19, ⟨#[40]⟩, 0, false, false, false⟩, ⟨10, ⟨#[]⟩, n, true, !(nSg n).isEmpty, false⟩, ⟨20, ⟨#[41]⟩, 0, false, false, false⟩] := by
    have h := tok_num (r := asc [41]) (nSg_ok n) (nDs_ne n) (nDs_dig n h0 h1) rfl rfl rfl rfl (by decide) (nInt n h0 h1) close_tok
    rw [asc_app, asc_app, itoa_parts, asc_app, List.append_assoc]
    exact .cons (40 :: _) _ _ _ rfl (show (0 : Int) ≤ 40 by decide) rfl h
  have e : (⟨#[40]⟩ : ByteArray) ++ decB n ++ ⟨#[41]⟩ = ⟨([40] ++ (Lib.itoa n ++ [41])).toArray⟩ := by
    rw [← List.append_assoc]
    exact (congrArg (· ++ (⟨#[41]⟩ : ByteArray)) (str_app [40] (Lib.itoa n))).trans (str_app _ [41])
  rw [e, hT.nodes (app_plain (lit_plain rfl) (app_plain (itoa_plain n h0 h1) (lit_plain rfl)))]
  generalize (!(nSg n).isEmpty) = S
  rfl
theorem wd10 (n : Int) (h0 : -2147483648 ≤ n) (h1 : n ≤ 2147483647) : prsP (trimN (nodesS (⟨#[43]⟩ ++ decB n ++ ⟨#[120]⟩))) = (0, 0, 2) := by
  have e : (⟨#[43]⟩ : ByteArray) ++ decB n ++ ⟨#[120]⟩ = ⟨([43] ++ (Lib.itoa n ++ [120])).toArray⟩ := by
    rw [← List.append_assoc]
    exact (congrArg (· ++ (⟨#[120]⟩ : ByteArray)) (str_app [43] (Lib.itoa n))).trans (str_app _ [120])
  have hp := app_plain (a := [43]) (lit_plain rfl) (app_plain (itoa_plain n h0 h1) (lit_plain (l := [120]) rfl))
  by_cases hn : n < 0
  · have hsg : nSg n = [45] := if_pos hn
    have hT : TS (asc ([43] ++ (Lib.itoa n ++ [120]))) [⟨9, ⟨#[43]⟩, 0, false, false, false⟩, ⟨12, ⟨#[120]⟩, n, true, true, false⟩] := by
      have h := tok_dim (ns := [120]) (r := []) (nSg_ok n) (nDs_ne n) (nDs_dig n h0 h1) rfl rfl rfl rfl (lit_name rfl) rfl rfl (nInt n h0 h1) .nil
      rw [List.append_nil, hsg] at h
      rw [asc_app, asc_app, itoa_parts, hsg, asc_app, List.append_assoc]
      exact .cons (43 :: 45 :: _) _ _ _ rfl (show (0 : Int) ≤ 43 by decide) rfl h
    rw [e, hT.nodes hp]
    rfl
  · have hsg : nSg n = [] := if_neg hn
    obtain ⟨V, hV⟩ : ∃ V, intL ([43] ++ nDs n) = V := ⟨_, rfl⟩
    have hT : TS (asc ([43] ++ (Lib.itoa n ++ [120]))) [⟨12, ⟨#[120]⟩, V, true, true, false⟩] := by
      have h := tok_dim (sgn := [43]) (ns := [120]) (r := []) (.inr (.inl rfl)) (nDs_ne n) (nDs_dig n h0 h1) rfl rfl rfl rfl (lit_name rfl) rfl rfl hV .nil
      rw [List.append_nil] at h
      rw [asc_app, asc_app, itoa_parts, hsg, asc_app]
      exact h
    rw [e, hT.nodes hp]
    rfl
theorem wd1 : prsP (trimN (nodesS ⟨#[111, 68, 100]⟩)) = (2, 1, 0) := by kernel_rfl
theorem wd2 : prsP (trimN (nodesS ⟨#[32, 69, 86, 69, 78, 32]⟩)) = (2, 0, 0) := by kernel_rfl
theorem wd5 : prsP (trimN (nodesS ⟨#[111, 100, 100, 32, 101, 118, 101, 110]⟩)) = (0, 0, 2) := by kernel_rfl
theorem wd6 : prsP (trimN (nodesS ⟨#[110, 43]⟩)) = (0, 0, 2) := by kernel_rfl
theorem wd7 : prsP (trimN (nodesS ⟨#[43, 32, 110]⟩)) = (0, 0, 2) := by kernel_rfl
theorem wd8 : prsP (trimN (nodesS ⟨#[50, 32, 110]⟩)) = (0, 0, 2) := by kernel_rfl
theorem wd9 : prsP (trimN (nodesS ⟨#[110, 45, 110]⟩)) = (0, 0, 2) := by kernel_rfl
theorem wd11 : prsP (trimN (nodesS ⟨#[]⟩)) = (0, 0, 2) := by kernel_rfl

theorem upd_ad {w w1 w2 : World} {o : Obj} {q : Nat} (hB : Below w.heap.size w w1) (hT : TabP w1) (hb : Below ((w1.alloc o).drewN q).heap.size ((w1.alloc o).drewN q) w2) : Below w.heap.size w w2 ∧ TabP w2 := by
  have h0 : Below w.heap.size w ((w1.alloc o).drewN q) := pw_below_drewN (hB.alloc hB.size o) q
  have h1 : TabP ((w1.alloc o).drewN q) := tabP_below hT (pw_below_drewN (below_alloc (Below.refl _ _) o) q)
  exact ⟨h0.trans (hb.mono h0.size), tabP_below h1 hb⟩
theorem Round_f (k : Int) : ∃ i : Nat, i < 12 ∧ fleuronalike_Round.f k 12 = some (i : Int) := by
  have h1 : -12 < k.tmod 12 ∧ k.tmod 12 < 12 := ⟨by have := Int.lt_tmod_of_pos k (b := 12) (by decide); omega, Int.tmod_lt_of_pos k (by decide)⟩
  have e : wrap64 (k.tmod 12 + 12) = k.tmod 12 + 12 := by unfold wrap64; omega
  have h2 := Int.tmod_eq_emod_of_nonneg (a := k.tmod 12 + 12) (b := 12) (by omega)
  refine ⟨((k.tmod 12 + 12) % 12).toNat, by omega, ?_⟩
  unfold fleuronalike_Round.f
  rw [if_neg (by decide), e, h2]
  congr 1
  omega
set_option maxHeartbeats 8000000 in
set_option maxRecDepth 100000 in
theorem lawWords_g0 (n k : Int) (h0 : n < -2147483648) (w : World) (ht : TabP w) :
    Calls Tryd.prog 6 #[.int .i64 n, .int .i64 k] w fun e w' => e = .returned (.bool true) ∧ Below w.heap.size w w' := by
  have HT := Aside0.mk ht
  have HB := Aside0.mk (Below.refl w.heap.size w)
  clear ht
  have d0 : decide (n < -2147483648) = true := decide_eq_true h0
  go_enter Tryd.func6, Tryd.ntmps6
  go_wp2_with (go_at_call 7; refine (awake_c _ HT.out).mono ?_; rintro e w1 ⟨rfl, hb⟩; have h := HB.out.trans (hb.mono HB.out.size); have h2 := tabP_below HT.out hb; clear HB HT; have HB := Aside0.mk h; have HT := Aside0.mk h2; clear hb h h2)
  go_ret
  exact ⟨rfl, HB.out⟩
set_option maxHeartbeats 8000000 in
set_option maxRecDepth 100000 in
theorem lawWords_g1 (n k : Int) (h0 : ¬ n < -2147483648) (h1 : 2147483648 ≤ n) (w : World) (ht : TabP w) :
    Calls Tryd.prog 6 #[.int .i64 n, .int .i64 k] w fun e w' => e = .returned (.bool true) ∧ Below w.heap.size w w' := by
  have HT := Aside0.mk ht
  have HB := Aside0.mk (Below.refl w.heap.size w)
  clear ht
  have d0 : decide (n < -2147483648) = false := decide_eq_false h0
  have d1 : decide (2147483648 ≤ n) = true := decide_eq_true h1
  go_enter Tryd.func6, Tryd.ntmps6
  go_wp2_with (go_at_call 7; refine (awake_c _ HT.out).mono ?_; rintro e w1 ⟨rfl, hb⟩; have h := HB.out.trans (hb.mono HB.out.size); have h2 := tabP_below HT.out hb; clear HB HT; have HB := Aside0.mk h; have HT := Aside0.mk h2; clear hb h h2)
  go_ret
  exact ⟨rfl, HB.out⟩
set_option maxHeartbeats 8000000 in
set_option maxRecDepth 100000 in
theorem lawWords_0 (n k : Int) (hn0 : -2147483648 ≤ n) (hn1 : n ≤ 2147483647) (hk : fleuronalike_Round.f k 12 = some 0) (w : World) (ht : TabP w) :
    Calls Tryd.prog 6 #[.int .i64 n, .int .i64 k] w fun e w' => e = .returned (.bool true) ∧ Below w.heap.size w w' := by
  have HT := Aside0.mk ht
  have HB := Aside0.mk (Below.refl w.heap.size w)
  clear ht
  have HK := Aside0.mk hk
  have HD := Aside0.mk (fun W => Decimal_c n (by omega) (by omega) W)
  have hza := decB_size n (by omega) (by omega)
  have WD := Aside0.mk (wd0 n hn0 hn1)
  have HZ := Aside0.mk (show (decB n : ByteArray).size ≤ 1000000 by omega)
  have d0 : decide (n < -2147483648) = false := decide_eq_false (by omega)
  have d1 : decide (2147483648 ≤ n) = false := decide_eq_false (by omega)
  clear hk
  go_enter Tryd.func6, Tryd.ntmps6
  go_wp2_with (first
    | (go_at_call 15; refine (HD.out _).mono ?_; rintro e w1 ⟨rfl, hb⟩; have h := HB.out.trans (hb.mono HB.out.size); have h2 := tabP_below HT.out hb; clear HB HT; have HB := Aside0.mk h; have HT := Aside0.mk h2; clear hb h h2)
    | (go_at_call 16; refine (fleuronalike_Round.calls k 12 0 _ HK.out).mono ?_; rintro e w1 ⟨rfl, ⟨q, rfl⟩⟩)
    | (go_at_call 8; refine (nodes_c (decB n) _ HZ.out).mono ?_; rintro e w1 ⟨v, rfl, hr, hb⟩; obtain ⟨A, c, rfl, -, -⟩ := Kd.R_reads hr; have HR := Aside0.mk hr; clear hr; have h := upd_ad HB.out HT.out hb; clear HB HT; have HB := Aside0.mk h.1; have HT := Aside0.mk h.2; clear hb h)
    | (go_at_call 9; refine (prsS_c (decB n) HZ.out _ _ _ HR.out).mono ?_; rw [WD.out]; rintro e w1 ⟨rfl, hb⟩; have h := HB.out.trans (hb.mono HB.out.size); have h2 := tabP_below HT.out hb; clear HB HT; have HB := Aside0.mk h; have HT := Aside0.mk h2; clear hb h h2)
    | (go_at_call 7; refine (awake_c _ HT.out).mono ?_; rintro e w1 ⟨rfl, hb⟩; have h := HB.out.trans (hb.mono HB.out.size); have h2 := tabP_below HT.out hb; clear HB HT; have HB := Aside0.mk h; have HT := Aside0.mk h2; clear hb h h2))
  go_ret
  exact ⟨rfl, HB.out⟩
set_option maxHeartbeats 8000000 in
set_option maxRecDepth 100000 in
theorem lawWords_1 (n k : Int) (hn0 : -2147483648 ≤ n) (hn1 : n ≤ 2147483647) (hk : fleuronalike_Round.f k 12 = some 1) (w : World) (ht : TabP w) :
    Calls Tryd.prog 6 #[.int .i64 n, .int .i64 k] w fun e w' => e = .returned (.bool true) ∧ Below w.heap.size w w' := by
  have HT := Aside0.mk ht
  have HB := Aside0.mk (Below.refl w.heap.size w)
  clear ht
  have HK := Aside0.mk hk
  have HD := Aside0.mk (fun W => Decimal_c n (by omega) (by omega) W)
  have hza := decB_size n (by omega) (by omega)
  have WD := Aside0.mk (wd1)
  have HZ := Aside0.mk (show (⟨#[111, 68, 100]⟩ : ByteArray).size ≤ 1000000 by decide)
  have d0 : decide (n < -2147483648) = false := decide_eq_false (by omega)
  have d1 : decide (2147483648 ≤ n) = false := decide_eq_false (by omega)
  clear hk
  go_enter Tryd.func6, Tryd.ntmps6
  go_wp2_with (first
    | (go_at_call 15; refine (HD.out _).mono ?_; rintro e w1 ⟨rfl, hb⟩; have h := HB.out.trans (hb.mono HB.out.size); have h2 := tabP_below HT.out hb; clear HB HT; have HB := Aside0.mk h; have HT := Aside0.mk h2; clear hb h h2)
    | (go_at_call 16; refine (fleuronalike_Round.calls k 12 1 _ HK.out).mono ?_; rintro e w1 ⟨rfl, ⟨q, rfl⟩⟩)
    | (go_at_call 8; refine (nodes_c (⟨#[111, 68, 100]⟩) _ HZ.out).mono ?_; rintro e w1 ⟨v, rfl, hr, hb⟩; obtain ⟨A, c, rfl, -, -⟩ := Kd.R_reads hr; have HR := Aside0.mk hr; clear hr; have h := upd_ad HB.out HT.out hb; clear HB HT; have HB := Aside0.mk h.1; have HT := Aside0.mk h.2; clear hb h)
    | (go_at_call 9; refine (prsS_c (⟨#[111, 68, 100]⟩) HZ.out _ _ _ HR.out).mono ?_; rw [WD.out]; rintro e w1 ⟨rfl, hb⟩; have h := HB.out.trans (hb.mono HB.out.size); have h2 := tabP_below HT.out hb; clear HB HT; have HB := Aside0.mk h; have HT := Aside0.mk h2; clear hb h h2)
    | (go_at_call 7; refine (awake_c _ HT.out).mono ?_; rintro e w1 ⟨rfl, hb⟩; have h := HB.out.trans (hb.mono HB.out.size); have h2 := tabP_below HT.out hb; clear HB HT; have HB := Aside0.mk h; have HT := Aside0.mk h2; clear hb h h2))
  go_ret
  exact ⟨rfl, HB.out⟩
set_option maxHeartbeats 8000000 in
set_option maxRecDepth 100000 in
theorem lawWords_2 (n k : Int) (hn0 : -2147483648 ≤ n) (hn1 : n ≤ 2147483647) (hk : fleuronalike_Round.f k 12 = some 2) (w : World) (ht : TabP w) :
    Calls Tryd.prog 6 #[.int .i64 n, .int .i64 k] w fun e w' => e = .returned (.bool true) ∧ Below w.heap.size w w' := by
  have HT := Aside0.mk ht
  have HB := Aside0.mk (Below.refl w.heap.size w)
  clear ht
  have HK := Aside0.mk hk
  have HD := Aside0.mk (fun W => Decimal_c n (by omega) (by omega) W)
  have hza := decB_size n (by omega) (by omega)
  have WD := Aside0.mk (wd2)
  have HZ := Aside0.mk (show (⟨#[32, 69, 86, 69, 78, 32]⟩ : ByteArray).size ≤ 1000000 by decide)
  have d0 : decide (n < -2147483648) = false := decide_eq_false (by omega)
  have d1 : decide (2147483648 ≤ n) = false := decide_eq_false (by omega)
  clear hk
  go_enter Tryd.func6, Tryd.ntmps6
  go_wp2_with (first
    | (go_at_call 15; refine (HD.out _).mono ?_; rintro e w1 ⟨rfl, hb⟩; have h := HB.out.trans (hb.mono HB.out.size); have h2 := tabP_below HT.out hb; clear HB HT; have HB := Aside0.mk h; have HT := Aside0.mk h2; clear hb h h2)
    | (go_at_call 16; refine (fleuronalike_Round.calls k 12 2 _ HK.out).mono ?_; rintro e w1 ⟨rfl, ⟨q, rfl⟩⟩)
    | (go_at_call 8; refine (nodes_c (⟨#[32, 69, 86, 69, 78, 32]⟩) _ HZ.out).mono ?_; rintro e w1 ⟨v, rfl, hr, hb⟩; obtain ⟨A, c, rfl, -, -⟩ := Kd.R_reads hr; have HR := Aside0.mk hr; clear hr; have h := upd_ad HB.out HT.out hb; clear HB HT; have HB := Aside0.mk h.1; have HT := Aside0.mk h.2; clear hb h)
    | (go_at_call 9; refine (prsS_c (⟨#[32, 69, 86, 69, 78, 32]⟩) HZ.out _ _ _ HR.out).mono ?_; rw [WD.out]; rintro e w1 ⟨rfl, hb⟩; have h := HB.out.trans (hb.mono HB.out.size); have h2 := tabP_below HT.out hb; clear HB HT; have HB := Aside0.mk h; have HT := Aside0.mk h2; clear hb h h2)
    | (go_at_call 7; refine (awake_c _ HT.out).mono ?_; rintro e w1 ⟨rfl, hb⟩; have h := HB.out.trans (hb.mono HB.out.size); have h2 := tabP_below HT.out hb; clear HB HT; have HB := Aside0.mk h; have HT := Aside0.mk h2; clear hb h h2))
  go_ret
  exact ⟨rfl, HB.out⟩
set_option maxHeartbeats 8000000 in
set_option maxRecDepth 100000 in
theorem lawWords_3 (n k : Int) (hn0 : -2147483648 ≤ n) (hn1 : n ≤ 2147483647) (hk : fleuronalike_Round.f k 12 = some 3) (w : World) (ht : TabP w) :
    Calls Tryd.prog 6 #[.int .i64 n, .int .i64 k] w fun e w' => e = .returned (.bool true) ∧ Below w.heap.size w w' := by
  have HT := Aside0.mk ht
  have HB := Aside0.mk (Below.refl w.heap.size w)
  clear ht
  have HK := Aside0.mk hk
  have HD := Aside0.mk (fun W => Decimal_c n (by omega) (by omega) W)
  have hza := decB_size n (by omega) (by omega)
  have WD := Aside0.mk (wd3 n hn0 hn1)
  have HZ := Aside0.mk (show (decB n ++ ⟨#[46, 53]⟩ : ByteArray).size ≤ 1000000 by simp only [ByteArray.size_append]; have e1 : (⟨#[46, 53]⟩ : ByteArray).size = 2 := rfl; have e2 : (⟨#[40]⟩ : ByteArray).size = 1 := rfl; have e3 : (⟨#[41]⟩ : ByteArray).size = 1 := rfl; have e4 : (⟨#[43]⟩ : ByteArray).size = 1 := rfl; have e5 : (⟨#[120]⟩ : ByteArray).size = 1 := rfl; omega)
  obtain ⟨s, hs⟩ : ∃ s : ByteArray, decB n ++ ⟨#[46, 53]⟩ = s := ⟨_, rfl⟩
  rw [hs] at WD HZ
  have d0 : decide (n < -2147483648) = false := decide_eq_false (by omega)
  have d1 : decide (2147483648 ≤ n) = false := decide_eq_false (by omega)
  clear hk
  go_enter Tryd.func6, Tryd.ntmps6
  go_wp2_with (first
    | (go_at_call 15; refine (HD.out _).mono ?_; rintro e w1 ⟨rfl, hb⟩; have h := HB.out.trans (hb.mono HB.out.size); have h2 := tabP_below HT.out hb; clear HB HT; have HB := Aside0.mk h; have HT := Aside0.mk h2; clear hb h h2)
    | (go_at_call 16; refine (fleuronalike_Round.calls k 12 3 _ HK.out).mono ?_; rintro e w1 ⟨rfl, ⟨q, rfl⟩⟩)
    | (go_at_call 8; refine (nodes_c (s) _ HZ.out).mono ?_; rintro e w1 ⟨v, rfl, hr, hb⟩; obtain ⟨A, c, rfl, -, -⟩ := Kd.R_reads hr; have HR := Aside0.mk hr; clear hr; have h := upd_ad HB.out HT.out hb; clear HB HT; have HB := Aside0.mk h.1; have HT := Aside0.mk h.2; clear hb h)
    | (go_at_call 9; refine (prsS_c (s) HZ.out _ _ _ HR.out).mono ?_; rw [WD.out]; rintro e w1 ⟨rfl, hb⟩; have h := HB.out.trans (hb.mono HB.out.size); have h2 := tabP_below HT.out hb; clear HB HT; have HB := Aside0.mk h; have HT := Aside0.mk h2; clear hb h h2)
    | (go_at_call 7; refine (awake_c _ HT.out).mono ?_; rintro e w1 ⟨rfl, hb⟩; have h := HB.out.trans (hb.mono HB.out.size); have h2 := tabP_below HT.out hb; clear HB HT; have HB := Aside0.mk h; have HT := Aside0.mk h2; clear hb h h2))
  go_ret
  exact ⟨rfl, HB.out⟩
set_option maxHeartbeats 8000000 in
set_option maxRecDepth 100000 in
theorem lawWords_4 (n k : Int) (hn0 : -2147483648 ≤ n) (hn1 : n ≤ 2147483647) (hk : fleuronalike_Round.f k 12 = some 4) (w : World) (ht : TabP w) :
    Calls Tryd.prog 6 #[.int .i64 n, .int .i64 k] w fun e w' => e = .returned (.bool true) ∧ Below w.heap.size w w' := by
  have HT := Aside0.mk ht
  have HB := Aside0.mk (Below.refl w.heap.size w)
  clear ht
  have HK := Aside0.mk hk
  have HD := Aside0.mk (fun W => Decimal_c n (by omega) (by omega) W)
  have hza := decB_size n (by omega) (by omega)
  have WD := Aside0.mk (wd4 n hn0 hn1)
  have HZ := Aside0.mk (show (⟨#[40]⟩ ++ decB n ++ ⟨#[41]⟩ : ByteArray).size ≤ 1000000 by simp only [ByteArray.size_append]; have e1 : (⟨#[46, 53]⟩ : ByteArray).size = 2 := rfl; have e2 : (⟨#[40]⟩ : ByteArray).size = 1 := rfl; have e3 : (⟨#[41]⟩ : ByteArray).size = 1 := rfl; have e4 : (⟨#[43]⟩ : ByteArray).size = 1 := rfl; have e5 : (⟨#[120]⟩ : ByteArray).size = 1 := rfl; omega)
  obtain ⟨s, hs⟩ : ∃ s : ByteArray, ⟨#[40]⟩ ++ decB n ++ ⟨#[41]⟩ = s := ⟨_, rfl⟩
  rw [hs] at WD HZ
  have d0 : decide (n < -2147483648) = false := decide_eq_false (by omega)
  have d1 : decide (2147483648 ≤ n) = false := decide_eq_false (by omega)
  clear hk
  go_enter Tryd.func6, Tryd.ntmps6
  go_wp2_with (first
    | (go_at_call 15; refine (HD.out _).mono ?_; rintro e w1 ⟨rfl, hb⟩; have h := HB.out.trans (hb.mono HB.out.size); have h2 := tabP_below HT.out hb; clear HB HT; have HB := Aside0.mk h; have HT := Aside0.mk h2; clear hb h h2)
    | (go_at_call 16; refine (fleuronalike_Round.calls k 12 4 _ HK.out).mono ?_; rintro e w1 ⟨rfl, ⟨q, rfl⟩⟩)
    | (go_at_call 8; refine (nodes_c (s) _ HZ.out).mono ?_; rintro e w1 ⟨v, rfl, hr, hb⟩; obtain ⟨A, c, rfl, -, -⟩ := Kd.R_reads hr; have HR := Aside0.mk hr; clear hr; have h := upd_ad HB.out HT.out hb; clear HB HT; have HB := Aside0.mk h.1; have HT := Aside0.mk h.2; clear hb h)
    | (go_at_call 9; refine (prsS_c (s) HZ.out _ _ _ HR.out).mono ?_; rw [WD.out]; rintro e w1 ⟨rfl, hb⟩; have h := HB.out.trans (hb.mono HB.out.size); have h2 := tabP_below HT.out hb; clear HB HT; have HB := Aside0.mk h; have HT := Aside0.mk h2; clear hb h h2)
    | (go_at_call 7; refine (awake_c _ HT.out).mono ?_; rintro e w1 ⟨rfl, hb⟩; have h := HB.out.trans (hb.mono HB.out.size); have h2 := tabP_below HT.out hb; clear HB HT; have HB := Aside0.mk h; have HT := Aside0.mk h2; clear hb h h2))
  go_ret
  exact ⟨rfl, HB.out⟩
set_option maxHeartbeats 8000000 in
set_option maxRecDepth 100000 in
theorem lawWords_5 (n k : Int) (hn0 : -2147483648 ≤ n) (hn1 : n ≤ 2147483647) (hk : fleuronalike_Round.f k 12 = some 5) (w : World) (ht : TabP w) :
    Calls Tryd.prog 6 #[.int .i64 n, .int .i64 k] w fun e w' => e = .returned (.bool true) ∧ Below w.heap.size w w' := by
  have HT := Aside0.mk ht
  have HB := Aside0.mk (Below.refl w.heap.size w)
  clear ht
  have HK := Aside0.mk hk
  have HD := Aside0.mk (fun W => Decimal_c n (by omega) (by omega) W)
  have hza := decB_size n (by omega) (by omega)
  have WD := Aside0.mk (wd5)
  have HZ := Aside0.mk (show (⟨#[111, 100, 100, 32, 101, 118, 101, 110]⟩ : ByteArray).size ≤ 1000000 by decide)
  have d0 : decide (n < -2147483648) = false := decide_eq_false (by omega)
  have d1 : decide (2147483648 ≤ n) = false := decide_eq_false (by omega)
  clear hk
  go_enter Tryd.func6, Tryd.ntmps6
  go_wp2_with (first
    | (go_at_call 15; refine (HD.out _).mono ?_; rintro e w1 ⟨rfl, hb⟩; have h := HB.out.trans (hb.mono HB.out.size); have h2 := tabP_below HT.out hb; clear HB HT; have HB := Aside0.mk h; have HT := Aside0.mk h2; clear hb h h2)
    | (go_at_call 16; refine (fleuronalike_Round.calls k 12 5 _ HK.out).mono ?_; rintro e w1 ⟨rfl, ⟨q, rfl⟩⟩)
    | (go_at_call 8; refine (nodes_c (⟨#[111, 100, 100, 32, 101, 118, 101, 110]⟩) _ HZ.out).mono ?_; rintro e w1 ⟨v, rfl, hr, hb⟩; obtain ⟨A, c, rfl, -, -⟩ := Kd.R_reads hr; have HR := Aside0.mk hr; clear hr; have h := upd_ad HB.out HT.out hb; clear HB HT; have HB := Aside0.mk h.1; have HT := Aside0.mk h.2; clear hb h)
    | (go_at_call 9; refine (prsS_c (⟨#[111, 100, 100, 32, 101, 118, 101, 110]⟩) HZ.out _ _ _ HR.out).mono ?_; rw [WD.out]; rintro e w1 ⟨rfl, hb⟩; have h := HB.out.trans (hb.mono HB.out.size); have h2 := tabP_below HT.out hb; clear HB HT; have HB := Aside0.mk h; have HT := Aside0.mk h2; clear hb h h2)
    | (go_at_call 7; refine (awake_c _ HT.out).mono ?_; rintro e w1 ⟨rfl, hb⟩; have h := HB.out.trans (hb.mono HB.out.size); have h2 := tabP_below HT.out hb; clear HB HT; have HB := Aside0.mk h; have HT := Aside0.mk h2; clear hb h h2))
  go_ret
  exact ⟨rfl, HB.out⟩
set_option maxHeartbeats 8000000 in
set_option maxRecDepth 100000 in
theorem lawWords_6 (n k : Int) (hn0 : -2147483648 ≤ n) (hn1 : n ≤ 2147483647) (hk : fleuronalike_Round.f k 12 = some 6) (w : World) (ht : TabP w) :
    Calls Tryd.prog 6 #[.int .i64 n, .int .i64 k] w fun e w' => e = .returned (.bool true) ∧ Below w.heap.size w w' := by
  have HT := Aside0.mk ht
  have HB := Aside0.mk (Below.refl w.heap.size w)
  clear ht
  have HK := Aside0.mk hk
  have HD := Aside0.mk (fun W => Decimal_c n (by omega) (by omega) W)
  have hza := decB_size n (by omega) (by omega)
  have WD := Aside0.mk (wd6)
  have HZ := Aside0.mk (show (⟨#[110, 43]⟩ : ByteArray).size ≤ 1000000 by decide)
  have d0 : decide (n < -2147483648) = false := decide_eq_false (by omega)
  have d1 : decide (2147483648 ≤ n) = false := decide_eq_false (by omega)
  clear hk
  go_enter Tryd.func6, Tryd.ntmps6
  go_wp2_with (first
    | (go_at_call 15; refine (HD.out _).mono ?_; rintro e w1 ⟨rfl, hb⟩; have h := HB.out.trans (hb.mono HB.out.size); have h2 := tabP_below HT.out hb; clear HB HT; have HB := Aside0.mk h; have HT := Aside0.mk h2; clear hb h h2)
    | (go_at_call 16; refine (fleuronalike_Round.calls k 12 6 _ HK.out).mono ?_; rintro e w1 ⟨rfl, ⟨q, rfl⟩⟩)
    | (go_at_call 8; refine (nodes_c (⟨#[110, 43]⟩) _ HZ.out).mono ?_; rintro e w1 ⟨v, rfl, hr, hb⟩; obtain ⟨A, c, rfl, -, -⟩ := Kd.R_reads hr; have HR := Aside0.mk hr; clear hr; have h := upd_ad HB.out HT.out hb; clear HB HT; have HB := Aside0.mk h.1; have HT := Aside0.mk h.2; clear hb h)
    | (go_at_call 9; refine (prsS_c (⟨#[110, 43]⟩) HZ.out _ _ _ HR.out).mono ?_; rw [WD.out]; rintro e w1 ⟨rfl, hb⟩; have h := HB.out.trans (hb.mono HB.out.size); have h2 := tabP_below HT.out hb; clear HB HT; have HB := Aside0.mk h; have HT := Aside0.mk h2; clear hb h h2)
    | (go_at_call 7; refine (awake_c _ HT.out).mono ?_; rintro e w1 ⟨rfl, hb⟩; have h := HB.out.trans (hb.mono HB.out.size); have h2 := tabP_below HT.out hb; clear HB HT; have HB := Aside0.mk h; have HT := Aside0.mk h2; clear hb h h2))
  go_ret
  exact ⟨rfl, HB.out⟩
set_option maxHeartbeats 8000000 in
set_option maxRecDepth 100000 in
theorem lawWords_7 (n k : Int) (hn0 : -2147483648 ≤ n) (hn1 : n ≤ 2147483647) (hk : fleuronalike_Round.f k 12 = some 7) (w : World) (ht : TabP w) :
    Calls Tryd.prog 6 #[.int .i64 n, .int .i64 k] w fun e w' => e = .returned (.bool true) ∧ Below w.heap.size w w' := by
  have HT := Aside0.mk ht
  have HB := Aside0.mk (Below.refl w.heap.size w)
  clear ht
  have HK := Aside0.mk hk
  have HD := Aside0.mk (fun W => Decimal_c n (by omega) (by omega) W)
  have hza := decB_size n (by omega) (by omega)
  have WD := Aside0.mk (wd7)
  have HZ := Aside0.mk (show (⟨#[43, 32, 110]⟩ : ByteArray).size ≤ 1000000 by decide)
  have d0 : decide (n < -2147483648) = false := decide_eq_false (by omega)
  have d1 : decide (2147483648 ≤ n) = false := decide_eq_false (by omega)
  clear hk
  go_enter Tryd.func6, Tryd.ntmps6
  go_wp2_with (first
    | (go_at_call 15; refine (HD.out _).mono ?_; rintro e w1 ⟨rfl, hb⟩; have h := HB.out.trans (hb.mono HB.out.size); have h2 := tabP_below HT.out hb; clear HB HT; have HB := Aside0.mk h; have HT := Aside0.mk h2; clear hb h h2)
    | (go_at_call 16; refine (fleuronalike_Round.calls k 12 7 _ HK.out).mono ?_; rintro e w1 ⟨rfl, ⟨q, rfl⟩⟩)
    | (go_at_call 8; refine (nodes_c (⟨#[43, 32, 110]⟩) _ HZ.out).mono ?_; rintro e w1 ⟨v, rfl, hr, hb⟩; obtain ⟨A, c, rfl, -, -⟩ := Kd.R_reads hr; have HR := Aside0.mk hr; clear hr; have h := upd_ad HB.out HT.out hb; clear HB HT; have HB := Aside0.mk h.1; have HT := Aside0.mk h.2; clear hb h)
    | (go_at_call 9; refine (prsS_c (⟨#[43, 32, 110]⟩) HZ.out _ _ _ HR.out).mono ?_; rw [WD.out]; rintro e w1 ⟨rfl, hb⟩; have h := HB.out.trans (hb.mono HB.out.size); have h2 := tabP_below HT.out hb; clear HB HT; have HB := Aside0.mk h; have HT := Aside0.mk h2; clear hb h h2)
    | (go_at_call 7; refine (awake_c _ HT.out).mono ?_; rintro e w1 ⟨rfl, hb⟩; have h := HB.out.trans (hb.mono HB.out.size); have h2 := tabP_below HT.out hb; clear HB HT; have HB := Aside0.mk h; have HT := Aside0.mk h2; clear hb h h2))
  go_ret
  exact ⟨rfl, HB.out⟩
set_option maxHeartbeats 8000000 in
set_option maxRecDepth 100000 in
theorem lawWords_8 (n k : Int) (hn0 : -2147483648 ≤ n) (hn1 : n ≤ 2147483647) (hk : fleuronalike_Round.f k 12 = some 8) (w : World) (ht : TabP w) :
    Calls Tryd.prog 6 #[.int .i64 n, .int .i64 k] w fun e w' => e = .returned (.bool true) ∧ Below w.heap.size w w' := by
  have HT := Aside0.mk ht
  have HB := Aside0.mk (Below.refl w.heap.size w)
  clear ht
  have HK := Aside0.mk hk
  have HD := Aside0.mk (fun W => Decimal_c n (by omega) (by omega) W)
  have hza := decB_size n (by omega) (by omega)
  have WD := Aside0.mk (wd8)
  have HZ := Aside0.mk (show (⟨#[50, 32, 110]⟩ : ByteArray).size ≤ 1000000 by decide)
  have d0 : decide (n < -2147483648) = false := decide_eq_false (by omega)
  have d1 : decide (2147483648 ≤ n) = false := decide_eq_false (by omega)
  clear hk
  go_enter Tryd.func6, Tryd.ntmps6
  go_wp2_with (first
    | (go_at_call 15; refine (HD.out _).mono ?_; rintro e w1 ⟨rfl, hb⟩; have h := HB.out.trans (hb.mono HB.out.size); have h2 := tabP_below HT.out hb; clear HB HT; have HB := Aside0.mk h; have HT := Aside0.mk h2; clear hb h h2)
    | (go_at_call 16; refine (fleuronalike_Round.calls k 12 8 _ HK.out).mono ?_; rintro e w1 ⟨rfl, ⟨q, rfl⟩⟩)
    | (go_at_call 8; refine (nodes_c (⟨#[50, 32, 110]⟩) _ HZ.out).mono ?_; rintro e w1 ⟨v, rfl, hr, hb⟩; obtain ⟨A, c, rfl, -, -⟩ := Kd.R_reads hr; have HR := Aside0.mk hr; clear hr; have h := upd_ad HB.out HT.out hb; clear HB HT; have HB := Aside0.mk h.1; have HT := Aside0.mk h.2; clear hb h)
    | (go_at_call 9; refine (prsS_c (⟨#[50, 32, 110]⟩) HZ.out _ _ _ HR.out).mono ?_; rw [WD.out]; rintro e w1 ⟨rfl, hb⟩; have h := HB.out.trans (hb.mono HB.out.size); have h2 := tabP_below HT.out hb; clear HB HT; have HB := Aside0.mk h; have HT := Aside0.mk h2; clear hb h h2)
    | (go_at_call 7; refine (awake_c _ HT.out).mono ?_; rintro e w1 ⟨rfl, hb⟩; have h := HB.out.trans (hb.mono HB.out.size); have h2 := tabP_below HT.out hb; clear HB HT; have HB := Aside0.mk h; have HT := Aside0.mk h2; clear hb h h2))
  go_ret
  exact ⟨rfl, HB.out⟩
set_option maxHeartbeats 8000000 in
set_option maxRecDepth 100000 in
theorem lawWords_9 (n k : Int) (hn0 : -2147483648 ≤ n) (hn1 : n ≤ 2147483647) (hk : fleuronalike_Round.f k 12 = some 9) (w : World) (ht : TabP w) :
    Calls Tryd.prog 6 #[.int .i64 n, .int .i64 k] w fun e w' => e = .returned (.bool true) ∧ Below w.heap.size w w' := by
  have HT := Aside0.mk ht
  have HB := Aside0.mk (Below.refl w.heap.size w)
  clear ht
  have HK := Aside0.mk hk
  have HD := Aside0.mk (fun W => Decimal_c n (by omega) (by omega) W)
  have hza := decB_size n (by omega) (by omega)
  have WD := Aside0.mk (wd9)
  have HZ := Aside0.mk (show (⟨#[110, 45, 110]⟩ : ByteArray).size ≤ 1000000 by decide)
  have d0 : decide (n < -2147483648) = false := decide_eq_false (by omega)
  have d1 : decide (2147483648 ≤ n) = false := decide_eq_false (by omega)
  clear hk
  go_enter Tryd.func6, Tryd.ntmps6
  go_wp2_with (first
    | (go_at_call 15; refine (HD.out _).mono ?_; rintro e w1 ⟨rfl, hb⟩; have h := HB.out.trans (hb.mono HB.out.size); have h2 := tabP_below HT.out hb; clear HB HT; have HB := Aside0.mk h; have HT := Aside0.mk h2; clear hb h h2)
    | (go_at_call 16; refine (fleuronalike_Round.calls k 12 9 _ HK.out).mono ?_; rintro e w1 ⟨rfl, ⟨q, rfl⟩⟩)
    | (go_at_call 8; refine (nodes_c (⟨#[110, 45, 110]⟩) _ HZ.out).mono ?_; rintro e w1 ⟨v, rfl, hr, hb⟩; obtain ⟨A, c, rfl, -, -⟩ := Kd.R_reads hr; have HR := Aside0.mk hr; clear hr; have h := upd_ad HB.out HT.out hb; clear HB HT; have HB := Aside0.mk h.1; have HT := Aside0.mk h.2; clear hb h)
    | (go_at_call 9; refine (prsS_c (⟨#[110, 45, 110]⟩) HZ.out _ _ _ HR.out).mono ?_; rw [WD.out]; rintro e w1 ⟨rfl, hb⟩; have h := HB.out.trans (hb.mono HB.out.size); have h2 := tabP_below HT.out hb; clear HB HT; have HB := Aside0.mk h; have HT := Aside0.mk h2; clear hb h h2)
    | (go_at_call 7; refine (awake_c _ HT.out).mono ?_; rintro e w1 ⟨rfl, hb⟩; have h := HB.out.trans (hb.mono HB.out.size); have h2 := tabP_below HT.out hb; clear HB HT; have HB := Aside0.mk h; have HT := Aside0.mk h2; clear hb h h2))
  go_ret
  exact ⟨rfl, HB.out⟩
set_option maxHeartbeats 8000000 in
set_option maxRecDepth 100000 in
theorem lawWords_10 (n k : Int) (hn0 : -2147483648 ≤ n) (hn1 : n ≤ 2147483647) (hk : fleuronalike_Round.f k 12 = some 10) (w : World) (ht : TabP w) :
    Calls Tryd.prog 6 #[.int .i64 n, .int .i64 k] w fun e w' => e = .returned (.bool true) ∧ Below w.heap.size w w' := by
  have HT := Aside0.mk ht
  have HB := Aside0.mk (Below.refl w.heap.size w)
  clear ht
  have HK := Aside0.mk hk
  have HD := Aside0.mk (fun W => Decimal_c n (by omega) (by omega) W)
  have hza := decB_size n (by omega) (by omega)
  have WD := Aside0.mk (wd10 n hn0 hn1)
  have HZ := Aside0.mk (show (⟨#[43]⟩ ++ decB n ++ ⟨#[120]⟩ : ByteArray).size ≤ 1000000 by simp only [ByteArray.size_append]; have e1 : (⟨#[46, 53]⟩ : ByteArray).size = 2 := rfl; have e2 : (⟨#[40]⟩ : ByteArray).size = 1 := rfl; have e3 : (⟨#[41]⟩ : ByteArray).size = 1 := rfl; have e4 : (⟨#[43]⟩ : ByteArray).size = 1 := rfl; have e5 : (⟨#[120]⟩ : ByteArray).size = 1 := rfl; omega)
  obtain ⟨s, hs⟩ : ∃ s : ByteArray, ⟨#[43]⟩ ++ decB n ++ ⟨#[120]⟩ = s := ⟨_, rfl⟩
  rw [hs] at WD HZ
  have d0 : decide (n < -2147483648) = false := decide_eq_false (by omega)
  have d1 : decide (2147483648 ≤ n) = false := decide_eq_false (by omega)
  clear hk
  go_enter Tryd.func6, Tryd.ntmps6
  go_wp2_with (first
    | (go_at_call 15; refine (HD.out _).mono ?_; rintro e w1 ⟨rfl, hb⟩; have h := HB.out.trans (hb.mono HB.out.size); have h2 := tabP_below HT.out hb; clear HB HT; have HB := Aside0.mk h; have HT := Aside0.mk h2; clear hb h h2)
    | (go_at_call 16; refine (fleuronalike_Round.calls k 12 10 _ HK.out).mono ?_; rintro e w1 ⟨rfl, ⟨q, rfl⟩⟩)
    | (go_at_call 8; refine (nodes_c (s) _ HZ.out).mono ?_; rintro e w1 ⟨v, rfl, hr, hb⟩; obtain ⟨A, c, rfl, -, -⟩ := Kd.R_reads hr; have HR := Aside0.mk hr; clear hr; have h := upd_ad HB.out HT.out hb; clear HB HT; have HB := Aside0.mk h.1; have HT := Aside0.mk h.2; clear hb h)
    | (go_at_call 9; refine (prsS_c (s) HZ.out _ _ _ HR.out).mono ?_; rw [WD.out]; rintro e w1 ⟨rfl, hb⟩; have h := HB.out.trans (hb.mono HB.out.size); have h2 := tabP_below HT.out hb; clear HB HT; have HB := Aside0.mk h; have HT := Aside0.mk h2; clear hb h h2)
    | (go_at_call 7; refine (awake_c _ HT.out).mono ?_; rintro e w1 ⟨rfl, hb⟩; have h := HB.out.trans (hb.mono HB.out.size); have h2 := tabP_below HT.out hb; clear HB HT; have HB := Aside0.mk h; have HT := Aside0.mk h2; clear hb h h2))
  go_ret
  exact ⟨rfl, HB.out⟩
set_option maxHeartbeats 8000000 in
set_option maxRecDepth 100000 in
theorem lawWords_11 (n k : Int) (hn0 : -2147483648 ≤ n) (hn1 : n ≤ 2147483647) (hk : fleuronalike_Round.f k 12 = some 11) (w : World) (ht : TabP w) :
    Calls Tryd.prog 6 #[.int .i64 n, .int .i64 k] w fun e w' => e = .returned (.bool true) ∧ Below w.heap.size w w' := by
  have HT := Aside0.mk ht
  have HB := Aside0.mk (Below.refl w.heap.size w)
  clear ht
  have HK := Aside0.mk hk
  have HD := Aside0.mk (fun W => Decimal_c n (by omega) (by omega) W)
  have hza := decB_size n (by omega) (by omega)
  have WD := Aside0.mk (wd11)
  have HZ := Aside0.mk (show (⟨#[]⟩ : ByteArray).size ≤ 1000000 by decide)
  have d0 : decide (n < -2147483648) = false := decide_eq_false (by omega)
  have d1 : decide (2147483648 ≤ n) = false := decide_eq_false (by omega)
  clear hk
  go_enter Tryd.func6, Tryd.ntmps6
  go_wp2_with (first
    | (go_at_call 15; refine (HD.out _).mono ?_; rintro e w1 ⟨rfl, hb⟩; have h := HB.out.trans (hb.mono HB.out.size); have h2 := tabP_below HT.out hb; clear HB HT; have HB := Aside0.mk h; have HT := Aside0.mk h2; clear hb h h2)
    | (go_at_call 16; refine (fleuronalike_Round.calls k 12 11 _ HK.out).mono ?_; rintro e w1 ⟨rfl, ⟨q, rfl⟩⟩)
    | (go_at_call 8; refine (nodes_c (⟨#[]⟩) _ HZ.out).mono ?_; rintro e w1 ⟨v, rfl, hr, hb⟩; obtain ⟨A, c, rfl, -, -⟩ := Kd.R_reads hr; have HR := Aside0.mk hr; clear hr; have h := upd_ad HB.out HT.out hb; clear HB HT; have HB := Aside0.mk h.1; have HT := Aside0.mk h.2; clear hb h)
    | (go_at_call 9; refine (prsS_c (⟨#[]⟩) HZ.out _ _ _ HR.out).mono ?_; rw [WD.out]; rintro e w1 ⟨rfl, hb⟩; have h := HB.out.trans (hb.mono HB.out.size); have h2 := tabP_below HT.out hb; clear HB HT; have HB := Aside0.mk h; have HT := Aside0.mk h2; clear hb h h2)
    | (go_at_call 7; refine (awake_c _ HT.out).mono ?_; rintro e w1 ⟨rfl, hb⟩; have h := HB.out.trans (hb.mono HB.out.size); have h2 := tabP_below HT.out hb; clear HB HT; have HB := Aside0.mk h; have HT := Aside0.mk h2; clear hb h h2))
  go_ret
  exact ⟨rfl, HB.out⟩
theorem lawWords_c (n k : Int) (hn0 : -9223372036854775808 ≤ n) (hn1 : n ≤ 9223372036854775807) (hk0 : -9223372036854775808 ≤ k) (hk1 : k ≤ 9223372036854775807) (w : World) (ht : TabP w) :
    Calls Tryd.prog 6 #[.int .i64 n, .int .i64 k] w fun e w' => e = .returned (.bool true) ∧ Below w.heap.size w w' := by
  by_cases h0 : n < -2147483648
  · exact lawWords_g0 n k h0 w ht
  by_cases h1 : 2147483648 ≤ n
  · exact lawWords_g1 n k h0 h1 w ht
  obtain ⟨i, hi, hk⟩ := Round_f k
  match i, hi, hk with
  | 0, _, hk => exact lawWords_0 n k (by omega) (by omega) hk w ht
  | 1, _, hk => exact lawWords_1 n k (by omega) (by omega) hk w ht
  | 2, _, hk => exact lawWords_2 n k (by omega) (by omega) hk w ht
  | 3, _, hk => exact lawWords_3 n k (by omega) (by omega) hk w ht
  | 4, _, hk => exact lawWords_4 n k (by omega) (by omega) hk w ht
  | 5, _, hk => exact lawWords_5 n k (by omega) (by omega) hk w ht
  | 6, _, hk => exact lawWords_6 n k (by omega) (by omega) hk w ht
  | 7, _, hk => exact lawWords_7 n k (by omega) (by omega) hk w ht
  | 8, _, hk => exact lawWords_8 n k (by omega) (by omega) hk w ht
  | 9, _, hk => exact lawWords_9 n k (by omega) (by omega) hk w ht
  | 10, _, hk => exact lawWords_10 n k (by omega) (by omega) hk w ht
  | 11, _, hk => exact lawWords_11 n k (by omega) (by omega) hk w ht
  | i + 12, hi, _ => exact absurd hi (by omega)

end Go.Proofs.YtgdolholioccdaaDoor.PX
