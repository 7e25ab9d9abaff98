/-
  Contracts of the functions that the law reaches, and what they compute, on lists (part Y). No condition.
-/
import Derived.Test.YtgdolholioccdaaDoorMG
import Derived.Test.YtgdolholioccdaaDoorWApart
import Derived.Test.YtgdolholioccdaaDoorWLast
import Derived.Test.YtgdolholioccdaaDoorWMore
import Derived.Test.YtgdolholioccdaaDoorWN
import Derived.Test.YtgdolholioccdaaDoorWNEv
import Derived.Test.YtgdolholioccdaaDoorWRepsOne
import Derived.Test.YtgdolholioccdaaDoorWShare
import Derived.Test.YtgdolholioccdaaDoorWWords
import Derived.Test.YtgdolholioccdaaDoorUX
import Derived.WideShapes
set_option linter.unusedVariables false
set_option linter.unusedSimpArgs false
namespace Go.Proofs.YtgdolholioccdaaDoor.PX
open Go.RowKit Go.Proofs.YtgdolholioccdaaDoorW.PrintWords Go.Proofs.YtgdolholioccdaaDoorW.PrintLast Go.Proofs.YtgdolholioccdaaDoorW.PrintMore
/-! Decimal of the references is the numeral. -/
theorem one_num (x : Nat) (h : x < 256) : strOfNums [(x : Int)] = ⟨#[UInt8.ofNat x]⟩ := by
  refine WideShapes.bytes_inj ?_
  rw [strOfNums_data]
  rfl
theorem str_app (a b : List UInt8) : (⟨a.toArray⟩ : ByteArray) ++ ⟨b.toArray⟩ = ⟨(a ++ b).toArray⟩ := by
  refine WideShapes.bytes_inj ?_
  simp [ByteArray.data_append]
theorem dec_one (u : Nat) : ((IntKind.u64.wrap (48 + (Int.tmod (u : Int) 10))) % 256 : Int) = ((48 + u % 10 : Nat) : Int) := by
  rw [wrapu, Int.tmod_eq_emod_of_nonneg (by omega)]
  omega
theorem dec_div (u : Nat) (h : u < 18446744073709551616) : IntKind.u64.wrap (Int.tdiv (u : Int) 10) = ((u / 10 : Nat) : Int) := by
  rw [wrapu, Int.tdiv_eq_ediv_of_nonneg (by omega)]
  omega
def ddig (u : Nat) : List UInt8 := if u = 0 then [] else Lib.decDigits u
theorem ddig_step (u : Nat) (h : 0 < u) : ddig u = ddig (u / 10) ++ [UInt8.ofNat (48 + u % 10)] := by
  unfold ddig
  rw [if_neg (by omega)]
  by_cases h1 : u < 10
  · rw [if_pos (by omega), Lib.decDigits_one h1, Nat.mod_eq_of_lt h1]
    rfl
  · rw [if_neg (by omega), Lib.decDigits, dif_neg h1]
theorem dec_l0 : ∀ (m u : Nat) (s : ByteArray) (d : List UInt8) (k : Nat), u < 10 ^ m → m ≤ 20 → d.length + m ≤ 100 → s.size ≤ 10 → m + 2 ≤ k → 0 < u ∨ 0 < d.length → u < 18446744073709551616 →
    fleuronref1_Decimal.l0 k (u : Int) s ⟨d.toArray⟩ = some (s ++ ⟨(ddig u ++ d).toArray⟩)
  | 0, u, s, d, k, hu, hm, hd, hs, hk, hp, hlt => by
    obtain ⟨k, rfl⟩ : ∃ q, k = q + 1 := ⟨k - 1, by omega⟩
    have h0 : u = 0 := by simpa using hu
    subst h0
    have hdn : ¬ (⟨d.toArray⟩ : ByteArray).toList = [] := by
      rw [ByteArray.toList_eq]
      intro e
      have : d = [] := e
      rw [this] at hp
      simp at hp
    have hz : (⟨d.toArray⟩ : ByteArray).size = d.length := by show d.toArray.size = _; simp
    unfold fleuronref1_Decimal.l0
    rw [if_neg (by omega), if_neg hdn, if_pos (by omega)]
    simp [ddig]
  | m + 1, u, s, d, k, hu, hm, hd, hs, hk, hp, hlt => by
    obtain ⟨k, rfl⟩ : ∃ q, k = q + 1 := ⟨k - 1, by omega⟩
    have hz : (⟨d.toArray⟩ : ByteArray).size = d.length := by show d.toArray.size = _; simp
    by_cases h0 : u = 0
    · subst h0
      exact dec_l0 m 0 s d (k + 1) (Nat.pos_of_ne_zero (by simp)) (by omega) (by omega) hs (by omega) hp hlt
    · unfold fleuronref1_Decimal.l0
      rw [if_pos (by omega)]
      simp only [Option.bind_some]
      rw [dec_one, one_num (48 + u % 10) (by omega), dec_div u hlt]
      have h1 : (⟨#[UInt8.ofNat (48 + u % 10)]⟩ : ByteArray).size = 1 := rfl
      rw [if_pos (by omega)]
      have e : (⟨#[UInt8.ofNat (48 + u % 10)]⟩ : ByteArray) ++ ⟨d.toArray⟩ = ⟨(UInt8.ofNat (48 + u % 10) :: d).toArray⟩ := str_app [UInt8.ofNat (48 + u % 10)] d
      rw [e, dec_l0 m (u / 10) s (UInt8.ofNat (48 + u % 10) :: d) k (by rw [Nat.pow_succ] at hu; omega) (by omega) (by simp; omega) hs (by omega) (.inr (by simp)) (by omega), ddig_step u (by omega)]
      simp
theorem dec_0 (s : ByteArray) (hs : s.size ≤ 10) (u : Nat) (hu : u < 18446744073709551616) : fleuronref1_Decimal.l0 40 (u : Int) s ⟨#[]⟩ = some (s ++ ⟨(Lib.decDigits u).toArray⟩) := by
  have hb : u < 10 ^ 20 := by have : (10 : Nat) ^ 20 = 100000000000000000000 := by decide
                              omega
  by_cases h0 : u = 0
  · subst h0
    unfold fleuronref1_Decimal.l0
    rw [if_neg (by decide), if_pos (by rw [ByteArray.toList_eq])]
    simp only [Option.bind_some]
    rw [dec_one, one_num (48 + 0 % 10) (by omega), dec_div 0 (by omega)]
    rw [if_pos (show (⟨#[UInt8.ofNat (48 + 0 % 10)]⟩ : ByteArray).size + (⟨#[]⟩ : ByteArray).size ≤ 9223372036854775807 from (by decide : (1 : Nat) + 0 ≤ 9223372036854775807))]
    have h := dec_l0 0 0 s [48] 39 (by decide) (by decide) (by decide) hs (by decide) (.inr (by decide)) (by decide)
    rw [Lib.decDigits_one (by decide)]
    exact h
  · have h := dec_l0 20 u s [] 40 hb (by omega) (by simp) hs (by omega) (.inl (by omega)) hu
    have e : ddig u ++ [] = Lib.decDigits u := by unfold ddig; rw [if_neg h0]; simp
    rw [e] at h
    exact h
theorem Decimal_f (n : Int) (h0 : -9223372036854775808 ≤ n) (h1 : n ≤ 9223372036854775807) : fleuronref1_Decimal.f 41 n = some (decB n) := by
  unfold fleuronref1_Decimal.f decB Lib.itoa
  by_cases hn : n < 0
  · rw [if_pos hn, if_pos hn]
    have e : IntKind.u64.wrap (-(IntKind.u64.wrap n)) = (n.natAbs : Int) := by rw [wrapu, wrapu]; omega
    rw [e]
    show fleuronref1_Decimal.l0 40 _ _ ⟨#[]⟩ = _
    rw [dec_0 _ (by decide) _ (by omega)]
    exact congrArg some (str_app [45] _)
  · rw [if_neg hn, if_neg hn]
    have e : IntKind.u64.wrap n = (n.toNat : Int) := by rw [wrapu]; omega
    rw [e]
    show fleuronref1_Decimal.l0 40 _ _ ⟨#[]⟩ = _
    rw [dec_0 _ (by decide) _ (by omega)]
    exact congrArg some (str_app [] _)
theorem Decimal_c (n : Int) (h0 : -9223372036854775808 ≤ n) (h1 : n ≤ 9223372036854775807) (w : World) :
    Calls Tryd.prog 15 #[.int .i64 n] w fun e w' => e = .returned (.string (decB n)) ∧ Below w.heap.size w w' :=
  (fleuronref1_Decimal.calls 41 n _ w (Decimal_f n h0 h1)).mono fun _ _ ⟨e, h⟩ => ⟨e, h⟩

/-! Plain: what a written number's signs are read as. -/
def asc (l : List UInt8) : List Int := l.map fun b => (b.toNat : Int)
theorem asc_app (a b : List UInt8) : asc (a ++ b) = asc a ++ asc b := List.map_append
theorem asc_cons (a : UInt8) (b : List UInt8) : asc (a :: b) = (a.toNat : Int) :: asc b := rfl
def plainU (b : UInt8) : Bool := decide (b.toNat < 128) && (!decide (b.toNat = 13) && (!decide (b.toNat = 12) && !decide (b.toNat = 0)))
theorem plainU_facts {b : UInt8} (h : plainU b = true) : b.toNat < 128 ∧ b.toNat ≠ 13 ∧ b.toNat ≠ 12 ∧ b.toNat ≠ 0 := by
  simpa [plainU] using h
theorem redP_asc : ∀ (n : Nat) (f : Bool) (s : ByteArray) (pos : Nat), s.size ≤ pos + n → (∀ b, b ∈ s.data.toList → plainU b = true) → redP n f false s pos = asc (s.data.toList.drop pos)
  | 0, f, s, pos, h, ha => by
    rw [List.drop_eq_nil_of_le (by rw [Array.length_toList]; exact h)]
    rfl
  | n + 1, f, s, pos, h, ha => by
    by_cases hlt : pos < s.size
    · have hl : pos < s.data.toList.length := by rw [Array.length_toList]; exact hlt
      have hb := plainU_facts (ha _ (List.getElem_mem hl))
      have hdr := List.drop_eq_getElem_cons hl
      obtain ⟨c, hc⟩ : ∃ c : UInt8, s.data.toList[pos]'hl = c := ⟨_, rfl⟩
      rw [hc] at hb hdr
      have hc' : s[pos]'hlt = c := hc
      have hd := decode_ascii s pos hlt (by rw [hc']; exact hb.1)
      rw [hc'] at hd
      have e1 : (f && (((c.toNat : Nat) : Int) == 65279)) = false := by rw [beq_eq_false_iff_ne.2 (by omega)]; simp
      have e2 : (((c.toNat : Nat) : Int) == 13) = false := beq_eq_false_iff_ne.2 (by omega)
      rw [redP_one n f false s pos c.toNat 1 hlt hd, if_neg (by rw [e1]; simp), if_neg (by simp), e2, redP_asc n false s (pos + 1) (by omega) ha, hdr, asc_cons]
      congr 1
      unfold redC
      rw [if_neg (by omega), if_neg (by omega)]
    · rw [redP_end _ _ _ _ _ hlt, List.drop_eq_nil_of_le (by rw [Array.length_toList]; exact Nat.le_of_not_lt hlt)]
      rfl
theorem reads_asc (l : List UInt8) (ha : ∀ b, b ∈ l → plainU b = true) : reads ⟨l.toArray⟩ = asc l := by
  unfold reads
  rw [redP_asc _ true ⟨l.toArray⟩ 0 (by omega) ha]
  rfl
theorem enc_asc (b : UInt8) (h : b.toNat < 128) : Utf8.encode (b.toNat : Int) = ⟨#[b]⟩ := by
  have hv : Utf8.valid (b.toNat : Int) = true := by unfold Utf8.valid; simp; omega
  unfold Utf8.encode
  generalize hk : (if Utf8.valid (b.toNat : Int) then ((b.toNat : Int)).toNat else Utf8.runeError) = k
  have hkb : k = b.toNat := by rw [← hk, if_pos hv]; exact Int.toNat_natCast _
  subst hkb
  show (if b.toNat < 128 then (⟨#[UInt8.ofNat b.toNat]⟩ : ByteArray) else _) = _
  rw [if_pos h]
  simp
theorem enc43 : Utf8.encode 43 = ⟨#[43]⟩ := by kernel_rfl
theorem enc45 : Utf8.encode 45 = ⟨#[45]⟩ := by kernel_rfl
theorem app_one (acc : List UInt8) (b : UInt8) : (⟨acc.toArray⟩ : ByteArray) ++ ⟨#[b]⟩ = ⟨(acc ++ [b]).toArray⟩ := str_app acc [b]
def isD (b : UInt8) : Bool := decide (48 ≤ b.toNat) && decide (b.toNat ≤ 57)
theorem isD_facts {b : UInt8} (h : isD b = true) : 48 ≤ b.toNat ∧ b.toNat ≤ 57 := by simpa [isD] using h
theorem isD_dig {b : UInt8} (h : isD b = true) : digB (b.toNat : Int) = true := by
  have := isD_facts h
  unfold digB
  exact decide_eq_true (by omega)
theorem digP_asc : ∀ (ds acc : List UInt8) (r : List Int), (∀ b, b ∈ ds → isD b = true) → digB (sg r 0) = false → digP ⟨acc.toArray⟩ (asc ds ++ r) = (⟨(acc ++ ds).toArray⟩, r)
  | [], acc, r, hd, hr => by
    rw [List.append_nil]
    show digP ⟨acc.toArray⟩ r = _
    cases r with
    | nil => rfl
    | cons c t =>
      have h : digB c = false := hr
      unfold digP
      rw [if_neg (by rw [h]; simp)]
  | b :: ds, acc, r, hd, hr => by
    have hb := hd b (by simp)
    show digP ⟨acc.toArray⟩ ((b.toNat : Int) :: (asc ds ++ r)) = _
    have hf := isD_facts hb
    unfold digP
    rw [if_pos (isD_dig hb), enc_asc b (by omega), app_one, digP_asc ds (acc ++ [b]) r (fun c hc => hd c (List.mem_cons_of_mem _ hc)) hr]
    simp
theorem digL_asc (ds : List UInt8) (r : List Int) (hd : ∀ b, b ∈ ds → isD b = true) (hr : digB (sg r 0) = false) : digL (asc ds ++ r) = (⟨ds.toArray⟩, r) := digP_asc ds [] r hd hr
def isN (b : UInt8) : Bool := decide (b.toNat < 128) && namB (b.toNat : Int)
theorem nameP_asc : ∀ (ns acc : List UInt8) (r : List Int) (n : Nat), (∀ b, b ∈ ns → isN b = true) → namB (sg r 0) = false → escB r 0 = false → ns.length ≤ n → nameP n ⟨acc.toArray⟩ (asc ns ++ r) = (⟨(acc ++ ns).toArray⟩, r)
  | [], acc, r, n, hd, hr, he, hn => by
    rw [List.append_nil]
    show nameP n ⟨acc.toArray⟩ r = _
    cases n with
    | zero => rfl
    | succ n =>
      unfold nameP
      rw [if_neg (by rw [hr]; simp), if_neg (by rw [he]; simp)]
  | b :: ns, acc, r, n, hd, hr, he, hn => by
    have hb := hd b (by simp)
    unfold isN at hb
    rw [Bool.and_eq_true, decide_eq_true_iff] at hb
    obtain ⟨n, rfl⟩ : ∃ m, n = m + 1 := ⟨n - 1, by simp at hn; omega⟩
    show nameP (n + 1) ⟨acc.toArray⟩ ((b.toNat : Int) :: (asc ns ++ r)) = _
    unfold nameP
    have e : sg ((b.toNat : Int) :: (asc ns ++ r)) 0 = (b.toNat : Int) := rfl
    rw [e, if_pos hb.2, enc_asc b hb.1, app_one]
    show nameP n _ (asc ns ++ r) = _
    rw [nameP_asc ns (acc ++ [b]) r n (fun c hc => hd c (List.mem_cons_of_mem _ hc)) hr he (by simp at hn; omega)]
    simp
theorem nameL_asc (ns : List UInt8) (r : List Int) (hd : ∀ b, b ∈ ns → isN b = true) (hr : namB (sg r 0) = false) (he : escB r 0 = false) : nameL (asc ns ++ r) = (⟨ns.toArray⟩, r) := by
  unfold nameL
  exact nameP_asc ns [] r _ hd hr he (by rw [List.length_append]; unfold asc; rw [List.length_map]; omega)
def okSg (sgn : List UInt8) : Prop := sgn = [] ∨ sgn = [43] ∨ sgn = [45]
theorem hd_dig {ds : List UInt8} (hne : ds ≠ []) (hd : ∀ b, b ∈ ds → isD b = true) (r : List Int) : ∃ d, isD d = true ∧ sg (asc ds ++ r) 0 = (d.toNat : Int) ∧ ∃ t, ds = d :: t := by
  cases ds with
  | nil => exact absurd rfl hne
  | cons d t => exact ⟨d, hd d (by simp), rfl, t, rfl⟩
theorem nA_sgn {sgn : List UInt8} (hs : okSg sgn) {ds : List UInt8} (hne : ds ≠ []) (hd : ∀ b, b ∈ ds → isD b = true) (r : List Int) :
    nA (asc sgn ++ (asc ds ++ r)) = (⟨sgn.toArray⟩, asc ds ++ r) ∧ sgB (asc sgn ++ (asc ds ++ r)) = !sgn.isEmpty := by
  obtain ⟨d, h1, h2, -⟩ := hd_dig hne hd r
  have hf := isD_facts h1
  rcases hs with rfl | rfl | rfl
  · have e : sgB (asc ds ++ r) = false := by
      unfold sgB
      rw [h2, beq_eq_false_iff_ne.2 (by omega), beq_eq_false_iff_ne.2 (by omega)]
      rfl
    refine ⟨?_, e⟩
    show nA (asc ds ++ r) = _
    unfold nA
    rw [e]
    rfl
  · refine ⟨?_, rfl⟩
    unfold nA
    rw [show sgB (asc [43] ++ (asc ds ++ r)) = true from rfl, if_pos rfl]
    show (Utf8.encode 43, asc ds ++ r) = (⟨#[43]⟩, asc ds ++ r)
    rw [enc43]
  · refine ⟨?_, rfl⟩
    unfold nA
    rw [show sgB (asc [45] ++ (asc ds ++ r)) = true from rfl, if_pos rfl]
    show (Utf8.encode 45, asc ds ++ r) = (⟨#[45]⟩, asc ds ++ r)
    rw [enc45]
theorem numT_std {sgn ds : List UInt8} {r : List Int} (hs : okSg sgn) (hne : ds ≠ []) (hd : ∀ b, b ∈ ds → isD b = true) (hr : digB (sg r 0) = false) (hdot : dotB r = false) (hexp : (expB r && digB (sg r (sgK r : Nat))) = false) :
    numT (asc sgn ++ (asc ds ++ r)) = if nmsB r 0 then (⟨12, (nameL r).1, intL (sgn ++ ds), true, !sgn.isEmpty, false⟩, (nameL r).2)
      else if sg r 0 = 37 then (⟨11, ⟨#[]⟩, intL (sgn ++ ds), true, !sgn.isEmpty, false⟩, r.tail) else (⟨10, ⟨#[]⟩, intL (sgn ++ ds), true, !sgn.isEmpty, false⟩, r) := by
  obtain ⟨h1, h2⟩ := nA_sgn hs hne hd r
  have e1 : nL1 (asc sgn ++ (asc ds ++ r)) = r := by unfold nL1; rw [h1, digL_asc ds r hd hr]
  have e2 : nS (asc sgn ++ (asc ds ++ r)) = ⟨(sgn ++ ds).toArray⟩ := by unfold nS; rw [h1, digL_asc ds r hd hr]; exact str_app sgn ds
  have e3 : nF r = (true, r) := by unfold nF; rw [hdot]; rfl
  have e4 : nQ (asc sgn ++ (asc ds ++ r)) = (true, r) := by
    unfold nQ
    rw [e1, e3]
    unfold nE
    rw [hexp]
    rfl
  have e5 : nI (asc sgn ++ (asc ds ++ r)) = intL (sgn ++ ds) := by unfold nI; rw [e4, e2]; rfl
  unfold numT
  rw [e4, e5, h2]
theorem numB_sgn {sgn : List UInt8} (hs : okSg sgn) {ds : List UInt8} (hne : ds ≠ []) (hd : ∀ b, b ∈ ds → isD b = true) (r : List Int) : tokP (asc sgn ++ (asc ds ++ r)) = numT (asc sgn ++ (asc ds ++ r)) ∧ 0 ≤ sg (asc sgn ++ (asc ds ++ r)) 0 ∧ comB (asc sgn ++ (asc ds ++ r)) = false := by
  obtain ⟨d, h1, h2, t, rfl⟩ := hd_dig hne hd r
  have hf := isD_facts h1
  have hdd := isD_dig h1
  rcases hs with rfl | rfl | rfl
  · obtain ⟨z, hz⟩ : ∃ z : Int, (d.toNat : Int) = z := ⟨_, rfl⟩
    have hz0 : 48 ≤ z := by omega
    have hz1 : z ≤ 57 := by omega
    rw [hz] at hdd
    show tokP ((d.toNat : Int) :: (asc t ++ r)) = numT ((d.toNat : Int) :: (asc t ++ r)) ∧ 0 ≤ (d.toNat : Int) ∧ comB ((d.toNat : Int) :: (asc t ++ r)) = false
    rw [hz]
    have g0 : ∀ l : List Int, sg (z :: l) 0 = z := fun _ => rfl
    refine ⟨?_, by omega, ?_⟩
    · have k1 : plainK z = 0 := by unfold plainK; repeat (first | rw [if_neg (by omega)])
      have k2 : whiB z = false := by unfold whiB; rw [decide_eq_false (by omega), decide_eq_false (by omega), decide_eq_false (by omega)]; rfl
      have k3 : hashB (z :: (asc t ++ r)) = false := by unfold hashB; rw [g0, beq_eq_false_iff_ne.2 (show z ≠ 35 by omega)]; rfl
      have k4 : numsB (z :: (asc t ++ r)) = true := by
        unfold numsB numB
        rw [g0, if_neg (by omega), hdd]
        simp
      unfold tokP
      rw [g0, if_neg (by rw [k1]; simp), if_neg (by rw [k2]; simp), if_neg (by omega), if_neg (by rw [k3]; simp), if_pos k4]
    · unfold comB
      rw [g0, beq_eq_false_iff_ne.2 (show z ≠ 47 by omega)]
      rfl
  · refine ⟨?_, (show (0 : Int) ≤ 43 by decide), rfl⟩
    have k4 : numsB (asc [43] ++ (asc (d :: t) ++ r)) = true := by
      unfold numsB numB
      rw [if_pos (.inl rfl), show sg (asc [43] ++ (asc (d :: t) ++ r)) 1 = (d.toNat : Int) from rfl, hdd]
      rfl
    unfold tokP
    rw [show sg (asc [43] ++ (asc (d :: t) ++ r)) 0 = 43 from rfl, if_neg (by decide : ¬ plainK 43 ≠ 0), if_neg (by decide : ¬ whiB 43 = true), if_neg (by decide : ¬ ((43 : Int) = 34 ∨ (43 : Int) = 39)), if_neg (by exact Bool.false_ne_true), if_pos k4]
  · refine ⟨?_, (show (0 : Int) ≤ 45 by decide), rfl⟩
    have k4 : numsB (asc [45] ++ (asc (d :: t) ++ r)) = true := by
      unfold numsB numB
      rw [if_pos (.inr rfl), show sg (asc [45] ++ (asc (d :: t) ++ r)) 1 = (d.toNat : Int) from rfl, hdd]
      rfl
    unfold tokP
    rw [show sg (asc [45] ++ (asc (d :: t) ++ r)) 0 = 45 from rfl, if_neg (by decide : ¬ plainK 45 ≠ 0), if_neg (by decide : ¬ whiB 45 = true), if_neg (by decide : ¬ ((45 : Int) = 34 ∨ (45 : Int) = 39)), if_neg (by exact Bool.false_ne_true), if_pos k4]
/-- The tokens of signs, step by step. -/
inductive TS : List Int → List S49 → Prop
  | nil : TS [] []
  | cons (l r : List Int) (t : S49) (ts : List S49) (ht : tokP l = (t, r)) (h0 : 0 ≤ sg l 0) (hc : comB l = false) (h : TS r ts) : TS l (t :: ts)
theorem comL_ne {l : List Int} (h : comB l = false) (n : Nat) : comL n l = l := by
  cases n with
  | zero => rfl
  | succ n => unfold comL; rw [h]; rfl
theorem TS.tok {l : List Int} {ts : List S49} (h : TS l ts) : ∀ n, l.length < n → tokF n l = ts := by
  induction h with
  | nil =>
    intro n hn
    cases n with
    | zero => rfl
    | succ n => rfl
  | cons l r t ts ht h0 hc h ih =>
    intro n hn
    obtain ⟨n, rfl⟩ : ∃ m, n = m + 1 := ⟨n - 1, by omega⟩
    have hlt := tokP_lt h0
    rw [ht] at hlt
    unfold tokF
    rw [comL_ne hc, if_neg (by omega), ht]
    show t :: tokF n r = _
    rw [ih n (by have h' : r.length < l.length := hlt; omega)]
theorem TS.tokens {l : List Int} {ts : List S49} (h : TS l ts) : tokens l = ts := h.tok _ (Nat.lt_succ_self _)
theorem TS.nodes {s : List UInt8} {ts : List S49} (ha : ∀ b, b ∈ s → plainU b = true) (h : TS (asc s) ts) : nodesS ⟨s.toArray⟩ = nodesP ts.length ts := by
  unfold nodesS
  rw [reads_asc s ha, h.tokens]
theorem ofNat_n {x : Nat} (h : x < 256) : (UInt8.ofNat x).toNat = x := UInt8.toNat_ofNat_of_lt' (show x < UInt8.size from h)
theorem dd_all : ∀ (m u : Nat), u < 10 ^ m → m ≤ 30 → ∀ b, b ∈ Lib.decDigits u → isD b = true
  | 0, u, hu, hm, b, hb => by
    have h0 : u = 0 := by simpa using hu
    subst h0
    rw [Lib.decDigits_one (by decide)] at hb
    simp at hb
    subst hb
    rfl
  | m + 1, u, hu, hm, b, hb => by
    by_cases h1 : u < 10
    · rw [Lib.decDigits_one h1, List.mem_singleton] at hb
      subst hb
      unfold isD
      rw [ofNat_n (by omega)]
      simp
      omega
    · rw [Lib.decDigits, dif_neg h1] at hb
      rcases List.mem_append.1 hb with hb | hb
      · exact dd_all m (u / 10) (by rw [Nat.pow_succ] at hu; omega) (by omega) b hb
      · rw [List.mem_singleton] at hb
        subst hb
        unfold isD
        rw [ofNat_n (by omega)]
        simp
        omega
theorem dd_ne (u : Nat) : Lib.decDigits u ≠ [] := by
  by_cases h1 : u < 10
  · rw [Lib.decDigits_one h1]; simp
  · rw [Lib.decDigits, dif_neg h1]; simp
theorem dd_dig (u : Nat) (h : u < 100000000000000000000) : ∀ b, b ∈ Lib.decDigits u → isD b = true :=
  dd_all 20 u (by have : (10 : Nat) ^ 20 = 100000000000000000000 := by decide
                  omega) (by decide)
theorem isD_plain {b : UInt8} (h : isD b = true) : plainU b = true := by
  have := isD_facts h
  unfold plainU
  simp
  omega
theorem isD_name {b : UInt8} (h : isD b = true) : isN b = true := by
  have := isD_facts h
  unfold isN namB
  rw [isD_dig h]
  simp
  omega
theorem decG_snoc (n : Int) (l : List UInt8) (c : UInt8) (hc : isD c = true) : decG n (l ++ [c]) = (decG n l).bind fun m => some (mn (m * 10 + ((c.toNat : Int) - 48)) 4294967296) := by
  induction l generalizing n with
  | nil =>
    have := isD_facts hc
    show decG n [c] = _
    unfold decG
    rw [if_pos (by omega)]
    rfl
  | cons b t ih =>
    show decG n (b :: (t ++ [c])) = _
    unfold decG
    by_cases h : 48 ≤ b.toNat ∧ b.toNat ≤ 57
    · rw [if_pos h, if_pos h]; exact ih _
    · rw [if_neg h, if_neg h]; rfl
theorem decG_dd : ∀ (m u : Nat), u < 10 ^ m → m ≤ 30 → u ≤ 4294967296 → decG 0 (Lib.decDigits u) = some (u : Int)
  | 0, u, hu, hm, hl => by
    have h0 : u = 0 := by simpa using hu
    subst h0
    rw [Lib.decDigits_one (by decide)]
    rfl
  | m + 1, u, hu, hm, hl => by
    by_cases h1 : u < 10
    · rw [Lib.decDigits_one h1]
      unfold decG
      rw [ofNat_n (by omega), if_pos (by omega)]
      show some (mn (0 * 10 + (((48 + u : Nat) : Int) - 48)) 4294967296) = some (u : Int)
      unfold mn
      congr 1
      split <;> omega
    · rw [Lib.decDigits, dif_neg h1, decG_snoc _ _ _ (by unfold isD; rw [ofNat_n (by omega)]; simp; omega), decG_dd m (u / 10) (by rw [Nat.pow_succ] at hu; omega) (by omega) (by omega)]
      simp only [Option.bind_some]
      rw [ofNat_n (by omega)]
      unfold mn
      congr 1
      split <;> omega
theorem decG_u (u : Nat) (hl : u ≤ 4294967296) : decG 0 (Lib.decDigits u) = some (u : Int) :=
  decG_dd 20 u (by have : (10 : Nat) ^ 20 = 100000000000000000000 := by decide
                   omega) (by decide) hl
theorem intL_pos (u : Nat) (hu : u ≤ 2147483647) : intL (Lib.decDigits u) = u := by
  have hne := dd_ne u
  have hd := dd_dig u (by omega)
  have e1 : intD (Lib.decDigits u) = Lib.decDigits u ∧ intM (Lib.decDigits u) = false := by
    cases h : Lib.decDigits u with
    | nil => exact absurd h hne
    | cons d t =>
      have hf := isD_facts (hd d (by rw [h]; simp))
      exact ⟨if_neg (by omega), decide_eq_false (by omega)⟩
  unfold intL
  rw [e1.1, if_neg hne, decG_u u (by omega), e1.2]
  show mn (u : Int) 2147483647 = u
  unfold mn
  split <;> omega
theorem intL_plus (u : Nat) (hu : u ≤ 2147483647) : intL ([43] ++ Lib.decDigits u) = u := by
  unfold intL
  rw [show intD ([43] ++ Lib.decDigits u) = Lib.decDigits u from rfl, if_neg (dd_ne u), decG_u u (by omega), show intM ([43] ++ Lib.decDigits u) = false from rfl]
  show mn (u : Int) 2147483647 = u
  unfold mn
  split <;> omega
theorem intL_minus (u : Nat) (hu : u ≤ 2147483648) : intL ([45] ++ Lib.decDigits u) = -(u : Int) := by
  unfold intL
  rw [show intD ([45] ++ Lib.decDigits u) = Lib.decDigits u from rfl, if_neg (dd_ne u), decG_u u (by omega), show intM ([45] ++ Lib.decDigits u) = true from rfl]
  show mx (-(u : Int)) (-2147483648) = -(u : Int)
  unfold mx
  split <;> omega
/-- A numeral: its sign and digits. -/
def nSg (n : Int) : List UInt8 := if n < 0 then [45] else []
def nDs (n : Int) : List UInt8 := Lib.decDigits n.natAbs
theorem itoa_parts (n : Int) : Lib.itoa n = nSg n ++ nDs n := by
  unfold Lib.itoa nSg nDs
  by_cases h : n < 0
  · rw [if_pos h, if_pos h]; rfl
  · rw [if_neg h, if_neg h, show n.toNat = n.natAbs by omega]; rfl
theorem nSg_ok (n : Int) : okSg (nSg n) := by
  unfold nSg
  split
  · exact .inr (.inr rfl)
  · exact .inl rfl
theorem nDs_ne (n : Int) : nDs n ≠ [] := dd_ne _
theorem nDs_dig (n : Int) (h0 : -2147483648 ≤ n) (h1 : n ≤ 2147483647) : ∀ b, b ∈ nDs n → isD b = true := dd_dig _ (by omega)
theorem nInt (n : Int) (h0 : -2147483648 ≤ n) (h1 : n ≤ 2147483647) : intL (nSg n ++ nDs n) = n := by
  unfold nSg nDs
  by_cases h : n < 0
  · rw [if_pos h, intL_minus _ (by omega)]; omega
  · rw [if_neg h]
    show intL (Lib.decDigits n.natAbs) = n
    rw [intL_pos _ (by omega)]; omega
theorem nSg_plain (n : Int) : ∀ b, b ∈ nSg n → plainU b = true := by
  unfold nSg
  split
  · intro b hb; simp at hb; subst hb; rfl
  · intro b hb; cases hb
theorem nDs_plain (n : Int) (h0 : -2147483648 ≤ n) (h1 : n ≤ 2147483647) : ∀ b, b ∈ nDs n → plainU b = true := fun b hb => isD_plain (nDs_dig n h0 h1 b hb)

theorem app_plain {a c : List UInt8} (ha : ∀ b, b ∈ a → plainU b = true) (hc : ∀ b, b ∈ c → plainU b = true) : ∀ b, b ∈ a ++ c → plainU b = true := fun b hb => (List.mem_append.1 hb).elim (ha b) (hc b)
theorem itoa_plain (n : Int) (h0 : -2147483648 ≤ n) (h1 : n ≤ 2147483647) : ∀ b, b ∈ Lib.itoa n → plainU b = true := by
  rw [itoa_parts]
  exact app_plain (nSg_plain n) (nDs_plain n h0 h1)
/-- A number, and what is behind it. -/
theorem tok_num {sgn ds : List UInt8} {r : List Int} (hs : okSg sgn) (hne : ds ≠ []) (hd : ∀ b, b ∈ ds → isD b = true) (hr : digB (sg r 0) = false) (hdot : dotB r = false) (hexp : (expB r && digB (sg r (sgK r : Nat))) = false) (hn : nmsB r 0 = false) (hp : ¬ sg r 0 = 37) {V : Int} (hV : intL (sgn ++ ds) = V) {ts : List S49} (h : TS r ts) :
    TS (asc sgn ++ (asc ds ++ r)) (⟨10, ⟨#[]⟩, V, true, !sgn.isEmpty, false⟩ :: ts) := by
  obtain ⟨h1, h2, h3⟩ := numB_sgn hs hne hd r
  have h4 := numT_std hs hne hd hr hdot hexp
  rw [hn, if_neg (by simp), if_neg hp, hV] at h4
  exact .cons _ r _ ts (h1.trans h4) h2 h3 h
theorem tok_dim {sgn ds ns : List UInt8} {r : List Int} (hs : okSg sgn) (hne : ds ≠ []) (hd : ∀ b, b ∈ ds → isD b = true) (hr : digB (sg (asc ns ++ r) 0) = false) (hdot : dotB (asc ns ++ r) = false) (hexp : (expB (asc ns ++ r) && digB (sg (asc ns ++ r) (sgK (asc ns ++ r) : Nat))) = false) (hn : nmsB (asc ns ++ r) 0 = true) (hns : ∀ b, b ∈ ns → isN b = true) (hr2 : namB (sg r 0) = false) (he : escB r 0 = false) {V : Int} (hV : intL (sgn ++ ds) = V) {ts : List S49} (h : TS r ts) :
    TS (asc sgn ++ (asc ds ++ (asc ns ++ r))) (⟨12, ⟨ns.toArray⟩, V, true, !sgn.isEmpty, false⟩ :: ts) := by
  obtain ⟨h1, h2, h3⟩ := numB_sgn hs hne hd (asc ns ++ r)
  have h4 := numT_std hs hne hd hr hdot hexp
  rw [hn, if_pos rfl, nameL_asc ns r hns hr2 he, hV] at h4
  exact .cons _ r _ ts (h1.trans h4) h2 h3 h
theorem lit_name {l : List UInt8} (h : l.all isN = true) : ∀ b, b ∈ l → isN b = true := List.all_eq_true.1 h
theorem wd0 (n : Int) (h0 : -2147483648 ≤ n) (h1 : n ≤ 2147483647) : prsP (trimN (nodesS (decB n))) = (0, n, 0) := by
  have hT : TS (asc (Lib.itoa n)) [⟨10, ⟨#[]⟩, n, true, !(nSg n).isEmpty, false⟩] := by
    have h := tok_num (r := []) (nSg_ok n) (nDs_ne n) (nDs_dig n h0 h1) rfl rfl rfl rfl (by decide) (nInt n h0 h1) .nil
    rw [List.append_nil] at h
    rw [itoa_parts, asc_app]
    exact h
  unfold decB
  rw [hT.nodes (itoa_plain n h0 h1)]
  generalize (!(nSg n).isEmpty) = S
  rfl
/-! What Text writes, and its kin, are read as. -/
theorem skipW_ne {l : List Int} (h : whiB (sg l 0) = false) : skipW l = l := by
  cases l with
  | nil => rfl
  | cons c t =>
    have h' : whiB c = false := h
    unfold skipW
    rw [h']
    rfl
theorem tok_white {l : List Int} (h : whiB (sg l 0) = false) {ts : List S49} (ht : TS l ts) : TS (32 :: l) (⟨13, ⟨#[]⟩, 0, false, false, false⟩ :: ts) := by
  refine .cons _ l _ ts ?_ (show (0 : Int) ≤ 32 by decide) rfl ht
  have e : tokP (32 :: l) = (mkT 13 ⟨#[]⟩, skipW (32 :: l)) := rfl
  rw [e, show skipW (32 :: l) = skipW l from rfl, skipW_ne h]
  rfl
theorem whi_dig {ds : List UInt8} (hne : ds ≠ []) (hd : ∀ b, b ∈ ds → isD b = true) (r : List Int) : whiB (sg (asc ds ++ r) 0) = false := by
  obtain ⟨d, h1, h2, -⟩ := hd_dig hne hd r
  have hf := isD_facts h1
  rw [h2]
  unfold whiB
  rw [decide_eq_false (by omega), decide_eq_false (by omega), decide_eq_false (by omega)]
  rfl
/-- A number without a sign ahead, whatever is behind it. -/
theorem tok_un {ds : List UInt8} {r : List Int} (hne : ds ≠ []) (hd : ∀ b, b ∈ ds → isD b = true) (hr : digB (sg r 0) = false) (hdot : dotB r = false) (hexp : (expB r && digB (sg r (sgK r : Nat))) = false) (hn : nmsB r 0 = false) (hp : ¬ sg r 0 = 37) {V : Int} (hV : intL ds = V) {ts : List S49} (h : TS r ts) :
    TS (asc ds ++ r) (⟨10, ⟨#[]⟩, V, true, false, false⟩ :: ts) := tok_num (sgn := []) (.inl rfl) hne hd hr hdot hexp hn hp hV h
theorem tok_delim (c x : Int) (hc : c = 43 ∨ c = 45) (hx : x = 32) {l : List Int} {ts : List S49} (h : TS (x :: l) ts) : TS (c :: x :: l) (⟨9, Utf8.encode c, 0, false, false, false⟩ :: ts) := by
  subst hx
  rcases hc with rfl | rfl
  · exact .cons (43 :: 32 :: l) _ _ _ rfl (show (0 : Int) ≤ 43 by decide) rfl h
  · exact .cons (45 :: 32 :: l) _ _ _ rfl (show (0 : Int) ≤ 45 by decide) rfl h
theorem tok_ident {ns : List UInt8} {r : List Int} (hns : ∀ b, b ∈ ns → isN b = true) (hr2 : namB (sg r 0) = false) (he : escB r 0 = false) (hp : ¬ sg r 0 = 40) {ts : List S49} (h : TS r ts) : TS (110 :: (asc ns ++ r)) (⟨1, ⟨(110 :: ns).toArray⟩, 0, false, false, false⟩ :: ts) := by
  have e1 : nameL (110 :: (asc ns ++ r)) = (⟨(110 :: ns).toArray⟩, r) := nameL_asc (110 :: ns) r (fun b hb => by
    rcases List.mem_cons.1 hb with rfl | hb
    · rfl
    · exact hns b hb) hr2 he
  refine .cons _ r _ ts ?_ (show (0 : Int) ≤ 110 by decide) rfl h
  have e2 : tokP (110 :: (asc ns ++ r)) = idnP (110 :: (asc ns ++ r)) := rfl
  rw [e2]
  unfold idnP
  rw [e1, if_neg hp]
  rfl
theorem tok_one : TS (asc [49]) [⟨10, ⟨#[]⟩, 1, true, false, false⟩] := by
  have h := tok_un (ds := [49]) (r := []) (by decide) (List.all_eq_true.1 (by rfl)) rfl rfl rfl rfl (by decide) (V := 1) (by rfl) .nil
  rw [List.append_nil] at h
  exact h
/-- Bounds of the two numbers. -/
structure Two (a b : Int) : Prop where
  a0 : -2147483648 ≤ a
  a1 : a ≤ 2147483647
  b0 : -2147483648 < b
  b1 : b ≤ 2147483647
def mag (b : Int) : List UInt8 := Lib.decDigits b.natAbs
theorem mag_ne (b : Int) : mag b ≠ [] := dd_ne _
theorem Two.dig {a b : Int} (h : Two a b) : ∀ c, c ∈ mag b → isD c = true := dd_dig _ (by have := h.b0; have := h.b1; omega)
theorem Two.plain {a b : Int} (h : Two a b) : ∀ c, c ∈ mag b → plainU c = true := fun c hc => isD_plain (h.dig c hc)
theorem Two.val {a b : Int} (h : Two a b) : intL (mag b) = b.natAbs := intL_pos _ (by have := h.b0; have := h.b1; omega)
theorem Two.valp {a b : Int} (h : Two a b) : intL ([43] ++ mag b) = b.natAbs := intL_plus _ (by have := h.b0; have := h.b1; omega)
theorem Two.valm {a b : Int} (h : Two a b) : intL ([45] ++ mag b) = -(b.natAbs : Int) := intL_minus _ (by have := h.b0; have := h.b1; omega)
theorem mag_pos {b : Int} (h : 0 ≤ b) : Lib.itoa b = mag b := by
  rw [itoa_parts]
  unfold nSg nDs mag
  rw [if_neg (by omega)]
  rfl
theorem mag_neg {b : Int} (h : b < 0) : Lib.itoa b = 45 :: mag b := by
  rw [itoa_parts]
  unfold nSg nDs mag
  rw [if_pos h]
  rfl
def isSg (c : UInt8) : Prop := c = 43 ∨ c = 45
def sgV (c : UInt8) (b : Int) : Int := if c = 45 then -(b.natAbs : Int) else b.natAbs
theorem Two.vals {a b : Int} (h : Two a b) {c : UInt8} (hc : isSg c) : intL ([c] ++ mag b) = sgV c b := by
  rcases hc with rfl | rfl
  · exact h.valp
  · exact h.valm
theorem isSg.ok {c : UInt8} (h : isSg c) : okSg [c] := by
  rcases h with rfl | rfl
  · exact .inr (.inl rfl)
  · exact .inr (.inr rfl)
/-- The head's Dimension, with n behind it, and a rest that does not go on with the name. -/
theorem dim_n {a b : Int} (h : Two a b) (ns : List UInt8) (r : List Int) (h1 : ∃ t, ns = 110 :: t ∨ ns = 78 :: t) (hns : ∀ b, b ∈ ns → isN b = true) (hr2 : namB (sg r 0) = false) (he : escB r 0 = false) {ts : List S49} (ht : TS r ts) :
    TS (asc (nSg a) ++ (asc (nDs a) ++ (asc ns ++ r))) (⟨12, ⟨ns.toArray⟩, a, true, !(nSg a).isEmpty, false⟩ :: ts) := by
  obtain ⟨t, rfl | rfl⟩ := h1
  · exact tok_dim (nSg_ok a) (nDs_ne a) (nDs_dig a h.a0 h.a1) rfl rfl rfl rfl hns hr2 he (nInt a h.a0 h.a1) ht
  · exact tok_dim (nSg_ok a) (nDs_ne a) (nDs_dig a h.a0 h.a1) rfl rfl rfl rfl hns hr2 he (nInt a h.a0 h.a1) ht
theorem num_end {ds : List UInt8} (hne : ds ≠ []) (hd : ∀ b, b ∈ ds → isD b = true) {V : Int} (hV : intL ds = V) : TS (asc ds) [⟨10, ⟨#[]⟩, V, true, false, false⟩] := by
  have h := tok_un (r := []) hne hd rfl rfl rfl rfl (by decide) hV .nil
  rw [List.append_nil] at h
  exact h
theorem num_sg {c : UInt8} (hc : isSg c) {ds : List UInt8} (hne : ds ≠ []) (hd : ∀ b, b ∈ ds → isD b = true) {V : Int} (hV : intL ([c] ++ ds) = V) : TS ((c.toNat : Int) :: asc ds) [⟨10, ⟨#[]⟩, V, true, true, false⟩] := by
  have h := tok_num (r := []) hc.ok hne hd rfl rfl rfl rfl (by decide) hV .nil
  rw [List.append_nil] at h
  exact h

theorem cat_ (x y : ByteArray) : (x ++ y).data.toList = x.data.toList ++ y.data.toList := by simp [ByteArray.data_append]
theorem TS.nodesOf {s : ByteArray} {L : List UInt8} {ts : List S49} (hs : s.data.toList = L) (ha : ∀ b, b ∈ L → plainU b = true) (h : TS (asc L) ts) : nodesS s = nodesP ts.length ts := by
  subst hs
  exact TS.nodes (s := s.data.toList) ha h
theorem decB_list (n : Int) : (decB n).data.toList = Lib.itoa n := rfl
theorem decC_snoc (n : Int) (l : List UInt8) (c : UInt8) (hc : isD c = true) : decC n (l ++ [c]) = (decC n l).bind fun m => some (min (10 * m + ((c.toNat : Int) - 48)) 2147483648) := by
  induction l generalizing n with
  | nil =>
    have := isD_facts hc
    show decC n [c] = _
    unfold decC
    rw [if_pos (by omega)]
    rfl
  | cons b t ih =>
    show decC n (b :: (t ++ [c])) = _
    unfold decC
    by_cases h : 48 ≤ b.toNat ∧ b.toNat ≤ 57
    · rw [if_pos h, if_pos h]; exact ih _
    · rw [if_neg h, if_neg h]; rfl
theorem decC_dd : ∀ (m u : Nat), u < 10 ^ m → m ≤ 30 → u ≤ 2147483648 → decC 0 (Lib.decDigits u) = some (u : Int)
  | 0, u, hu, hm, hl => by
    have h0 : u = 0 := by simpa using hu
    subst h0
    rw [Lib.decDigits_one (by decide)]
    rfl
  | m + 1, u, hu, hm, hl => by
    by_cases h1 : u < 10
    · rw [Lib.decDigits_one h1]
      unfold decC
      rw [ofNat_n (by omega), if_pos (by omega)]
      unfold decC
      congr 1
      omega
    · rw [Lib.decDigits, dif_neg h1, decC_snoc _ _ _ (by unfold isD; rw [ofNat_n (by omega)]; simp; omega), decC_dd m (u / 10) (by rw [Nat.pow_succ] at hu; omega) (by omega) (by omega)]
      simp only [Option.bind_some]
      rw [ofNat_n (by omega)]
      congr 1
      omega
theorem trimL_dig {ds : List UInt8} (hd : ∀ b, b ∈ ds → isD b = true) : Lib.trimLeftS ds [43, 45] = ds := by
  cases ds with
  | nil => rfl
  | cons d t =>
    have hf := isD_facts (hd d (by simp))
    unfold Lib.trimLeftS
    rw [List.dropWhile_cons]
    have e : ([43, 45] : List UInt8).contains d = false := by
      rw [List.contains_eq_mem]
      refine decide_eq_false (fun h => ?_)
      simp at h
      rcases h with rfl | rfl
      · exact absurd hf.1 (by decide)
      · exact absurd hf.1 (by decide)
    rw [e]
    rfl
theorem tokI_minus (u : Nat) (hu : u ≤ 2147483647) : tokI (45 :: Lib.decDigits u) = -(u : Int) := by
  have e1 : Lib.trimLeftS (45 :: Lib.decDigits u) [43, 45] = Lib.decDigits u := by
    have : Lib.trimLeftS (45 :: Lib.decDigits u) [43, 45] = Lib.trimLeftS (Lib.decDigits u) [43, 45] := rfl
    rw [this, trimL_dig (dd_dig u (by omega))]
  have hb : u < 10 ^ 20 := by have : (10 : Nat) ^ 20 = 100000000000000000000 := by decide
                              omega
  unfold tokI
  rw [e1, if_neg (by simp only [List.length_cons]; rintro (h | h); omega; exact dd_ne u h), decC_dd 20 u hb (by decide) (by omega), show intM (45 :: Lib.decDigits u) = true from rfl]
  show max (-(u : Int)) (-2147483648) = _
  omega
theorem dig_in {b : UInt8} (h : isD b = true) : digsL.contains b = true := by
  have hf := isD_facts h
  have e : b = UInt8.ofNat b.toNat := by simp
  have hc : b.toNat = 48 ∨ b.toNat = 49 ∨ b.toNat = 50 ∨ b.toNat = 51 ∨ b.toNat = 52 ∨ b.toNat = 53 ∨ b.toNat = 54 ∨ b.toNat = 55 ∨ b.toNat = 56 ∨ b.toNat = 57 := by omega
  rcases hc with h | h | h | h | h | h | h | h | h | h <;> (rw [h] at e; subst e; rfl)
theorem drop_all {l : List UInt8} {p : UInt8 → Bool} (h : ∀ b, b ∈ l → p b = true) : l.dropWhile p = [] := by
  induction l with
  | nil => rfl
  | cons a t ih => rw [List.dropWhile_cons, h a (by simp), if_pos rfl, ih (fun b hb => h b (List.mem_cons_of_mem _ hb))]
theorem trimS_dig {ds : List UInt8} (hd : ∀ b, b ∈ ds → isD b = true) : Lib.trimS ds digsL = [] := by
  unfold Lib.trimS Lib.trimRightS Lib.trimLeftS
  rw [drop_all (l := ds.reverse) (fun b hb => dig_in (hd b (by simpa using hb)))]
  rfl
theorem low_same {l : List UInt8} (h : ∀ b, b ∈ l → lowB b = b) : lowerB ⟨l.toArray⟩ = ⟨l.toArray⟩ := by
  unfold lowerB
  congr 1
  rw [show (⟨l.toArray⟩ : ByteArray).data.toList = l from rfl]
  congr 1
  conv => rhs; rw [← List.map_id l]
  exact List.map_congr_left fun b hb => h b hb
theorem low_dig {b : UInt8} (h : isD b = true) : lowB b = b := by
  have hf := isD_facts h
  unfold lowB
  rw [if_neg (by omega)]
/-- A Dimension whose unit is n-digits, alone: and with more behind it. -/
theorem dim_dash (a : Int) (S : Bool) (u : Nat) (hu : u ≤ 2147483647) (l : List N51) :
    fst5 (⟨⟨12, ⟨([110, 45] ++ Lib.decDigits u).toArray⟩, a, true, S, false⟩, []⟩ :: l) = (a, ⟨(45 :: Lib.decDigits u).toArray⟩, l, false) ∧ secP ⟨(45 :: Lib.decDigits u).toArray⟩ l = (-(u : Int), l, false) := by
  have hd := dd_dig u (by omega)
  have hlow : lowerB ⟨([110, 45] ++ Lib.decDigits u).toArray⟩ = ⟨([110, 45] ++ Lib.decDigits u).toArray⟩ := low_same (fun b hb => by
    rcases List.mem_append.1 hb with hb | hb
    · simp at hb
      rcases hb with rfl | rfl <;> rfl
    · exact low_dig (hd b hb))
  have hpre : preB [110] ⟨([110, 45] ++ Lib.decDigits u).toArray⟩ = true := rfl
  have hex : (⟨([110, 45] ++ Lib.decDigits u).toArray⟩ : ByteArray).extract 1 (⟨([110, 45] ++ Lib.decDigits u).toArray⟩ : ByteArray).size = ⟨(45 :: Lib.decDigits u).toArray⟩ := by
    refine WideShapes.bytes_inj ?_
    rw [extract_one]
    rfl
  refine ⟨?_, ?_⟩
  · unfold fst5
    rw [if_neg (by exact Bool.false_ne_true)]
    unfold fstP
    show (if (12 : Int) = 12 ∧ false = false ∧ true = true ∧ preB [110] (lowerB ⟨([110, 45] ++ Lib.decDigits u).toArray⟩) = true then _ else _) = _
    rw [hlow, if_pos ⟨rfl, rfl, rfl, hpre⟩, hex]
  · unfold secP
    have n1 : ¬ (⟨(45 :: Lib.decDigits u).toArray⟩ : ByteArray) = ⟨#[45]⟩ := fun e => by
      have := congrArg (fun z : ByteArray => z.data.toList) e
      simp at this
      exact dd_ne u this
    have n2 : ¬ (⟨(45 :: Lib.decDigits u).toArray⟩ : ByteArray) = ⟨#[]⟩ := fun e => by
      have := congrArg (fun z : ByteArray => z.data.toList) e
      simp at this
    rw [if_neg n1, if_neg n2]
    refine Prod.ext (tokI_minus u hu) (Prod.ext rfl ?_)
    show (!decide ((45 : UInt8).toNat = 45) || !(Lib.trimS (Lib.decDigits u) digsL).isEmpty) = false
    rw [trimS_dig hd]
    rfl
theorem prs_dash (a : Int) (S : Bool) (u : Nat) (hu : u ≤ 2147483647) : prsP [⟨⟨12, ⟨([110, 45] ++ Lib.decDigits u).toArray⟩, a, true, S, false⟩, []⟩] = (a, -(u : Int), 0) := by
  obtain ⟨h1, h2⟩ := dim_dash a S u hu []
  unfold prsP
  rw [if_neg (by exact Bool.false_ne_true), if_neg (by rintro ⟨-, h, -⟩; exact absurd h (show ¬ (12 : Int) = 1 by decide)), if_neg (by rintro ⟨-, h, -⟩; exact absurd h (show ¬ (12 : Int) = 1 by decide)), if_neg (by rintro ⟨-, h, -⟩; exact absurd h (show ¬ (12 : Int) = 10 by decide)), h1]
  show (if false = true then _ else if (secP _ []).2.2 = true ∨ 0 < (secP _ []).2.1.length then _ else (a, (secP _ []).1, 0)) = _
  rw [h2, if_neg (by simp), if_neg (by simp)]
theorem prs_dash_more (a : Int) (S : Bool) (u : Nat) (hu : u ≤ 2147483647) (y z : N51) (hy : opB y = false) (hz : opB z = false) : prsP [⟨⟨12, ⟨([110, 45] ++ Lib.decDigits u).toArray⟩, a, true, S, false⟩, []⟩, y, z] = (0, 0, 2) := by
  obtain ⟨h1, h2⟩ := dim_dash a S u hu [y, z]
  unfold prsP
  have hany : ¬ ([⟨⟨12, ⟨([110, 45] ++ Lib.decDigits u).toArray⟩, a, true, S, false⟩, []⟩, y, z] : List N51).any opB = true := by
    simp only [List.any_cons, List.any_nil, hy, hz]
    exact Bool.false_ne_true
  rw [if_neg hany, if_neg (by rintro ⟨h, -⟩; exact absurd h (by simp)), if_neg (by rintro ⟨h, -⟩; exact absurd h (by simp)), if_neg (by rintro ⟨h, -⟩; exact absurd h (by simp)), h1]
  show (if false = true then _ else if (secP _ [y, z]).2.2 = true ∨ 0 < (secP _ [y, z]).2.1.length then _ else _) = _
  rw [h2, if_neg (by simp), if_pos (.inr (by simp))]

theorem whi_dig0 {ds : List UInt8} (hne : ds ≠ []) (hd : ∀ b, b ∈ ds → isD b = true) : whiB (sg (asc ds) 0) = false := by
  have h := whi_dig hne hd []
  rw [List.append_nil] at h
  exact h
theorem ident_end {ns : List UInt8} (hns : ∀ b, b ∈ ns → isN b = true) : TS (110 :: asc ns) [⟨1, ⟨(110 :: ns).toArray⟩, 0, false, false, false⟩] := by
  have h := tok_ident (r := []) hns rfl rfl (by decide) .nil
  rw [List.append_nil] at h
  exact h
theorem dash_name {a b : Int} (h : Two a b) : ∀ c, c ∈ 45 :: mag b → isN c = true := fun c hc => by
  rcases List.mem_cons.1 hc with rfl | hc
  · rfl
  · exact isD_name (h.dig c hc)
theorem dash_name2 {a b : Int} (h : Two a b) : ∀ c, c ∈ [110, 45] ++ mag b → isN c = true := fun c hc => by
  rcases List.mem_append.1 hc with hc | hc
  · exact lit_name (l := [110, 45]) rfl c hc
  · exact isD_name (h.dig c hc)
theorem TS.conv {l l' : List Int} {ts : List S49} (e : l = l') (h : TS l' ts) : TS l ts := e ▸ h
theorem sz_pos {b : Int} (h : 0 < b) : (decB b).data.toList = mag b := mag_pos (by omega)
theorem sz_neg {b : Int} (h : b < 0) : (decB (-b)).data.toList = mag b := by
  rw [decB_list, mag_pos (by omega)]
  unfold mag
  rw [Int.natAbs_neg]
theorem nS_plain {a b : Int} (h : Two a b) {l : List UInt8} (hl : ∀ c, c ∈ l → plainU c = true) : ∀ c, c ∈ nSg a ++ (nDs a ++ l) → plainU c = true := app_plain (nSg_plain a) (app_plain (nDs_plain a h.a0 h.a1) hl)
theorem bk0p (a b : Int) (h : Two a b) (hb : 0 < b) : prsP (trimN (nodesS (decB a ++ ⟨#[110, 32]⟩ ++ ⟨#[43]⟩ ++ ⟨#[32]⟩ ++ decB b))) = (a, b, 0) := by
  have hs : (decB a ++ ⟨#[110, 32]⟩ ++ ⟨#[43]⟩ ++ ⟨#[32]⟩ ++ decB b).data.toList = nSg a ++ (nDs a ++ ([110] ++ ([32, 43, 32] ++ mag b))) := by
    simp only [cat_, sz_pos hb, decB_list, itoa_parts a, List.append_assoc]
    try rfl
  have hp : ∀ c, c ∈ nSg a ++ (nDs a ++ ([110] ++ ([32, 43, 32] ++ mag b))) → plainU c = true := nS_plain h (by
    intro c hc
    simp only [List.mem_append, List.mem_cons, List.not_mem_nil, or_false] at hc
    repeat' (rcases hc with hc | hc)
    all_goals first | rfl | exact h.plain _ hc)
  have hT := dim_n h [110] (32 :: 43 :: 32 :: asc (mag b)) ⟨[], .inl rfl⟩ (lit_name rfl) rfl rfl (tok_white rfl (tok_delim 43 32 (.inl rfl) rfl (tok_white (whi_dig0 (mag_ne b) h.dig) (num_end (mag_ne b) h.dig h.val))))
  rw [TS.nodesOf hs hp (TS.conv (by (try simp only [asc_app]); (try rfl)) hT)]
  generalize (!(nSg a).isEmpty) = S
  refine Eq.trans (b := (a, (b.natAbs : Int), 0)) (by rfl) ?_
  have e : (b.natAbs : Int) = b := by omega
  rw [e]
theorem bk1p (a b : Int) (h : Two a b) (hb : 0 < b) : prsP (trimN (nodesS (decB a ++ ⟨#[78, 32]⟩ ++ ⟨#[43]⟩ ++ decB b))) = (a, b, 0) := by
  have hs : (decB a ++ ⟨#[78, 32]⟩ ++ ⟨#[43]⟩ ++ decB b).data.toList = nSg a ++ (nDs a ++ ([78] ++ ([32, 43] ++ mag b))) := by
    simp only [cat_, sz_pos hb, decB_list, itoa_parts a, List.append_assoc]
    try rfl
  have hp : ∀ c, c ∈ nSg a ++ (nDs a ++ ([78] ++ ([32, 43] ++ mag b))) → plainU c = true := nS_plain h (by
    intro c hc
    simp only [List.mem_append, List.mem_cons, List.not_mem_nil, or_false] at hc
    repeat' (rcases hc with hc | hc)
    all_goals first | rfl | exact h.plain _ hc)
  have hT := dim_n h [78] (32 :: 43 :: asc (mag b)) ⟨[], .inr rfl⟩ (lit_name rfl) rfl rfl (tok_white rfl (num_sg (.inl rfl : isSg 43) (mag_ne b) h.dig (h.vals (.inl rfl))))
  rw [TS.nodesOf hs hp (TS.conv (by (try simp only [asc_app]); (try rfl)) hT)]
  generalize (!(nSg a).isEmpty) = S
  refine Eq.trans (b := (a, sgV 43 b, 0)) (by rfl) ?_
  have e : sgV 43 b = b := by (unfold sgV; first | rw [if_neg (by decide)] | rw [if_pos rfl]); omega
  rw [e]
theorem bk2p (a b : Int) (h : Two a b) (hb : 0 < b) : prsP (trimN (nodesS (decB a ++ ⟨#[110]⟩ ++ ⟨#[43]⟩ ++ ⟨#[32]⟩ ++ decB b))) = (a, b, 0) := by
  have hs : (decB a ++ ⟨#[110]⟩ ++ ⟨#[43]⟩ ++ ⟨#[32]⟩ ++ decB b).data.toList = nSg a ++ (nDs a ++ ([110] ++ ([43, 32] ++ mag b))) := by
    simp only [cat_, sz_pos hb, decB_list, itoa_parts a, List.append_assoc]
    try rfl
  have hp : ∀ c, c ∈ nSg a ++ (nDs a ++ ([110] ++ ([43, 32] ++ mag b))) → plainU c = true := nS_plain h (by
    intro c hc
    simp only [List.mem_append, List.mem_cons, List.not_mem_nil, or_false] at hc
    repeat' (rcases hc with hc | hc)
    all_goals first | rfl | exact h.plain _ hc)
  have hT := dim_n h [110] (43 :: 32 :: asc (mag b)) ⟨[], .inl rfl⟩ (lit_name rfl) rfl rfl (tok_delim 43 32 (.inl rfl) rfl (tok_white (whi_dig0 (mag_ne b) h.dig) (num_end (mag_ne b) h.dig h.val)))
  rw [TS.nodesOf hs hp (TS.conv (by (try simp only [asc_app]); (try rfl)) hT)]
  generalize (!(nSg a).isEmpty) = S
  refine Eq.trans (b := (a, (b.natAbs : Int), 0)) (by rfl) ?_
  have e : (b.natAbs : Int) = b := by omega
  rw [e]
theorem bk3p (a b : Int) (h : Two a b) (hb : 0 < b) : prsP (trimN (nodesS (decB a ++ ⟨#[32, 110]⟩ ++ ⟨#[43]⟩ ++ decB b))) = (0, 0, 2) := by
  have hs : (decB a ++ ⟨#[32, 110]⟩ ++ ⟨#[43]⟩ ++ decB b).data.toList = nSg a ++ (nDs a ++ ([32, 110, 43] ++ mag b)) := by
    simp only [cat_, sz_pos hb, decB_list, itoa_parts a, List.append_assoc]
    try rfl
  have hp : ∀ c, c ∈ nSg a ++ (nDs a ++ ([32, 110, 43] ++ mag b)) → plainU c = true := nS_plain h (by
    intro c hc
    simp only [List.mem_append, List.mem_cons, List.not_mem_nil, or_false] at hc
    repeat' (rcases hc with hc | hc)
    all_goals first | rfl | exact h.plain _ hc)
  have hT := tok_num (nSg_ok a) (nDs_ne a) (nDs_dig a h.a0 h.a1) (r := 32 :: 110 :: 43 :: asc (mag b)) rfl rfl rfl rfl (show ¬ (32 : Int) = 37 by decide) (nInt a h.a0 h.a1) (tok_white rfl (tok_ident (ns := []) (r := 43 :: asc (mag b)) (fun _ hb => by cases hb) rfl rfl (show ¬ (43 : Int) = 40 by decide) (num_sg (.inl rfl : isSg 43) (mag_ne b) h.dig (h.vals (.inl rfl)))))
  rw [TS.nodesOf hs hp (TS.conv (by (try simp only [asc_app]); (try rfl)) hT)]
  generalize (!(nSg a).isEmpty) = S
  rfl
theorem bk4p (a b : Int) (h : Two a b) (hb : 0 < b) : prsP (trimN (nodesS (decB a ++ ⟨#[110, 32]⟩ ++ decB b))) = (0, 0, 2) := by
  have hs : (decB a ++ ⟨#[110, 32]⟩ ++ decB b).data.toList = nSg a ++ (nDs a ++ ([110] ++ ([32] ++ mag b))) := by
    simp only [cat_, sz_pos hb, decB_list, itoa_parts a, List.append_assoc]
    try rfl
  have hp : ∀ c, c ∈ nSg a ++ (nDs a ++ ([110] ++ ([32] ++ mag b))) → plainU c = true := nS_plain h (by
    intro c hc
    simp only [List.mem_append, List.mem_cons, List.not_mem_nil, or_false] at hc
    repeat' (rcases hc with hc | hc)
    all_goals first | rfl | exact h.plain _ hc)
  have hT := dim_n h [110] (32 :: asc (mag b)) ⟨[], .inl rfl⟩ (lit_name rfl) rfl rfl (tok_white (whi_dig0 (mag_ne b) h.dig) (num_end (mag_ne b) h.dig h.val))
  rw [TS.nodesOf hs hp (TS.conv (by (try simp only [asc_app]); (try rfl)) hT)]
  generalize (!(nSg a).isEmpty) = S
  rfl
theorem bk5p (a b : Int) (h : Two a b) (hb : 0 < b) : prsP (trimN (nodesS (decB a ++ ⟨#[110, 32]⟩ ++ ⟨#[43]⟩ ++ ⟨#[32]⟩ ++ ⟨#[43]⟩ ++ decB b))) = (0, 0, 2) := by
  have hs : (decB a ++ ⟨#[110, 32]⟩ ++ ⟨#[43]⟩ ++ ⟨#[32]⟩ ++ ⟨#[43]⟩ ++ decB b).data.toList = nSg a ++ (nDs a ++ ([110] ++ ([32, 43, 32, 43] ++ mag b))) := by
    simp only [cat_, sz_pos hb, decB_list, itoa_parts a, List.append_assoc]
    try rfl
  have hp : ∀ c, c ∈ nSg a ++ (nDs a ++ ([110] ++ ([32, 43, 32, 43] ++ mag b))) → plainU c = true := nS_plain h (by
    intro c hc
    simp only [List.mem_append, List.mem_cons, List.not_mem_nil, or_false] at hc
    repeat' (rcases hc with hc | hc)
    all_goals first | rfl | exact h.plain _ hc)
  have hT := dim_n h [110] (32 :: 43 :: 32 :: 43 :: asc (mag b)) ⟨[], .inl rfl⟩ (lit_name rfl) rfl rfl (tok_white rfl (tok_delim 43 32 (.inl rfl) rfl (tok_white rfl (num_sg (.inl rfl : isSg 43) (mag_ne b) h.dig (h.vals (.inl rfl))))))
  rw [TS.nodesOf hs hp (TS.conv (by (try simp only [asc_app]); (try rfl)) hT)]
  generalize (!(nSg a).isEmpty) = S
  rfl
theorem bk6p (a b : Int) (h : Two a b) (hb : 0 < b) : prsP (trimN (nodesS (decB a ++ ⟨#[110]⟩ ++ ⟨#[43]⟩ ++ decB b ++ ⟨#[32, 49]⟩))) = (0, 0, 2) := by
  have hs : (decB a ++ ⟨#[110]⟩ ++ ⟨#[43]⟩ ++ decB b ++ ⟨#[32, 49]⟩).data.toList = nSg a ++ (nDs a ++ ([110] ++ ([43] ++ (mag b ++ [32, 49])))) := by
    simp only [cat_, sz_pos hb, decB_list, itoa_parts a, List.append_assoc]
    try rfl
  have hp : ∀ c, c ∈ nSg a ++ (nDs a ++ ([110] ++ ([43] ++ (mag b ++ [32, 49])))) → plainU c = true := nS_plain h (by
    intro c hc
    simp only [List.mem_append, List.mem_cons, List.not_mem_nil, or_false] at hc
    repeat' (rcases hc with hc | hc)
    all_goals first | rfl | exact h.plain _ hc)
  have hT := dim_n h [110] (43 :: (asc (mag b) ++ (32 :: asc [49]))) ⟨[], .inl rfl⟩ (lit_name rfl) rfl rfl (tok_num (sgn := [43]) (r := 32 :: asc [49]) (.inr (.inl rfl)) (mag_ne b) h.dig rfl rfl rfl rfl (show ¬ (32 : Int) = 37 by decide) h.valp (tok_white rfl tok_one))
  rw [TS.nodesOf hs hp (TS.conv (by (try simp only [asc_app]); (try rfl)) hT)]
  generalize (!(nSg a).isEmpty) = S
  rfl
theorem bk0m (a b : Int) (h : Two a b) (hb : b < 0) : prsP (trimN (nodesS (decB a ++ ⟨#[110, 32]⟩ ++ ⟨#[45]⟩ ++ ⟨#[32]⟩ ++ decB (-b)))) = (a, b, 0) := by
  have hs : (decB a ++ ⟨#[110, 32]⟩ ++ ⟨#[45]⟩ ++ ⟨#[32]⟩ ++ decB (-b)).data.toList = nSg a ++ (nDs a ++ ([110] ++ ([32, 45, 32] ++ mag b))) := by
    simp only [cat_, sz_neg hb, decB_list, itoa_parts a, List.append_assoc]
    try rfl
  have hp : ∀ c, c ∈ nSg a ++ (nDs a ++ ([110] ++ ([32, 45, 32] ++ mag b))) → plainU c = true := nS_plain h (by
    intro c hc
    simp only [List.mem_append, List.mem_cons, List.not_mem_nil, or_false] at hc
    repeat' (rcases hc with hc | hc)
    all_goals first | rfl | exact h.plain _ hc)
  have hT := dim_n h [110] (32 :: 45 :: 32 :: asc (mag b)) ⟨[], .inl rfl⟩ (lit_name rfl) rfl rfl (tok_white rfl (tok_delim 45 32 (.inr rfl) rfl (tok_white (whi_dig0 (mag_ne b) h.dig) (num_end (mag_ne b) h.dig h.val))))
  rw [TS.nodesOf hs hp (TS.conv (by (try simp only [asc_app]); (try rfl)) hT)]
  generalize (!(nSg a).isEmpty) = S
  refine Eq.trans (b := (a, -(b.natAbs : Int), 0)) (by rfl) ?_
  have e : -(b.natAbs : Int) = b := by omega
  rw [e]
theorem bk1m (a b : Int) (h : Two a b) (hb : b < 0) : prsP (trimN (nodesS (decB a ++ ⟨#[78, 32]⟩ ++ ⟨#[45]⟩ ++ decB (-b)))) = (a, b, 0) := by
  have hs : (decB a ++ ⟨#[78, 32]⟩ ++ ⟨#[45]⟩ ++ decB (-b)).data.toList = nSg a ++ (nDs a ++ ([78] ++ ([32, 45] ++ mag b))) := by
    simp only [cat_, sz_neg hb, decB_list, itoa_parts a, List.append_assoc]
    try rfl
  have hp : ∀ c, c ∈ nSg a ++ (nDs a ++ ([78] ++ ([32, 45] ++ mag b))) → plainU c = true := nS_plain h (by
    intro c hc
    simp only [List.mem_append, List.mem_cons, List.not_mem_nil, or_false] at hc
    repeat' (rcases hc with hc | hc)
    all_goals first | rfl | exact h.plain _ hc)
  have hT := dim_n h [78] (32 :: 45 :: asc (mag b)) ⟨[], .inr rfl⟩ (lit_name rfl) rfl rfl (tok_white rfl (num_sg (.inr rfl : isSg 45) (mag_ne b) h.dig (h.vals (.inr rfl))))
  rw [TS.nodesOf hs hp (TS.conv (by (try simp only [asc_app]); (try rfl)) hT)]
  generalize (!(nSg a).isEmpty) = S
  refine Eq.trans (b := (a, sgV 45 b, 0)) (by rfl) ?_
  have e : sgV 45 b = b := by (unfold sgV; first | rw [if_neg (by decide)] | rw [if_pos rfl]); omega
  rw [e]
theorem bk2m (a b : Int) (h : Two a b) (hb : b < 0) : prsP (trimN (nodesS (decB a ++ ⟨#[110]⟩ ++ ⟨#[45]⟩ ++ ⟨#[32]⟩ ++ decB (-b)))) = (a, b, 0) := by
  have hs : (decB a ++ ⟨#[110]⟩ ++ ⟨#[45]⟩ ++ ⟨#[32]⟩ ++ decB (-b)).data.toList = nSg a ++ (nDs a ++ ([110, 45] ++ ([32] ++ mag b))) := by
    simp only [cat_, sz_neg hb, decB_list, itoa_parts a, List.append_assoc]
    try rfl
  have hp : ∀ c, c ∈ nSg a ++ (nDs a ++ ([110, 45] ++ ([32] ++ mag b))) → plainU c = true := nS_plain h (by
    intro c hc
    simp only [List.mem_append, List.mem_cons, List.not_mem_nil, or_false] at hc
    repeat' (rcases hc with hc | hc)
    all_goals first | rfl | exact h.plain _ hc)
  have hT := dim_n h [110, 45] (32 :: asc (mag b)) ⟨[45], .inl rfl⟩ (lit_name rfl) rfl rfl (tok_white (whi_dig0 (mag_ne b) h.dig) (num_end (mag_ne b) h.dig h.val))
  rw [TS.nodesOf hs hp (TS.conv (by (try simp only [asc_app]); (try rfl)) hT)]
  generalize (!(nSg a).isEmpty) = S
  refine Eq.trans (b := (a, -(b.natAbs : Int), 0)) (by rfl) ?_
  have e : -(b.natAbs : Int) = b := by omega
  rw [e]
theorem bk3m (a b : Int) (h : Two a b) (hb : b < 0) : prsP (trimN (nodesS (decB a ++ ⟨#[32, 110]⟩ ++ ⟨#[45]⟩ ++ decB (-b)))) = (0, 0, 2) := by
  have hs : (decB a ++ ⟨#[32, 110]⟩ ++ ⟨#[45]⟩ ++ decB (-b)).data.toList = nSg a ++ (nDs a ++ ([32, 110, 45] ++ mag b)) := by
    simp only [cat_, sz_neg hb, decB_list, itoa_parts a, List.append_assoc]
    try rfl
  have hp : ∀ c, c ∈ nSg a ++ (nDs a ++ ([32, 110, 45] ++ mag b)) → plainU c = true := nS_plain h (by
    intro c hc
    simp only [List.mem_append, List.mem_cons, List.not_mem_nil, or_false] at hc
    repeat' (rcases hc with hc | hc)
    all_goals first | rfl | exact h.plain _ hc)
  have hT := tok_num (nSg_ok a) (nDs_ne a) (nDs_dig a h.a0 h.a1) (r := 32 :: 110 :: asc (45 :: mag b)) rfl rfl rfl rfl (show ¬ (32 : Int) = 37 by decide) (nInt a h.a0 h.a1) (tok_white rfl (ident_end (dash_name h)))
  rw [TS.nodesOf hs hp (TS.conv (by (try simp only [asc_app]); (try rfl)) hT)]
  generalize (!(nSg a).isEmpty) = S
  rfl
theorem bk4m (a b : Int) (h : Two a b) (hb : b < 0) : prsP (trimN (nodesS (decB a ++ ⟨#[110, 32]⟩ ++ decB (-b)))) = (0, 0, 2) := by
  have hs : (decB a ++ ⟨#[110, 32]⟩ ++ decB (-b)).data.toList = nSg a ++ (nDs a ++ ([110] ++ ([32] ++ mag b))) := by
    simp only [cat_, sz_neg hb, decB_list, itoa_parts a, List.append_assoc]
    try rfl
  have hp : ∀ c, c ∈ nSg a ++ (nDs a ++ ([110] ++ ([32] ++ mag b))) → plainU c = true := nS_plain h (by
    intro c hc
    simp only [List.mem_append, List.mem_cons, List.not_mem_nil, or_false] at hc
    repeat' (rcases hc with hc | hc)
    all_goals first | rfl | exact h.plain _ hc)
  have hT := dim_n h [110] (32 :: asc (mag b)) ⟨[], .inl rfl⟩ (lit_name rfl) rfl rfl (tok_white (whi_dig0 (mag_ne b) h.dig) (num_end (mag_ne b) h.dig h.val))
  rw [TS.nodesOf hs hp (TS.conv (by (try simp only [asc_app]); (try rfl)) hT)]
  generalize (!(nSg a).isEmpty) = S
  rfl
theorem bk5m (a b : Int) (h : Two a b) (hb : b < 0) : prsP (trimN (nodesS (decB a ++ ⟨#[110, 32]⟩ ++ ⟨#[45]⟩ ++ ⟨#[32]⟩ ++ ⟨#[45]⟩ ++ decB (-b)))) = (0, 0, 2) := by
  have hs : (decB a ++ ⟨#[110, 32]⟩ ++ ⟨#[45]⟩ ++ ⟨#[32]⟩ ++ ⟨#[45]⟩ ++ decB (-b)).data.toList = nSg a ++ (nDs a ++ ([110] ++ ([32, 45, 32, 45] ++ mag b))) := by
    simp only [cat_, sz_neg hb, decB_list, itoa_parts a, List.append_assoc]
    try rfl
  have hp : ∀ c, c ∈ nSg a ++ (nDs a ++ ([110] ++ ([32, 45, 32, 45] ++ mag b))) → plainU c = true := nS_plain h (by
    intro c hc
    simp only [List.mem_append, List.mem_cons, List.not_mem_nil, or_false] at hc
    repeat' (rcases hc with hc | hc)
    all_goals first | rfl | exact h.plain _ hc)
  have hT := dim_n h [110] (32 :: 45 :: 32 :: 45 :: asc (mag b)) ⟨[], .inl rfl⟩ (lit_name rfl) rfl rfl (tok_white rfl (tok_delim 45 32 (.inr rfl) rfl (tok_white rfl (num_sg (.inr rfl : isSg 45) (mag_ne b) h.dig (h.vals (.inr rfl))))))
  rw [TS.nodesOf hs hp (TS.conv (by (try simp only [asc_app]); (try rfl)) hT)]
  generalize (!(nSg a).isEmpty) = S
  rfl
theorem bk6m (a b : Int) (h : Two a b) (hb : b < 0) : prsP (trimN (nodesS (decB a ++ ⟨#[110]⟩ ++ ⟨#[45]⟩ ++ decB (-b) ++ ⟨#[32, 49]⟩))) = (0, 0, 2) := by
  have hs : (decB a ++ ⟨#[110]⟩ ++ ⟨#[45]⟩ ++ decB (-b) ++ ⟨#[32, 49]⟩).data.toList = nSg a ++ (nDs a ++ (([110, 45] ++ mag b) ++ [32, 49])) := by
    simp only [cat_, sz_neg hb, decB_list, itoa_parts a, List.append_assoc]
    try rfl
  have hp : ∀ c, c ∈ nSg a ++ (nDs a ++ (([110, 45] ++ mag b) ++ [32, 49])) → plainU c = true := nS_plain h (by
    intro c hc
    simp only [List.mem_append, List.mem_cons, List.not_mem_nil, or_false] at hc
    repeat' (rcases hc with hc | hc)
    all_goals first | rfl | exact h.plain _ hc)
  have hT := dim_n h ([110, 45] ++ mag b) (32 :: asc [49]) ⟨45 :: mag b, .inl rfl⟩ (dash_name2 h) rfl rfl (tok_white rfl tok_one)
  rw [TS.nodesOf hs hp (TS.conv (by (try simp only [asc_app]); (try rfl)) hT)]
  generalize (!(nSg a).isEmpty) = S
  exact prs_dash_more a S b.natAbs (by have := h.b0; have := h.b1; omega) _ _ rfl rfl
theorem bkT2 (a b : Int) (h : Two a b) : prsP (trimN (nodesS (decB a ++ ⟨#[110]⟩))) = (a, 0, 0) := by
  have hs : (decB a ++ ⟨#[110]⟩).data.toList = nSg a ++ (nDs a ++ ([110])) := by
    simp only [cat_, decB_list, itoa_parts a, List.append_assoc]
    try rfl
  have hp : ∀ c, c ∈ nSg a ++ (nDs a ++ ([110])) → plainU c = true := nS_plain h (by
    intro c hc
    simp only [List.mem_append, List.mem_cons, List.not_mem_nil, or_false] at hc
    repeat' (rcases hc with hc | hc)
    all_goals first | rfl | exact h.plain _ hc)
  have hT := (List.append_nil (asc [110])) ▸ dim_n h [110] [] ⟨[], .inl rfl⟩ (lit_name rfl) rfl rfl .nil
  rw [TS.nodesOf hs hp (TS.conv (by (try simp only [asc_app]); (try rfl)) hT)]
  generalize (!(nSg a).isEmpty) = S
  rfl
theorem bkT3 (a b : Int) (h : Two a b) (hb : b < 0) : prsP (trimN (nodesS (decB a ++ ⟨#[110]⟩ ++ decB b))) = (a, b, 0) := by
  have hs : (decB a ++ ⟨#[110]⟩ ++ decB b).data.toList = nSg a ++ (nDs a ++ ([110, 45] ++ mag b)) := by
    simp only [cat_, mag_neg hb, decB_list, itoa_parts a, List.append_assoc]
    try rfl
  have hp : ∀ c, c ∈ nSg a ++ (nDs a ++ ([110, 45] ++ mag b)) → plainU c = true := nS_plain h (by
    intro c hc
    simp only [List.mem_append, List.mem_cons, List.not_mem_nil, or_false] at hc
    repeat' (rcases hc with hc | hc)
    all_goals first | rfl | exact h.plain _ hc)
  have hT := (List.append_nil (asc ([110, 45] ++ mag b))) ▸ dim_n h ([110, 45] ++ mag b) [] ⟨45 :: mag b, .inl rfl⟩ (dash_name2 h) rfl rfl .nil
  rw [TS.nodesOf hs hp (TS.conv (by (try simp only [asc_app]); (try rfl)) hT)]
  generalize (!(nSg a).isEmpty) = S
  refine Eq.trans (prs_dash a S b.natAbs (by have := h.b0; have := h.b1; omega)) ?_
  rw [show -(b.natAbs : Int) = b by omega]
theorem bkT4 (a b : Int) (h : Two a b) (hb : 0 < b) : prsP (trimN (nodesS (decB a ++ ⟨#[110, 43]⟩ ++ decB b))) = (a, b, 0) := by
  have hs : (decB a ++ ⟨#[110, 43]⟩ ++ decB b).data.toList = nSg a ++ (nDs a ++ ([110] ++ ([43] ++ mag b))) := by
    simp only [cat_, sz_pos hb, decB_list, itoa_parts a, List.append_assoc]
    try rfl
  have hp : ∀ c, c ∈ nSg a ++ (nDs a ++ ([110] ++ ([43] ++ mag b))) → plainU c = true := nS_plain h (by
    intro c hc
    simp only [List.mem_append, List.mem_cons, List.not_mem_nil, or_false] at hc
    repeat' (rcases hc with hc | hc)
    all_goals first | rfl | exact h.plain _ hc)
  have hT := dim_n h [110] (43 :: asc (mag b)) ⟨[], .inl rfl⟩ (lit_name rfl) rfl rfl (num_sg (.inl rfl : isSg 43) (mag_ne b) h.dig (h.vals (.inl rfl)))
  rw [TS.nodesOf hs hp (TS.conv (by (try simp only [asc_app]); (try rfl)) hT)]
  generalize (!(nSg a).isEmpty) = S
  refine Eq.trans (b := (a, sgV 43 b, 0)) (by rfl) ?_
  have e : sgV 43 b = b := by (unfold sgV; first | rw [if_neg (by decide)] | rw [if_pos rfl]); omega
  rw [e]

theorem Round7_f (k : Int) : ∃ i : Nat, i < 7 ∧ fleuronalike_Round.f k 7 = some (i : Int) := by
  have h1 : -7 < k.tmod 7 ∧ k.tmod 7 < 7 := ⟨by have := Int.lt_tmod_of_pos k (b := 7) (by decide); omega, Int.tmod_lt_of_pos k (by decide)⟩
  have e : wrap64 (k.tmod 7 + 7) = k.tmod 7 + 7 := by unfold wrap64; omega
  have h2 := Int.tmod_eq_emod_of_nonneg (a := k.tmod 7 + 7) (b := 7) (by omega)
  refine ⟨((k.tmod 7 + 7) % 7).toNat, by omega, ?_⟩
  unfold fleuronalike_Round.f
  rw [if_neg (by decide), e, h2]
  congr 1
  omega
theorem textB_size (a b : Int) (ha0 : -9223372036854775808 ≤ a) (ha1 : a ≤ 9223372036854775807) (hb0 : -9223372036854775808 ≤ b) (hb1 : b ≤ 9223372036854775807) : (textB a b).size ≤ 50 := by
  have h1 := decB_size a ha0 ha1
  have h2 := decB_size b hb0 hb1
  have e1 : (⟨#[110]⟩ : ByteArray).size = 1 := rfl
  have e2 : (⟨#[110, 43]⟩ : ByteArray).size = 2 := rfl
  unfold textB
  split
  · omega
  · split
    · rw [ByteArray.size_append]; omega
    · split
      · rw [ByteArray.size_append, ByteArray.size_append]; omega
      · rw [ByteArray.size_append, ByteArray.size_append]; omega
theorem bkT (a b : Int) (h : Two a b) : prsP (trimN (nodesS (textB a b))) = (a, b, 0) := by
  unfold textB
  by_cases ha : a = 0
  · rw [if_pos ha, ha]
    exact wd0 b (by have := h.b0; omega) h.b1
  · rw [if_neg ha]
    by_cases hb : b = 0
    · rw [if_pos hb, hb]
      subst hb
      exact bkT2 a 0 h
    · rw [if_neg hb]
      by_cases hn : b < 0
      · rw [if_pos hn]
        exact bkT3 a b h hn
      · rw [if_neg hn]
        exact bkT4 a b h (by omega)
set_option maxHeartbeats 8000000 in
set_option maxRecDepth 100000 in
theorem lawBack_g0 (a b k : Int) (h0 : a < -2147483648) (w : World) (ht : TabP w) :
    Calls Tryd.prog 4 #[.int .i64 a, .int .i64 b, .int .i64 k] w fun e w' => e = .returned (.bool true) ∧ Below w.heap.size w w' := by
  have HT := Aside0.mk ht
  have HB := Aside0.mk (Below.refl w.heap.size w)
  have tok0 : True := trivial
  have tok1 : True := trivial
  have tok2 : True := trivial
  clear ht
  have d0 : decide (a < -2147483648) = true := decide_eq_true h0
  go_enter Tryd.func4, Tryd.ntmps4
  go_wp2_with (go_at_call 7; refine (awake_c _ HT.out).mono ?_; rintro e w1 ⟨rfl, hb⟩; have h := HB.out.trans (hb.mono HB.out.size); have h2 := tabP_below HT.out hb; clear HB HT; have HB := Aside0.mk h; have HT := Aside0.mk h2; clear hb h h2)
  go_ret
  exact ⟨rfl, HB.out⟩
set_option maxHeartbeats 8000000 in
set_option maxRecDepth 100000 in
theorem lawBack_g1 (a b k : Int) (h0 : ¬ a < -2147483648) (h1 : 2147483648 ≤ a) (w : World) (ht : TabP w) :
    Calls Tryd.prog 4 #[.int .i64 a, .int .i64 b, .int .i64 k] w fun e w' => e = .returned (.bool true) ∧ Below w.heap.size w w' := by
  have HT := Aside0.mk ht
  have HB := Aside0.mk (Below.refl w.heap.size w)
  have tok0 : True := trivial
  have tok1 : True := trivial
  have tok2 : True := trivial
  clear ht
  have d0 : decide (a < -2147483648) = false := decide_eq_false h0
  have d1 : decide (2147483648 ≤ a) = true := decide_eq_true h1
  go_enter Tryd.func4, Tryd.ntmps4
  go_wp2_with (go_at_call 7; refine (awake_c _ HT.out).mono ?_; rintro e w1 ⟨rfl, hb⟩; have h := HB.out.trans (hb.mono HB.out.size); have h2 := tabP_below HT.out hb; clear HB HT; have HB := Aside0.mk h; have HT := Aside0.mk h2; clear hb h h2)
  go_ret
  exact ⟨rfl, HB.out⟩
set_option maxHeartbeats 8000000 in
set_option maxRecDepth 100000 in
theorem lawBack_g2 (a b k : Int) (h0 : ¬ a < -2147483648) (h1 : ¬ 2147483648 ≤ a) (h2 : b ≤ -2147483648) (w : World) (ht : TabP w) :
    Calls Tryd.prog 4 #[.int .i64 a, .int .i64 b, .int .i64 k] w fun e w' => e = .returned (.bool true) ∧ Below w.heap.size w w' := by
  have HT := Aside0.mk ht
  have HB := Aside0.mk (Below.refl w.heap.size w)
  have tok0 : True := trivial
  have tok1 : True := trivial
  have tok2 : True := trivial
  clear ht
  have d0 : decide (a < -2147483648) = false := decide_eq_false h0
  have d1 : decide (2147483648 ≤ a) = false := decide_eq_false h1
  have d2 : decide (b ≤ -2147483648) = true := decide_eq_true h2
  go_enter Tryd.func4, Tryd.ntmps4
  go_wp2_with (go_at_call 7; refine (awake_c _ HT.out).mono ?_; rintro e w1 ⟨rfl, hb⟩; have h := HB.out.trans (hb.mono HB.out.size); have h2 := tabP_below HT.out hb; clear HB HT; have HB := Aside0.mk h; have HT := Aside0.mk h2; clear hb h h2)
  go_ret
  exact ⟨rfl, HB.out⟩
set_option maxHeartbeats 8000000 in
set_option maxRecDepth 100000 in
theorem lawBack_g3 (a b k : Int) (h0 : ¬ a < -2147483648) (h1 : ¬ 2147483648 ≤ a) (h2 : ¬ b ≤ -2147483648) (h3 : 2147483648 ≤ b) (w : World) (ht : TabP w) :
    Calls Tryd.prog 4 #[.int .i64 a, .int .i64 b, .int .i64 k] w fun e w' => e = .returned (.bool true) ∧ Below w.heap.size w w' := by
  have HT := Aside0.mk ht
  have HB := Aside0.mk (Below.refl w.heap.size w)
  have tok0 : True := trivial
  have tok1 : True := trivial
  have tok2 : True := trivial
  clear ht
  have d0 : decide (a < -2147483648) = false := decide_eq_false h0
  have d1 : decide (2147483648 ≤ a) = false := decide_eq_false h1
  have d2 : decide (b ≤ -2147483648) = false := decide_eq_false h2
  have d3 : decide (2147483648 ≤ b) = true := decide_eq_true h3
  go_enter Tryd.func4, Tryd.ntmps4
  go_wp2_with (go_at_call 7; refine (awake_c _ HT.out).mono ?_; rintro e w1 ⟨rfl, hb⟩; have h := HB.out.trans (hb.mono HB.out.size); have h2 := tabP_below HT.out hb; clear HB HT; have HB := Aside0.mk h; have HT := Aside0.mk h2; clear hb h h2)
  go_ret
  exact ⟨rfl, HB.out⟩
set_option maxHeartbeats 8000000 in
set_option maxRecDepth 100000 in
theorem lawBack_za (a b k : Int) (h : Two a b) (ha : a = 0) (w : World) (ht : TabP w) :
    Calls Tryd.prog 4 #[.int .i64 a, .int .i64 b, .int .i64 k] w fun e w' => e = .returned (.bool true) ∧ Below w.heap.size w w' := by
  have HT := Aside0.mk ht
  have HB := Aside0.mk (Below.refl w.heap.size w)
  have tok0 : True := trivial
  have tok1 : True := trivial
  have tok2 : True := trivial
  clear ht
  have d0 : decide (a < -2147483648) = false := decide_eq_false (by have := h.a0; have := h.a1; have := h.b0; have := h.b1; omega)
  have d1 : decide (2147483648 ≤ a) = false := decide_eq_false (by have := h.a0; have := h.a1; have := h.b0; have := h.b1; omega)
  have d2 : decide (b ≤ -2147483648) = false := decide_eq_false (by have := h.a0; have := h.a1; have := h.b0; have := h.b1; omega)
  have d3 : decide (2147483648 ≤ b) = false := decide_eq_false (by have := h.a0; have := h.a1; have := h.b0; have := h.b1; omega)
  have HX := Aside0.mk (fun W => Text_c a b (by have := h.a0; omega) (by have := h.a1; omega) (by have := h.b0; omega) (by have := h.b1; omega) W)
  have HXZ := Aside0.mk (show (textB a b).size ≤ 1000000 from Nat.le_trans (textB_size a b (by have := h.a0; omega) (by have := h.a1; omega) (by have := h.b0; omega) (by have := h.b1; omega)) (by decide))
  have WT := Aside0.mk (bkT a b h)
  have z1 : (a == 0) = true := beq_iff_eq.2 ha
  clear h ha
  go_enter Tryd.func4, Tryd.ntmps4
  go_wp2_with (first
    | (go_at_call 13; refine (HX.out _ HT.out).mono ?_; rintro e w1 ⟨rfl, hb⟩; have h := HB.out.trans (hb.mono HB.out.size); have h2 := tabP_below HT.out hb; clear HB HT; have HB := Aside0.mk h; have HT := Aside0.mk h2; clear hb h h2)
    | (go_at_call 8; have _t := tok0; refine (nodes_c (textB a b) _ HXZ.out).mono ?_; rintro e w1 ⟨v, rfl, hr, hb⟩; clear tok0; obtain ⟨A, c, rfl, -, -⟩ := Kd.R_reads hr; have HR0 := Aside0.mk hr; clear hr; have h := HB.out.trans (hb.mono HB.out.size); have h2 := tabP_below HT.out hb; clear HB HT; have HB := Aside0.mk h; have HT := Aside0.mk h2; clear hb h h2)
    | (go_at_call 9; refine (prsS_c (textB a b) HXZ.out _ _ _ HR0.out).mono ?_; rw [WT.out]; rintro e w1 ⟨rfl, hb⟩; clear HR0; have h := HB.out.trans (hb.mono HB.out.size); have h2 := tabP_below HT.out hb; clear HB HT; have HB := Aside0.mk h; have HT := Aside0.mk h2; clear hb h h2)
    | (go_at_call 7; refine (awake_c _ HT.out).mono ?_; rintro e w1 ⟨rfl, hb⟩; have h := HB.out.trans (hb.mono HB.out.size); have h2 := tabP_below HT.out hb; clear HB HT; have HB := Aside0.mk h; have HT := Aside0.mk h2; clear hb h h2))
  go_ret
  exact ⟨rfl, HB.out⟩
set_option maxHeartbeats 8000000 in
set_option maxRecDepth 100000 in
theorem lawBack_zb (a b k : Int) (h : Two a b) (ha : ¬ a = 0) (hb : b = 0) (w : World) (ht : TabP w) :
    Calls Tryd.prog 4 #[.int .i64 a, .int .i64 b, .int .i64 k] w fun e w' => e = .returned (.bool true) ∧ Below w.heap.size w w' := by
  have HT := Aside0.mk ht
  have HB := Aside0.mk (Below.refl w.heap.size w)
  have tok0 : True := trivial
  have tok1 : True := trivial
  have tok2 : True := trivial
  clear ht
  have d0 : decide (a < -2147483648) = false := decide_eq_false (by have := h.a0; have := h.a1; have := h.b0; have := h.b1; omega)
  have d1 : decide (2147483648 ≤ a) = false := decide_eq_false (by have := h.a0; have := h.a1; have := h.b0; have := h.b1; omega)
  have d2 : decide (b ≤ -2147483648) = false := decide_eq_false (by have := h.a0; have := h.a1; have := h.b0; have := h.b1; omega)
  have d3 : decide (2147483648 ≤ b) = false := decide_eq_false (by have := h.a0; have := h.a1; have := h.b0; have := h.b1; omega)
  have HX := Aside0.mk (fun W => Text_c a b (by have := h.a0; omega) (by have := h.a1; omega) (by have := h.b0; omega) (by have := h.b1; omega) W)
  have HXZ := Aside0.mk (show (textB a b).size ≤ 1000000 from Nat.le_trans (textB_size a b (by have := h.a0; omega) (by have := h.a1; omega) (by have := h.b0; omega) (by have := h.b1; omega)) (by decide))
  have WT := Aside0.mk (bkT a b h)
  have z1 : (a == 0) = false := beq_eq_false_iff_ne.2 ha
  have z2 : (b == 0) = true := beq_iff_eq.2 hb
  clear h ha hb
  go_enter Tryd.func4, Tryd.ntmps4
  go_wp2_with (first
    | (go_at_call 13; refine (HX.out _ HT.out).mono ?_; rintro e w1 ⟨rfl, hb⟩; have h := HB.out.trans (hb.mono HB.out.size); have h2 := tabP_below HT.out hb; clear HB HT; have HB := Aside0.mk h; have HT := Aside0.mk h2; clear hb h h2)
    | (go_at_call 8; have _t := tok0; refine (nodes_c (textB a b) _ HXZ.out).mono ?_; rintro e w1 ⟨v, rfl, hr, hb⟩; clear tok0; obtain ⟨A, c, rfl, -, -⟩ := Kd.R_reads hr; have HR0 := Aside0.mk hr; clear hr; have h := HB.out.trans (hb.mono HB.out.size); have h2 := tabP_below HT.out hb; clear HB HT; have HB := Aside0.mk h; have HT := Aside0.mk h2; clear hb h h2)
    | (go_at_call 9; refine (prsS_c (textB a b) HXZ.out _ _ _ HR0.out).mono ?_; rw [WT.out]; rintro e w1 ⟨rfl, hb⟩; clear HR0; have h := HB.out.trans (hb.mono HB.out.size); have h2 := tabP_below HT.out hb; clear HB HT; have HB := Aside0.mk h; have HT := Aside0.mk h2; clear hb h h2)
    | (go_at_call 7; refine (awake_c _ HT.out).mono ?_; rintro e w1 ⟨rfl, hb⟩; have h := HB.out.trans (hb.mono HB.out.size); have h2 := tabP_below HT.out hb; clear HB HT; have HB := Aside0.mk h; have HT := Aside0.mk h2; clear hb h h2))
  go_ret
  exact ⟨rfl, HB.out⟩
set_option maxHeartbeats 8000000 in
set_option maxRecDepth 100000 in
theorem lawBack_0p (a b k : Int) (h : Two a b) (ha : ¬ a = 0) (hb : 0 < b) (hk : fleuronalike_Round.f k 7 = some 0) (w : World) (ht : TabP w) :
    Calls Tryd.prog 4 #[.int .i64 a, .int .i64 b, .int .i64 k] w fun e w' => e = .returned (.bool true) ∧ Below w.heap.size w w' := by
  have HT := Aside0.mk ht
  have HB := Aside0.mk (Below.refl w.heap.size w)
  have tok0 : True := trivial
  have tok1 : True := trivial
  have tok2 : True := trivial
  clear ht
  have d0 : decide (a < -2147483648) = false := decide_eq_false (by have := h.a0; have := h.a1; have := h.b0; have := h.b1; omega)
  have d1 : decide (2147483648 ≤ a) = false := decide_eq_false (by have := h.a0; have := h.a1; have := h.b0; have := h.b1; omega)
  have d2 : decide (b ≤ -2147483648) = false := decide_eq_false (by have := h.a0; have := h.a1; have := h.b0; have := h.b1; omega)
  have d3 : decide (2147483648 ≤ b) = false := decide_eq_false (by have := h.a0; have := h.a1; have := h.b0; have := h.b1; omega)
  have HX := Aside0.mk (fun W => Text_c a b (by have := h.a0; omega) (by have := h.a1; omega) (by have := h.b0; omega) (by have := h.b1; omega) W)
  have HXZ := Aside0.mk (show (textB a b).size ≤ 1000000 from Nat.le_trans (textB_size a b (by have := h.a0; omega) (by have := h.a1; omega) (by have := h.b0; omega) (by have := h.b1; omega)) (by decide))
  have WT := Aside0.mk (bkT a b h)
  have HK := Aside0.mk hk
  have HDa := Aside0.mk (fun W => Decimal_c a (by have := h.a0; omega) (by have := h.a1; omega) W)
  have HDb := Aside0.mk (fun W => Decimal_c b (by have := h.b0; have := h.b1; omega) (by have := h.b0; have := h.b1; omega) W)
  have hza := decB_size a (by have := h.a0; omega) (by have := h.a1; omega)
  have hzb := decB_size b (by have := h.b0; have := h.b1; omega) (by have := h.b0; have := h.b1; omega)
  have WS := Aside0.mk (bk0p a b h hb)
  have HSZ := Aside0.mk (show (decB a ++ ⟨#[110, 32]⟩ ++ ⟨#[43]⟩ ++ ⟨#[32]⟩ ++ decB b).size ≤ 1000000 by
    simp only [ByteArray.size_append]
    have e0 : (⟨#[110, 32]⟩ : ByteArray).size = 2 := rfl
    have e1 : (⟨#[43]⟩ : ByteArray).size = 1 := rfl
    have e2 : (⟨#[32]⟩ : ByteArray).size = 1 := rfl
    omega)
  obtain ⟨s, hs⟩ : ∃ s : ByteArray, decB a ++ ⟨#[110, 32]⟩ ++ ⟨#[43]⟩ ++ ⟨#[32]⟩ ++ decB b = s := ⟨_, rfl⟩
  rw [hs] at WS HSZ
  have z1 : (a == 0) = false := beq_eq_false_iff_ne.2 ha
  have z2 : (b == 0) = false := beq_eq_false_iff_ne.2 (by omega)
  have z3 : decide (b < 0) = false := decide_eq_false (by omega)
  have q0 : -2147483648 < b := h.b0
  have q1 : b ≤ 2147483647 := h.b1
  clear h ha hb hk
  go_enter Tryd.func4, Tryd.ntmps4
  go_wp2_with (first
    | (go_at_call 13; refine (HX.out _ HT.out).mono ?_; rintro e w1 ⟨rfl, hb⟩; have h := HB.out.trans (hb.mono HB.out.size); have h2 := tabP_below HT.out hb; clear HB HT; have HB := Aside0.mk h; have HT := Aside0.mk h2; clear hb h h2)
    | (go_at_call 8; have _t := tok0; refine (nodes_c (textB a b) _ HXZ.out).mono ?_; rintro e w1 ⟨v, rfl, hr, hb⟩; clear tok0; obtain ⟨A, c, rfl, -, -⟩ := Kd.R_reads hr; have HR0 := Aside0.mk hr; clear hr; have h := HB.out.trans (hb.mono HB.out.size); have h2 := tabP_below HT.out hb; clear HB HT; have HB := Aside0.mk h; have HT := Aside0.mk h2; clear hb h h2)
    | (go_at_call 9; refine (prsS_c (textB a b) HXZ.out _ _ _ HR0.out).mono ?_; rw [WT.out]; rintro e w1 ⟨rfl, hb⟩; clear HR0; have h := HB.out.trans (hb.mono HB.out.size); have h2 := tabP_below HT.out hb; clear HB HT; have HB := Aside0.mk h; have HT := Aside0.mk h2; clear hb h h2)
    | (go_at_call 15; have _t := tok1; refine (HDa.out _).mono ?_; rintro e w1 ⟨rfl, hb⟩; clear tok1; have h := HB.out.trans (hb.mono HB.out.size); have h2 := tabP_below HT.out hb; clear HB HT; have HB := Aside0.mk h; have HT := Aside0.mk h2; clear hb h h2)
    | (go_at_call 15; refine (HDb.out _).mono ?_; rintro e w1 ⟨rfl, hb⟩; have h := HB.out.trans (hb.mono HB.out.size); have h2 := tabP_below HT.out hb; clear HB HT; have HB := Aside0.mk h; have HT := Aside0.mk h2; clear hb h h2)
    | (go_at_call 16; refine (fleuronalike_Round.calls k 7 0 _ HK.out).mono ?_; rintro e w1 ⟨rfl, hd⟩; have hb := hd.below; clear hd; have h := HB.out.trans (hb.mono HB.out.size); have h2 := tabP_below HT.out hb; clear HB HT; have HB := Aside0.mk h; have HT := Aside0.mk h2; clear hb h h2)
    | (go_at_call 8; have _t := tok2; refine (nodes_c (s) _ HSZ.out).mono ?_; rintro e w1 ⟨v, rfl, hr, hb⟩; clear tok2; obtain ⟨A, c, rfl, -, -⟩ := Kd.R_reads hr; have HR2 := Aside0.mk hr; clear hr; have h := HB.out.trans (hb.mono HB.out.size); have h2 := tabP_below HT.out hb; clear HB HT; have HB := Aside0.mk h; have HT := Aside0.mk h2; clear hb h h2)
    | (go_at_call 9; refine (prsS_c (s) HSZ.out _ _ _ HR2.out).mono ?_; rw [WS.out]; rintro e w1 ⟨rfl, hb⟩; clear HR2; have h := HB.out.trans (hb.mono HB.out.size); have h2 := tabP_below HT.out hb; clear HB HT; have HB := Aside0.mk h; have HT := Aside0.mk h2; clear hb h h2)
    | (go_at_call 7; refine (awake_c _ HT.out).mono ?_; rintro e w1 ⟨rfl, hb⟩; have h := HB.out.trans (hb.mono HB.out.size); have h2 := tabP_below HT.out hb; clear HB HT; have HB := Aside0.mk h; have HT := Aside0.mk h2; clear hb h h2))
  go_ret
  exact ⟨rfl, HB.out⟩
set_option maxHeartbeats 8000000 in
set_option maxRecDepth 100000 in
theorem lawBack_1p (a b k : Int) (h : Two a b) (ha : ¬ a = 0) (hb : 0 < b) (hk : fleuronalike_Round.f k 7 = some 1) (w : World) (ht : TabP w) :
    Calls Tryd.prog 4 #[.int .i64 a, .int .i64 b, .int .i64 k] w fun e w' => e = .returned (.bool true) ∧ Below w.heap.size w w' := by
  have HT := Aside0.mk ht
  have HB := Aside0.mk (Below.refl w.heap.size w)
  have tok0 : True := trivial
  have tok1 : True := trivial
  have tok2 : True := trivial
  clear ht
  have d0 : decide (a < -2147483648) = false := decide_eq_false (by have := h.a0; have := h.a1; have := h.b0; have := h.b1; omega)
  have d1 : decide (2147483648 ≤ a) = false := decide_eq_false (by have := h.a0; have := h.a1; have := h.b0; have := h.b1; omega)
  have d2 : decide (b ≤ -2147483648) = false := decide_eq_false (by have := h.a0; have := h.a1; have := h.b0; have := h.b1; omega)
  have d3 : decide (2147483648 ≤ b) = false := decide_eq_false (by have := h.a0; have := h.a1; have := h.b0; have := h.b1; omega)
  have HX := Aside0.mk (fun W => Text_c a b (by have := h.a0; omega) (by have := h.a1; omega) (by have := h.b0; omega) (by have := h.b1; omega) W)
  have HXZ := Aside0.mk (show (textB a b).size ≤ 1000000 from Nat.le_trans (textB_size a b (by have := h.a0; omega) (by have := h.a1; omega) (by have := h.b0; omega) (by have := h.b1; omega)) (by decide))
  have WT := Aside0.mk (bkT a b h)
  have HK := Aside0.mk hk
  have HDa := Aside0.mk (fun W => Decimal_c a (by have := h.a0; omega) (by have := h.a1; omega) W)
  have HDb := Aside0.mk (fun W => Decimal_c b (by have := h.b0; have := h.b1; omega) (by have := h.b0; have := h.b1; omega) W)
  have hza := decB_size a (by have := h.a0; omega) (by have := h.a1; omega)
  have hzb := decB_size b (by have := h.b0; have := h.b1; omega) (by have := h.b0; have := h.b1; omega)
  have WS := Aside0.mk (bk1p a b h hb)
  have HSZ := Aside0.mk (show (decB a ++ ⟨#[78, 32]⟩ ++ ⟨#[43]⟩ ++ decB b).size ≤ 1000000 by
    simp only [ByteArray.size_append]
    have e0 : (⟨#[78, 32]⟩ : ByteArray).size = 2 := rfl
    have e1 : (⟨#[43]⟩ : ByteArray).size = 1 := rfl
    omega)
  obtain ⟨s, hs⟩ : ∃ s : ByteArray, decB a ++ ⟨#[78, 32]⟩ ++ ⟨#[43]⟩ ++ decB b = s := ⟨_, rfl⟩
  rw [hs] at WS HSZ
  have z1 : (a == 0) = false := beq_eq_false_iff_ne.2 ha
  have z2 : (b == 0) = false := beq_eq_false_iff_ne.2 (by omega)
  have z3 : decide (b < 0) = false := decide_eq_false (by omega)
  have q0 : -2147483648 < b := h.b0
  have q1 : b ≤ 2147483647 := h.b1
  clear h ha hb hk
  go_enter Tryd.func4, Tryd.ntmps4
  go_wp2_with (first
    | (go_at_call 13; refine (HX.out _ HT.out).mono ?_; rintro e w1 ⟨rfl, hb⟩; have h := HB.out.trans (hb.mono HB.out.size); have h2 := tabP_below HT.out hb; clear HB HT; have HB := Aside0.mk h; have HT := Aside0.mk h2; clear hb h h2)
    | (go_at_call 8; have _t := tok0; refine (nodes_c (textB a b) _ HXZ.out).mono ?_; rintro e w1 ⟨v, rfl, hr, hb⟩; clear tok0; obtain ⟨A, c, rfl, -, -⟩ := Kd.R_reads hr; have HR0 := Aside0.mk hr; clear hr; have h := HB.out.trans (hb.mono HB.out.size); have h2 := tabP_below HT.out hb; clear HB HT; have HB := Aside0.mk h; have HT := Aside0.mk h2; clear hb h h2)
    | (go_at_call 9; refine (prsS_c (textB a b) HXZ.out _ _ _ HR0.out).mono ?_; rw [WT.out]; rintro e w1 ⟨rfl, hb⟩; clear HR0; have h := HB.out.trans (hb.mono HB.out.size); have h2 := tabP_below HT.out hb; clear HB HT; have HB := Aside0.mk h; have HT := Aside0.mk h2; clear hb h h2)
    | (go_at_call 15; have _t := tok1; refine (HDa.out _).mono ?_; rintro e w1 ⟨rfl, hb⟩; clear tok1; have h := HB.out.trans (hb.mono HB.out.size); have h2 := tabP_below HT.out hb; clear HB HT; have HB := Aside0.mk h; have HT := Aside0.mk h2; clear hb h h2)
    | (go_at_call 15; refine (HDb.out _).mono ?_; rintro e w1 ⟨rfl, hb⟩; have h := HB.out.trans (hb.mono HB.out.size); have h2 := tabP_below HT.out hb; clear HB HT; have HB := Aside0.mk h; have HT := Aside0.mk h2; clear hb h h2)
    | (go_at_call 16; refine (fleuronalike_Round.calls k 7 1 _ HK.out).mono ?_; rintro e w1 ⟨rfl, hd⟩; have hb := hd.below; clear hd; have h := HB.out.trans (hb.mono HB.out.size); have h2 := tabP_below HT.out hb; clear HB HT; have HB := Aside0.mk h; have HT := Aside0.mk h2; clear hb h h2)
    | (go_at_call 8; have _t := tok2; refine (nodes_c (s) _ HSZ.out).mono ?_; rintro e w1 ⟨v, rfl, hr, hb⟩; clear tok2; obtain ⟨A, c, rfl, -, -⟩ := Kd.R_reads hr; have HR2 := Aside0.mk hr; clear hr; have h := HB.out.trans (hb.mono HB.out.size); have h2 := tabP_below HT.out hb; clear HB HT; have HB := Aside0.mk h; have HT := Aside0.mk h2; clear hb h h2)
    | (go_at_call 9; refine (prsS_c (s) HSZ.out _ _ _ HR2.out).mono ?_; rw [WS.out]; rintro e w1 ⟨rfl, hb⟩; clear HR2; have h := HB.out.trans (hb.mono HB.out.size); have h2 := tabP_below HT.out hb; clear HB HT; have HB := Aside0.mk h; have HT := Aside0.mk h2; clear hb h h2)
    | (go_at_call 7; refine (awake_c _ HT.out).mono ?_; rintro e w1 ⟨rfl, hb⟩; have h := HB.out.trans (hb.mono HB.out.size); have h2 := tabP_below HT.out hb; clear HB HT; have HB := Aside0.mk h; have HT := Aside0.mk h2; clear hb h h2))
  go_ret
  exact ⟨rfl, HB.out⟩
set_option maxHeartbeats 8000000 in
set_option maxRecDepth 100000 in
theorem lawBack_2p (a b k : Int) (h : Two a b) (ha : ¬ a = 0) (hb : 0 < b) (hk : fleuronalike_Round.f k 7 = some 2) (w : World) (ht : TabP w) :
    Calls Tryd.prog 4 #[.int .i64 a, .int .i64 b, .int .i64 k] w fun e w' => e = .returned (.bool true) ∧ Below w.heap.size w w' := by
  have HT := Aside0.mk ht
  have HB := Aside0.mk (Below.refl w.heap.size w)
  have tok0 : True := trivial
  have tok1 : True := trivial
  have tok2 : True := trivial
  clear ht
  have d0 : decide (a < -2147483648) = false := decide_eq_false (by have := h.a0; have := h.a1; have := h.b0; have := h.b1; omega)
  have d1 : decide (2147483648 ≤ a) = false := decide_eq_false (by have := h.a0; have := h.a1; have := h.b0; have := h.b1; omega)
  have d2 : decide (b ≤ -2147483648) = false := decide_eq_false (by have := h.a0; have := h.a1; have := h.b0; have := h.b1; omega)
  have d3 : decide (2147483648 ≤ b) = false := decide_eq_false (by have := h.a0; have := h.a1; have := h.b0; have := h.b1; omega)
  have HX := Aside0.mk (fun W => Text_c a b (by have := h.a0; omega) (by have := h.a1; omega) (by have := h.b0; omega) (by have := h.b1; omega) W)
  have HXZ := Aside0.mk (show (textB a b).size ≤ 1000000 from Nat.le_trans (textB_size a b (by have := h.a0; omega) (by have := h.a1; omega) (by have := h.b0; omega) (by have := h.b1; omega)) (by decide))
  have WT := Aside0.mk (bkT a b h)
  have HK := Aside0.mk hk
  have HDa := Aside0.mk (fun W => Decimal_c a (by have := h.a0; omega) (by have := h.a1; omega) W)
  have HDb := Aside0.mk (fun W => Decimal_c b (by have := h.b0; have := h.b1; omega) (by have := h.b0; have := h.b1; omega) W)
  have hza := decB_size a (by have := h.a0; omega) (by have := h.a1; omega)
  have hzb := decB_size b (by have := h.b0; have := h.b1; omega) (by have := h.b0; have := h.b1; omega)
  have WS := Aside0.mk (bk2p a b h hb)
  have HSZ := Aside0.mk (show (decB a ++ ⟨#[110]⟩ ++ ⟨#[43]⟩ ++ ⟨#[32]⟩ ++ decB b).size ≤ 1000000 by
    simp only [ByteArray.size_append]
    have e0 : (⟨#[110]⟩ : ByteArray).size = 1 := rfl
    have e1 : (⟨#[43]⟩ : ByteArray).size = 1 := rfl
    have e2 : (⟨#[32]⟩ : ByteArray).size = 1 := rfl
    omega)
  obtain ⟨s, hs⟩ : ∃ s : ByteArray, decB a ++ ⟨#[110]⟩ ++ ⟨#[43]⟩ ++ ⟨#[32]⟩ ++ decB b = s := ⟨_, rfl⟩
  rw [hs] at WS HSZ
  have z1 : (a == 0) = false := beq_eq_false_iff_ne.2 ha
  have z2 : (b == 0) = false := beq_eq_false_iff_ne.2 (by omega)
  have z3 : decide (b < 0) = false := decide_eq_false (by omega)
  have q0 : -2147483648 < b := h.b0
  have q1 : b ≤ 2147483647 := h.b1
  clear h ha hb hk
  go_enter Tryd.func4, Tryd.ntmps4
  go_wp2_with (first
    | (go_at_call 13; refine (HX.out _ HT.out).mono ?_; rintro e w1 ⟨rfl, hb⟩; have h := HB.out.trans (hb.mono HB.out.size); have h2 := tabP_below HT.out hb; clear HB HT; have HB := Aside0.mk h; have HT := Aside0.mk h2; clear hb h h2)
    | (go_at_call 8; have _t := tok0; refine (nodes_c (textB a b) _ HXZ.out).mono ?_; rintro e w1 ⟨v, rfl, hr, hb⟩; clear tok0; obtain ⟨A, c, rfl, -, -⟩ := Kd.R_reads hr; have HR0 := Aside0.mk hr; clear hr; have h := HB.out.trans (hb.mono HB.out.size); have h2 := tabP_below HT.out hb; clear HB HT; have HB := Aside0.mk h; have HT := Aside0.mk h2; clear hb h h2)
    | (go_at_call 9; refine (prsS_c (textB a b) HXZ.out _ _ _ HR0.out).mono ?_; rw [WT.out]; rintro e w1 ⟨rfl, hb⟩; clear HR0; have h := HB.out.trans (hb.mono HB.out.size); have h2 := tabP_below HT.out hb; clear HB HT; have HB := Aside0.mk h; have HT := Aside0.mk h2; clear hb h h2)
    | (go_at_call 15; have _t := tok1; refine (HDa.out _).mono ?_; rintro e w1 ⟨rfl, hb⟩; clear tok1; have h := HB.out.trans (hb.mono HB.out.size); have h2 := tabP_below HT.out hb; clear HB HT; have HB := Aside0.mk h; have HT := Aside0.mk h2; clear hb h h2)
    | (go_at_call 15; refine (HDb.out _).mono ?_; rintro e w1 ⟨rfl, hb⟩; have h := HB.out.trans (hb.mono HB.out.size); have h2 := tabP_below HT.out hb; clear HB HT; have HB := Aside0.mk h; have HT := Aside0.mk h2; clear hb h h2)
    | (go_at_call 16; refine (fleuronalike_Round.calls k 7 2 _ HK.out).mono ?_; rintro e w1 ⟨rfl, hd⟩; have hb := hd.below; clear hd; have h := HB.out.trans (hb.mono HB.out.size); have h2 := tabP_below HT.out hb; clear HB HT; have HB := Aside0.mk h; have HT := Aside0.mk h2; clear hb h h2)
    | (go_at_call 8; have _t := tok2; refine (nodes_c (s) _ HSZ.out).mono ?_; rintro e w1 ⟨v, rfl, hr, hb⟩; clear tok2; obtain ⟨A, c, rfl, -, -⟩ := Kd.R_reads hr; have HR2 := Aside0.mk hr; clear hr; have h := HB.out.trans (hb.mono HB.out.size); have h2 := tabP_below HT.out hb; clear HB HT; have HB := Aside0.mk h; have HT := Aside0.mk h2; clear hb h h2)
    | (go_at_call 9; refine (prsS_c (s) HSZ.out _ _ _ HR2.out).mono ?_; rw [WS.out]; rintro e w1 ⟨rfl, hb⟩; clear HR2; have h := HB.out.trans (hb.mono HB.out.size); have h2 := tabP_below HT.out hb; clear HB HT; have HB := Aside0.mk h; have HT := Aside0.mk h2; clear hb h h2)
    | (go_at_call 7; refine (awake_c _ HT.out).mono ?_; rintro e w1 ⟨rfl, hb⟩; have h := HB.out.trans (hb.mono HB.out.size); have h2 := tabP_below HT.out hb; clear HB HT; have HB := Aside0.mk h; have HT := Aside0.mk h2; clear hb h h2))
  go_ret
  exact ⟨rfl, HB.out⟩
set_option maxHeartbeats 8000000 in
set_option maxRecDepth 100000 in
theorem lawBack_3p (a b k : Int) (h : Two a b) (ha : ¬ a = 0) (hb : 0 < b) (hk : fleuronalike_Round.f k 7 = some 3) (w : World) (ht : TabP w) :
    Calls Tryd.prog 4 #[.int .i64 a, .int .i64 b, .int .i64 k] w fun e w' => e = .returned (.bool true) ∧ Below w.heap.size w w' := by
  have HT := Aside0.mk ht
  have HB := Aside0.mk (Below.refl w.heap.size w)
  have tok0 : True := trivial
  have tok1 : True := trivial
  have tok2 : True := trivial
  clear ht
  have d0 : decide (a < -2147483648) = false := decide_eq_false (by have := h.a0; have := h.a1; have := h.b0; have := h.b1; omega)
  have d1 : decide (2147483648 ≤ a) = false := decide_eq_false (by have := h.a0; have := h.a1; have := h.b0; have := h.b1; omega)
  have d2 : decide (b ≤ -2147483648) = false := decide_eq_false (by have := h.a0; have := h.a1; have := h.b0; have := h.b1; omega)
  have d3 : decide (2147483648 ≤ b) = false := decide_eq_false (by have := h.a0; have := h.a1; have := h.b0; have := h.b1; omega)
  have HX := Aside0.mk (fun W => Text_c a b (by have := h.a0; omega) (by have := h.a1; omega) (by have := h.b0; omega) (by have := h.b1; omega) W)
  have HXZ := Aside0.mk (show (textB a b).size ≤ 1000000 from Nat.le_trans (textB_size a b (by have := h.a0; omega) (by have := h.a1; omega) (by have := h.b0; omega) (by have := h.b1; omega)) (by decide))
  have WT := Aside0.mk (bkT a b h)
  have HK := Aside0.mk hk
  have HDa := Aside0.mk (fun W => Decimal_c a (by have := h.a0; omega) (by have := h.a1; omega) W)
  have HDb := Aside0.mk (fun W => Decimal_c b (by have := h.b0; have := h.b1; omega) (by have := h.b0; have := h.b1; omega) W)
  have hza := decB_size a (by have := h.a0; omega) (by have := h.a1; omega)
  have hzb := decB_size b (by have := h.b0; have := h.b1; omega) (by have := h.b0; have := h.b1; omega)
  have WS := Aside0.mk (bk3p a b h hb)
  have HSZ := Aside0.mk (show (decB a ++ ⟨#[32, 110]⟩ ++ ⟨#[43]⟩ ++ decB b).size ≤ 1000000 by
    simp only [ByteArray.size_append]
    have e0 : (⟨#[32, 110]⟩ : ByteArray).size = 2 := rfl
    have e1 : (⟨#[43]⟩ : ByteArray).size = 1 := rfl
    omega)
  obtain ⟨s, hs⟩ : ∃ s : ByteArray, decB a ++ ⟨#[32, 110]⟩ ++ ⟨#[43]⟩ ++ decB b = s := ⟨_, rfl⟩
  rw [hs] at WS HSZ
  have z1 : (a == 0) = false := beq_eq_false_iff_ne.2 ha
  have z2 : (b == 0) = false := beq_eq_false_iff_ne.2 (by omega)
  have z3 : decide (b < 0) = false := decide_eq_false (by omega)
  have q0 : -2147483648 < b := h.b0
  have q1 : b ≤ 2147483647 := h.b1
  clear h ha hb hk
  go_enter Tryd.func4, Tryd.ntmps4
  go_wp2_with (first
    | (go_at_call 13; refine (HX.out _ HT.out).mono ?_; rintro e w1 ⟨rfl, hb⟩; have h := HB.out.trans (hb.mono HB.out.size); have h2 := tabP_below HT.out hb; clear HB HT; have HB := Aside0.mk h; have HT := Aside0.mk h2; clear hb h h2)
    | (go_at_call 8; have _t := tok0; refine (nodes_c (textB a b) _ HXZ.out).mono ?_; rintro e w1 ⟨v, rfl, hr, hb⟩; clear tok0; obtain ⟨A, c, rfl, -, -⟩ := Kd.R_reads hr; have HR0 := Aside0.mk hr; clear hr; have h := HB.out.trans (hb.mono HB.out.size); have h2 := tabP_below HT.out hb; clear HB HT; have HB := Aside0.mk h; have HT := Aside0.mk h2; clear hb h h2)
    | (go_at_call 9; refine (prsS_c (textB a b) HXZ.out _ _ _ HR0.out).mono ?_; rw [WT.out]; rintro e w1 ⟨rfl, hb⟩; clear HR0; have h := HB.out.trans (hb.mono HB.out.size); have h2 := tabP_below HT.out hb; clear HB HT; have HB := Aside0.mk h; have HT := Aside0.mk h2; clear hb h h2)
    | (go_at_call 15; have _t := tok1; refine (HDa.out _).mono ?_; rintro e w1 ⟨rfl, hb⟩; clear tok1; have h := HB.out.trans (hb.mono HB.out.size); have h2 := tabP_below HT.out hb; clear HB HT; have HB := Aside0.mk h; have HT := Aside0.mk h2; clear hb h h2)
    | (go_at_call 15; refine (HDb.out _).mono ?_; rintro e w1 ⟨rfl, hb⟩; have h := HB.out.trans (hb.mono HB.out.size); have h2 := tabP_below HT.out hb; clear HB HT; have HB := Aside0.mk h; have HT := Aside0.mk h2; clear hb h h2)
    | (go_at_call 16; refine (fleuronalike_Round.calls k 7 3 _ HK.out).mono ?_; rintro e w1 ⟨rfl, hd⟩; have hb := hd.below; clear hd; have h := HB.out.trans (hb.mono HB.out.size); have h2 := tabP_below HT.out hb; clear HB HT; have HB := Aside0.mk h; have HT := Aside0.mk h2; clear hb h h2)
    | (go_at_call 8; have _t := tok2; refine (nodes_c (s) _ HSZ.out).mono ?_; rintro e w1 ⟨v, rfl, hr, hb⟩; clear tok2; obtain ⟨A, c, rfl, -, -⟩ := Kd.R_reads hr; have HR2 := Aside0.mk hr; clear hr; have h := HB.out.trans (hb.mono HB.out.size); have h2 := tabP_below HT.out hb; clear HB HT; have HB := Aside0.mk h; have HT := Aside0.mk h2; clear hb h h2)
    | (go_at_call 9; refine (prsS_c (s) HSZ.out _ _ _ HR2.out).mono ?_; rw [WS.out]; rintro e w1 ⟨rfl, hb⟩; clear HR2; have h := HB.out.trans (hb.mono HB.out.size); have h2 := tabP_below HT.out hb; clear HB HT; have HB := Aside0.mk h; have HT := Aside0.mk h2; clear hb h h2)
    | (go_at_call 7; refine (awake_c _ HT.out).mono ?_; rintro e w1 ⟨rfl, hb⟩; have h := HB.out.trans (hb.mono HB.out.size); have h2 := tabP_below HT.out hb; clear HB HT; have HB := Aside0.mk h; have HT := Aside0.mk h2; clear hb h h2))
  go_ret
  exact ⟨rfl, HB.out⟩
set_option maxHeartbeats 8000000 in
set_option maxRecDepth 100000 in
theorem lawBack_4p (a b k : Int) (h : Two a b) (ha : ¬ a = 0) (hb : 0 < b) (hk : fleuronalike_Round.f k 7 = some 4) (w : World) (ht : TabP w) :
    Calls Tryd.prog 4 #[.int .i64 a, .int .i64 b, .int .i64 k] w fun e w' => e = .returned (.bool true) ∧ Below w.heap.size w w' := by
  have HT := Aside0.mk ht
  have HB := Aside0.mk (Below.refl w.heap.size w)
  have tok0 : True := trivial
  have tok1 : True := trivial
  have tok2 : True := trivial
  clear ht
  have d0 : decide (a < -2147483648) = false := decide_eq_false (by have := h.a0; have := h.a1; have := h.b0; have := h.b1; omega)
  have d1 : decide (2147483648 ≤ a) = false := decide_eq_false (by have := h.a0; have := h.a1; have := h.b0; have := h.b1; omega)
  have d2 : decide (b ≤ -2147483648) = false := decide_eq_false (by have := h.a0; have := h.a1; have := h.b0; have := h.b1; omega)
  have d3 : decide (2147483648 ≤ b) = false := decide_eq_false (by have := h.a0; have := h.a1; have := h.b0; have := h.b1; omega)
  have HX := Aside0.mk (fun W => Text_c a b (by have := h.a0; omega) (by have := h.a1; omega) (by have := h.b0; omega) (by have := h.b1; omega) W)
  have HXZ := Aside0.mk (show (textB a b).size ≤ 1000000 from Nat.le_trans (textB_size a b (by have := h.a0; omega) (by have := h.a1; omega) (by have := h.b0; omega) (by have := h.b1; omega)) (by decide))
  have WT := Aside0.mk (bkT a b h)
  have HK := Aside0.mk hk
  have HDa := Aside0.mk (fun W => Decimal_c a (by have := h.a0; omega) (by have := h.a1; omega) W)
  have HDb := Aside0.mk (fun W => Decimal_c b (by have := h.b0; have := h.b1; omega) (by have := h.b0; have := h.b1; omega) W)
  have hza := decB_size a (by have := h.a0; omega) (by have := h.a1; omega)
  have hzb := decB_size b (by have := h.b0; have := h.b1; omega) (by have := h.b0; have := h.b1; omega)
  have WS := Aside0.mk (bk4p a b h hb)
  have HSZ := Aside0.mk (show (decB a ++ ⟨#[110, 32]⟩ ++ decB b).size ≤ 1000000 by
    simp only [ByteArray.size_append]
    have e0 : (⟨#[110, 32]⟩ : ByteArray).size = 2 := rfl
    omega)
  obtain ⟨s, hs⟩ : ∃ s : ByteArray, decB a ++ ⟨#[110, 32]⟩ ++ decB b = s := ⟨_, rfl⟩
  rw [hs] at WS HSZ
  have z1 : (a == 0) = false := beq_eq_false_iff_ne.2 ha
  have z2 : (b == 0) = false := beq_eq_false_iff_ne.2 (by omega)
  have z3 : decide (b < 0) = false := decide_eq_false (by omega)
  have q0 : -2147483648 < b := h.b0
  have q1 : b ≤ 2147483647 := h.b1
  clear h ha hb hk
  go_enter Tryd.func4, Tryd.ntmps4
  go_wp2_with (first
    | (go_at_call 13; refine (HX.out _ HT.out).mono ?_; rintro e w1 ⟨rfl, hb⟩; have h := HB.out.trans (hb.mono HB.out.size); have h2 := tabP_below HT.out hb; clear HB HT; have HB := Aside0.mk h; have HT := Aside0.mk h2; clear hb h h2)
    | (go_at_call 8; have _t := tok0; refine (nodes_c (textB a b) _ HXZ.out).mono ?_; rintro e w1 ⟨v, rfl, hr, hb⟩; clear tok0; obtain ⟨A, c, rfl, -, -⟩ := Kd.R_reads hr; have HR0 := Aside0.mk hr; clear hr; have h := HB.out.trans (hb.mono HB.out.size); have h2 := tabP_below HT.out hb; clear HB HT; have HB := Aside0.mk h; have HT := Aside0.mk h2; clear hb h h2)
    | (go_at_call 9; refine (prsS_c (textB a b) HXZ.out _ _ _ HR0.out).mono ?_; rw [WT.out]; rintro e w1 ⟨rfl, hb⟩; clear HR0; have h := HB.out.trans (hb.mono HB.out.size); have h2 := tabP_below HT.out hb; clear HB HT; have HB := Aside0.mk h; have HT := Aside0.mk h2; clear hb h h2)
    | (go_at_call 15; have _t := tok1; refine (HDa.out _).mono ?_; rintro e w1 ⟨rfl, hb⟩; clear tok1; have h := HB.out.trans (hb.mono HB.out.size); have h2 := tabP_below HT.out hb; clear HB HT; have HB := Aside0.mk h; have HT := Aside0.mk h2; clear hb h h2)
    | (go_at_call 15; refine (HDb.out _).mono ?_; rintro e w1 ⟨rfl, hb⟩; have h := HB.out.trans (hb.mono HB.out.size); have h2 := tabP_below HT.out hb; clear HB HT; have HB := Aside0.mk h; have HT := Aside0.mk h2; clear hb h h2)
    | (go_at_call 16; refine (fleuronalike_Round.calls k 7 4 _ HK.out).mono ?_; rintro e w1 ⟨rfl, hd⟩; have hb := hd.below; clear hd; have h := HB.out.trans (hb.mono HB.out.size); have h2 := tabP_below HT.out hb; clear HB HT; have HB := Aside0.mk h; have HT := Aside0.mk h2; clear hb h h2)
    | (go_at_call 8; have _t := tok2; refine (nodes_c (s) _ HSZ.out).mono ?_; rintro e w1 ⟨v, rfl, hr, hb⟩; clear tok2; obtain ⟨A, c, rfl, -, -⟩ := Kd.R_reads hr; have HR2 := Aside0.mk hr; clear hr; have h := HB.out.trans (hb.mono HB.out.size); have h2 := tabP_below HT.out hb; clear HB HT; have HB := Aside0.mk h; have HT := Aside0.mk h2; clear hb h h2)
    | (go_at_call 9; refine (prsS_c (s) HSZ.out _ _ _ HR2.out).mono ?_; rw [WS.out]; rintro e w1 ⟨rfl, hb⟩; clear HR2; have h := HB.out.trans (hb.mono HB.out.size); have h2 := tabP_below HT.out hb; clear HB HT; have HB := Aside0.mk h; have HT := Aside0.mk h2; clear hb h h2)
    | (go_at_call 7; refine (awake_c _ HT.out).mono ?_; rintro e w1 ⟨rfl, hb⟩; have h := HB.out.trans (hb.mono HB.out.size); have h2 := tabP_below HT.out hb; clear HB HT; have HB := Aside0.mk h; have HT := Aside0.mk h2; clear hb h h2))
  go_ret
  exact ⟨rfl, HB.out⟩
set_option maxHeartbeats 8000000 in
set_option maxRecDepth 100000 in
theorem lawBack_5p (a b k : Int) (h : Two a b) (ha : ¬ a = 0) (hb : 0 < b) (hk : fleuronalike_Round.f k 7 = some 5) (w : World) (ht : TabP w) :
    Calls Tryd.prog 4 #[.int .i64 a, .int .i64 b, .int .i64 k] w fun e w' => e = .returned (.bool true) ∧ Below w.heap.size w w' := by
  have HT := Aside0.mk ht
  have HB := Aside0.mk (Below.refl w.heap.size w)
  have tok0 : True := trivial
  have tok1 : True := trivial
  have tok2 : True := trivial
  clear ht
  have d0 : decide (a < -2147483648) = false := decide_eq_false (by have := h.a0; have := h.a1; have := h.b0; have := h.b1; omega)
  have d1 : decide (2147483648 ≤ a) = false := decide_eq_false (by have := h.a0; have := h.a1; have := h.b0; have := h.b1; omega)
  have d2 : decide (b ≤ -2147483648) = false := decide_eq_false (by have := h.a0; have := h.a1; have := h.b0; have := h.b1; omega)
  have d3 : decide (2147483648 ≤ b) = false := decide_eq_false (by have := h.a0; have := h.a1; have := h.b0; have := h.b1; omega)
  have HX := Aside0.mk (fun W => Text_c a b (by have := h.a0; omega) (by have := h.a1; omega) (by have := h.b0; omega) (by have := h.b1; omega) W)
  have HXZ := Aside0.mk (show (textB a b).size ≤ 1000000 from Nat.le_trans (textB_size a b (by have := h.a0; omega) (by have := h.a1; omega) (by have := h.b0; omega) (by have := h.b1; omega)) (by decide))
  have WT := Aside0.mk (bkT a b h)
  have HK := Aside0.mk hk
  have HDa := Aside0.mk (fun W => Decimal_c a (by have := h.a0; omega) (by have := h.a1; omega) W)
  have HDb := Aside0.mk (fun W => Decimal_c b (by have := h.b0; have := h.b1; omega) (by have := h.b0; have := h.b1; omega) W)
  have hza := decB_size a (by have := h.a0; omega) (by have := h.a1; omega)
  have hzb := decB_size b (by have := h.b0; have := h.b1; omega) (by have := h.b0; have := h.b1; omega)
  have WS := Aside0.mk (bk5p a b h hb)
  have HSZ := Aside0.mk (show (decB a ++ ⟨#[110, 32]⟩ ++ ⟨#[43]⟩ ++ ⟨#[32]⟩ ++ ⟨#[43]⟩ ++ decB b).size ≤ 1000000 by
    simp only [ByteArray.size_append]
    have e0 : (⟨#[110, 32]⟩ : ByteArray).size = 2 := rfl
    have e1 : (⟨#[43]⟩ : ByteArray).size = 1 := rfl
    have e2 : (⟨#[32]⟩ : ByteArray).size = 1 := rfl
    have e3 : (⟨#[43]⟩ : ByteArray).size = 1 := rfl
    omega)
  obtain ⟨s, hs⟩ : ∃ s : ByteArray, decB a ++ ⟨#[110, 32]⟩ ++ ⟨#[43]⟩ ++ ⟨#[32]⟩ ++ ⟨#[43]⟩ ++ decB b = s := ⟨_, rfl⟩
  rw [hs] at WS HSZ
  have z1 : (a == 0) = false := beq_eq_false_iff_ne.2 ha
  have z2 : (b == 0) = false := beq_eq_false_iff_ne.2 (by omega)
  have z3 : decide (b < 0) = false := decide_eq_false (by omega)
  have q0 : -2147483648 < b := h.b0
  have q1 : b ≤ 2147483647 := h.b1
  clear h ha hb hk
  go_enter Tryd.func4, Tryd.ntmps4
  go_wp2_with (first
    | (go_at_call 13; refine (HX.out _ HT.out).mono ?_; rintro e w1 ⟨rfl, hb⟩; have h := HB.out.trans (hb.mono HB.out.size); have h2 := tabP_below HT.out hb; clear HB HT; have HB := Aside0.mk h; have HT := Aside0.mk h2; clear hb h h2)
    | (go_at_call 8; have _t := tok0; refine (nodes_c (textB a b) _ HXZ.out).mono ?_; rintro e w1 ⟨v, rfl, hr, hb⟩; clear tok0; obtain ⟨A, c, rfl, -, -⟩ := Kd.R_reads hr; have HR0 := Aside0.mk hr; clear hr; have h := HB.out.trans (hb.mono HB.out.size); have h2 := tabP_below HT.out hb; clear HB HT; have HB := Aside0.mk h; have HT := Aside0.mk h2; clear hb h h2)
    | (go_at_call 9; refine (prsS_c (textB a b) HXZ.out _ _ _ HR0.out).mono ?_; rw [WT.out]; rintro e w1 ⟨rfl, hb⟩; clear HR0; have h := HB.out.trans (hb.mono HB.out.size); have h2 := tabP_below HT.out hb; clear HB HT; have HB := Aside0.mk h; have HT := Aside0.mk h2; clear hb h h2)
    | (go_at_call 15; have _t := tok1; refine (HDa.out _).mono ?_; rintro e w1 ⟨rfl, hb⟩; clear tok1; have h := HB.out.trans (hb.mono HB.out.size); have h2 := tabP_below HT.out hb; clear HB HT; have HB := Aside0.mk h; have HT := Aside0.mk h2; clear hb h h2)
    | (go_at_call 15; refine (HDb.out _).mono ?_; rintro e w1 ⟨rfl, hb⟩; have h := HB.out.trans (hb.mono HB.out.size); have h2 := tabP_below HT.out hb; clear HB HT; have HB := Aside0.mk h; have HT := Aside0.mk h2; clear hb h h2)
    | (go_at_call 16; refine (fleuronalike_Round.calls k 7 5 _ HK.out).mono ?_; rintro e w1 ⟨rfl, hd⟩; have hb := hd.below; clear hd; have h := HB.out.trans (hb.mono HB.out.size); have h2 := tabP_below HT.out hb; clear HB HT; have HB := Aside0.mk h; have HT := Aside0.mk h2; clear hb h h2)
    | (go_at_call 8; have _t := tok2; refine (nodes_c (s) _ HSZ.out).mono ?_; rintro e w1 ⟨v, rfl, hr, hb⟩; clear tok2; obtain ⟨A, c, rfl, -, -⟩ := Kd.R_reads hr; have HR2 := Aside0.mk hr; clear hr; have h := HB.out.trans (hb.mono HB.out.size); have h2 := tabP_below HT.out hb; clear HB HT; have HB := Aside0.mk h; have HT := Aside0.mk h2; clear hb h h2)
    | (go_at_call 9; refine (prsS_c (s) HSZ.out _ _ _ HR2.out).mono ?_; rw [WS.out]; rintro e w1 ⟨rfl, hb⟩; clear HR2; have h := HB.out.trans (hb.mono HB.out.size); have h2 := tabP_below HT.out hb; clear HB HT; have HB := Aside0.mk h; have HT := Aside0.mk h2; clear hb h h2)
    | (go_at_call 7; refine (awake_c _ HT.out).mono ?_; rintro e w1 ⟨rfl, hb⟩; have h := HB.out.trans (hb.mono HB.out.size); have h2 := tabP_below HT.out hb; clear HB HT; have HB := Aside0.mk h; have HT := Aside0.mk h2; clear hb h h2))
  go_ret
  exact ⟨rfl, HB.out⟩
set_option maxHeartbeats 8000000 in
set_option maxRecDepth 100000 in
theorem lawBack_6p (a b k : Int) (h : Two a b) (ha : ¬ a = 0) (hb : 0 < b) (hk : fleuronalike_Round.f k 7 = some 6) (w : World) (ht : TabP w) :
    Calls Tryd.prog 4 #[.int .i64 a, .int .i64 b, .int .i64 k] w fun e w' => e = .returned (.bool true) ∧ Below w.heap.size w w' := by
  have HT := Aside0.mk ht
  have HB := Aside0.mk (Below.refl w.heap.size w)
  have tok0 : True := trivial
  have tok1 : True := trivial
  have tok2 : True := trivial
  clear ht
  have d0 : decide (a < -2147483648) = false := decide_eq_false (by have := h.a0; have := h.a1; have := h.b0; have := h.b1; omega)
  have d1 : decide (2147483648 ≤ a) = false := decide_eq_false (by have := h.a0; have := h.a1; have := h.b0; have := h.b1; omega)
  have d2 : decide (b ≤ -2147483648) = false := decide_eq_false (by have := h.a0; have := h.a1; have := h.b0; have := h.b1; omega)
  have d3 : decide (2147483648 ≤ b) = false := decide_eq_false (by have := h.a0; have := h.a1; have := h.b0; have := h.b1; omega)
  have HX := Aside0.mk (fun W => Text_c a b (by have := h.a0; omega) (by have := h.a1; omega) (by have := h.b0; omega) (by have := h.b1; omega) W)
  have HXZ := Aside0.mk (show (textB a b).size ≤ 1000000 from Nat.le_trans (textB_size a b (by have := h.a0; omega) (by have := h.a1; omega) (by have := h.b0; omega) (by have := h.b1; omega)) (by decide))
  have WT := Aside0.mk (bkT a b h)
  have HK := Aside0.mk hk
  have HDa := Aside0.mk (fun W => Decimal_c a (by have := h.a0; omega) (by have := h.a1; omega) W)
  have HDb := Aside0.mk (fun W => Decimal_c b (by have := h.b0; have := h.b1; omega) (by have := h.b0; have := h.b1; omega) W)
  have hza := decB_size a (by have := h.a0; omega) (by have := h.a1; omega)
  have hzb := decB_size b (by have := h.b0; have := h.b1; omega) (by have := h.b0; have := h.b1; omega)
  have WS := Aside0.mk (bk6p a b h hb)
  have HSZ := Aside0.mk (show (decB a ++ ⟨#[110]⟩ ++ ⟨#[43]⟩ ++ decB b ++ ⟨#[32, 49]⟩).size ≤ 1000000 by
    simp only [ByteArray.size_append]
    have e0 : (⟨#[110]⟩ : ByteArray).size = 1 := rfl
    have e1 : (⟨#[43]⟩ : ByteArray).size = 1 := rfl
    have e2 : (⟨#[32, 49]⟩ : ByteArray).size = 2 := rfl
    omega)
  obtain ⟨s, hs⟩ : ∃ s : ByteArray, decB a ++ ⟨#[110]⟩ ++ ⟨#[43]⟩ ++ decB b ++ ⟨#[32, 49]⟩ = s := ⟨_, rfl⟩
  rw [hs] at WS HSZ
  have z1 : (a == 0) = false := beq_eq_false_iff_ne.2 ha
  have z2 : (b == 0) = false := beq_eq_false_iff_ne.2 (by omega)
  have z3 : decide (b < 0) = false := decide_eq_false (by omega)
  have q0 : -2147483648 < b := h.b0
  have q1 : b ≤ 2147483647 := h.b1
  clear h ha hb hk
  go_enter Tryd.func4, Tryd.ntmps4
  go_wp2_with (first
    | (go_at_call 13; refine (HX.out _ HT.out).mono ?_; rintro e w1 ⟨rfl, hb⟩; have h := HB.out.trans (hb.mono HB.out.size); have h2 := tabP_below HT.out hb; clear HB HT; have HB := Aside0.mk h; have HT := Aside0.mk h2; clear hb h h2)
    | (go_at_call 8; have _t := tok0; refine (nodes_c (textB a b) _ HXZ.out).mono ?_; rintro e w1 ⟨v, rfl, hr, hb⟩; clear tok0; obtain ⟨A, c, rfl, -, -⟩ := Kd.R_reads hr; have HR0 := Aside0.mk hr; clear hr; have h := HB.out.trans (hb.mono HB.out.size); have h2 := tabP_below HT.out hb; clear HB HT; have HB := Aside0.mk h; have HT := Aside0.mk h2; clear hb h h2)
    | (go_at_call 9; refine (prsS_c (textB a b) HXZ.out _ _ _ HR0.out).mono ?_; rw [WT.out]; rintro e w1 ⟨rfl, hb⟩; clear HR0; have h := HB.out.trans (hb.mono HB.out.size); have h2 := tabP_below HT.out hb; clear HB HT; have HB := Aside0.mk h; have HT := Aside0.mk h2; clear hb h h2)
    | (go_at_call 15; have _t := tok1; refine (HDa.out _).mono ?_; rintro e w1 ⟨rfl, hb⟩; clear tok1; have h := HB.out.trans (hb.mono HB.out.size); have h2 := tabP_below HT.out hb; clear HB HT; have HB := Aside0.mk h; have HT := Aside0.mk h2; clear hb h h2)
    | (go_at_call 15; refine (HDb.out _).mono ?_; rintro e w1 ⟨rfl, hb⟩; have h := HB.out.trans (hb.mono HB.out.size); have h2 := tabP_below HT.out hb; clear HB HT; have HB := Aside0.mk h; have HT := Aside0.mk h2; clear hb h h2)
    | (go_at_call 16; refine (fleuronalike_Round.calls k 7 6 _ HK.out).mono ?_; rintro e w1 ⟨rfl, hd⟩; have hb := hd.below; clear hd; have h := HB.out.trans (hb.mono HB.out.size); have h2 := tabP_below HT.out hb; clear HB HT; have HB := Aside0.mk h; have HT := Aside0.mk h2; clear hb h h2)
    | (go_at_call 8; have _t := tok2; refine (nodes_c (s) _ HSZ.out).mono ?_; rintro e w1 ⟨v, rfl, hr, hb⟩; clear tok2; obtain ⟨A, c, rfl, -, -⟩ := Kd.R_reads hr; have HR2 := Aside0.mk hr; clear hr; have h := HB.out.trans (hb.mono HB.out.size); have h2 := tabP_below HT.out hb; clear HB HT; have HB := Aside0.mk h; have HT := Aside0.mk h2; clear hb h h2)
    | (go_at_call 9; refine (prsS_c (s) HSZ.out _ _ _ HR2.out).mono ?_; rw [WS.out]; rintro e w1 ⟨rfl, hb⟩; clear HR2; have h := HB.out.trans (hb.mono HB.out.size); have h2 := tabP_below HT.out hb; clear HB HT; have HB := Aside0.mk h; have HT := Aside0.mk h2; clear hb h h2)
    | (go_at_call 7; refine (awake_c _ HT.out).mono ?_; rintro e w1 ⟨rfl, hb⟩; have h := HB.out.trans (hb.mono HB.out.size); have h2 := tabP_below HT.out hb; clear HB HT; have HB := Aside0.mk h; have HT := Aside0.mk h2; clear hb h h2))
  go_ret
  exact ⟨rfl, HB.out⟩
set_option maxHeartbeats 8000000 in
set_option maxRecDepth 100000 in
theorem lawBack_0m (a b k : Int) (h : Two a b) (ha : ¬ a = 0) (hb : b < 0) (hk : fleuronalike_Round.f k 7 = some 0) (w : World) (ht : TabP w) :
    Calls Tryd.prog 4 #[.int .i64 a, .int .i64 b, .int .i64 k] w fun e w' => e = .returned (.bool true) ∧ Below w.heap.size w w' := by
  have HT := Aside0.mk ht
  have HB := Aside0.mk (Below.refl w.heap.size w)
  have tok0 : True := trivial
  have tok1 : True := trivial
  have tok2 : True := trivial
  clear ht
  have d0 : decide (a < -2147483648) = false := decide_eq_false (by have := h.a0; have := h.a1; have := h.b0; have := h.b1; omega)
  have d1 : decide (2147483648 ≤ a) = false := decide_eq_false (by have := h.a0; have := h.a1; have := h.b0; have := h.b1; omega)
  have d2 : decide (b ≤ -2147483648) = false := decide_eq_false (by have := h.a0; have := h.a1; have := h.b0; have := h.b1; omega)
  have d3 : decide (2147483648 ≤ b) = false := decide_eq_false (by have := h.a0; have := h.a1; have := h.b0; have := h.b1; omega)
  have HX := Aside0.mk (fun W => Text_c a b (by have := h.a0; omega) (by have := h.a1; omega) (by have := h.b0; omega) (by have := h.b1; omega) W)
  have HXZ := Aside0.mk (show (textB a b).size ≤ 1000000 from Nat.le_trans (textB_size a b (by have := h.a0; omega) (by have := h.a1; omega) (by have := h.b0; omega) (by have := h.b1; omega)) (by decide))
  have WT := Aside0.mk (bkT a b h)
  have HK := Aside0.mk hk
  have HDa := Aside0.mk (fun W => Decimal_c a (by have := h.a0; omega) (by have := h.a1; omega) W)
  have HDb := Aside0.mk (fun W => Decimal_c (-b) (by have := h.b0; have := h.b1; omega) (by have := h.b0; have := h.b1; omega) W)
  have hza := decB_size a (by have := h.a0; omega) (by have := h.a1; omega)
  have hzb := decB_size (-b) (by have := h.b0; have := h.b1; omega) (by have := h.b0; have := h.b1; omega)
  have WS := Aside0.mk (bk0m a b h hb)
  have HSZ := Aside0.mk (show (decB a ++ ⟨#[110, 32]⟩ ++ ⟨#[45]⟩ ++ ⟨#[32]⟩ ++ decB (-b)).size ≤ 1000000 by
    simp only [ByteArray.size_append]
    have e0 : (⟨#[110, 32]⟩ : ByteArray).size = 2 := rfl
    have e1 : (⟨#[45]⟩ : ByteArray).size = 1 := rfl
    have e2 : (⟨#[32]⟩ : ByteArray).size = 1 := rfl
    omega)
  obtain ⟨s, hs⟩ : ∃ s : ByteArray, decB a ++ ⟨#[110, 32]⟩ ++ ⟨#[45]⟩ ++ ⟨#[32]⟩ ++ decB (-b) = s := ⟨_, rfl⟩
  rw [hs] at WS HSZ
  have z1 : (a == 0) = false := beq_eq_false_iff_ne.2 ha
  have z2 : (b == 0) = false := beq_eq_false_iff_ne.2 (by omega)
  have z3 : decide (b < 0) = true := decide_eq_true (by omega)
  have q0 : -2147483648 < b := h.b0
  have q1 : b ≤ 2147483647 := h.b1
  clear h ha hb hk
  go_enter Tryd.func4, Tryd.ntmps4
  go_wp2_with (first
    | (go_at_call 13; refine (HX.out _ HT.out).mono ?_; rintro e w1 ⟨rfl, hb⟩; have h := HB.out.trans (hb.mono HB.out.size); have h2 := tabP_below HT.out hb; clear HB HT; have HB := Aside0.mk h; have HT := Aside0.mk h2; clear hb h h2)
    | (go_at_call 8; have _t := tok0; refine (nodes_c (textB a b) _ HXZ.out).mono ?_; rintro e w1 ⟨v, rfl, hr, hb⟩; clear tok0; obtain ⟨A, c, rfl, -, -⟩ := Kd.R_reads hr; have HR0 := Aside0.mk hr; clear hr; have h := HB.out.trans (hb.mono HB.out.size); have h2 := tabP_below HT.out hb; clear HB HT; have HB := Aside0.mk h; have HT := Aside0.mk h2; clear hb h h2)
    | (go_at_call 9; refine (prsS_c (textB a b) HXZ.out _ _ _ HR0.out).mono ?_; rw [WT.out]; rintro e w1 ⟨rfl, hb⟩; clear HR0; have h := HB.out.trans (hb.mono HB.out.size); have h2 := tabP_below HT.out hb; clear HB HT; have HB := Aside0.mk h; have HT := Aside0.mk h2; clear hb h h2)
    | (go_at_call 15; have _t := tok1; refine (HDa.out _).mono ?_; rintro e w1 ⟨rfl, hb⟩; clear tok1; have h := HB.out.trans (hb.mono HB.out.size); have h2 := tabP_below HT.out hb; clear HB HT; have HB := Aside0.mk h; have HT := Aside0.mk h2; clear hb h h2)
    | (go_at_call 15; refine (HDb.out _).mono ?_; rintro e w1 ⟨rfl, hb⟩; have h := HB.out.trans (hb.mono HB.out.size); have h2 := tabP_below HT.out hb; clear HB HT; have HB := Aside0.mk h; have HT := Aside0.mk h2; clear hb h h2)
    | (go_at_call 16; refine (fleuronalike_Round.calls k 7 0 _ HK.out).mono ?_; rintro e w1 ⟨rfl, hd⟩; have hb := hd.below; clear hd; have h := HB.out.trans (hb.mono HB.out.size); have h2 := tabP_below HT.out hb; clear HB HT; have HB := Aside0.mk h; have HT := Aside0.mk h2; clear hb h h2)
    | (go_at_call 8; have _t := tok2; refine (nodes_c (s) _ HSZ.out).mono ?_; rintro e w1 ⟨v, rfl, hr, hb⟩; clear tok2; obtain ⟨A, c, rfl, -, -⟩ := Kd.R_reads hr; have HR2 := Aside0.mk hr; clear hr; have h := HB.out.trans (hb.mono HB.out.size); have h2 := tabP_below HT.out hb; clear HB HT; have HB := Aside0.mk h; have HT := Aside0.mk h2; clear hb h h2)
    | (go_at_call 9; refine (prsS_c (s) HSZ.out _ _ _ HR2.out).mono ?_; rw [WS.out]; rintro e w1 ⟨rfl, hb⟩; clear HR2; have h := HB.out.trans (hb.mono HB.out.size); have h2 := tabP_below HT.out hb; clear HB HT; have HB := Aside0.mk h; have HT := Aside0.mk h2; clear hb h h2)
    | (go_at_call 7; refine (awake_c _ HT.out).mono ?_; rintro e w1 ⟨rfl, hb⟩; have h := HB.out.trans (hb.mono HB.out.size); have h2 := tabP_below HT.out hb; clear HB HT; have HB := Aside0.mk h; have HT := Aside0.mk h2; clear hb h h2))
  go_ret
  exact ⟨rfl, HB.out⟩
set_option maxHeartbeats 8000000 in
set_option maxRecDepth 100000 in
theorem lawBack_1m (a b k : Int) (h : Two a b) (ha : ¬ a = 0) (hb : b < 0) (hk : fleuronalike_Round.f k 7 = some 1) (w : World) (ht : TabP w) :
    Calls Tryd.prog 4 #[.int .i64 a, .int .i64 b, .int .i64 k] w fun e w' => e = .returned (.bool true) ∧ Below w.heap.size w w' := by
  have HT := Aside0.mk ht
  have HB := Aside0.mk (Below.refl w.heap.size w)
  have tok0 : True := trivial
  have tok1 : True := trivial
  have tok2 : True := trivial
  clear ht
  have d0 : decide (a < -2147483648) = false := decide_eq_false (by have := h.a0; have := h.a1; have := h.b0; have := h.b1; omega)
  have d1 : decide (2147483648 ≤ a) = false := decide_eq_false (by have := h.a0; have := h.a1; have := h.b0; have := h.b1; omega)
  have d2 : decide (b ≤ -2147483648) = false := decide_eq_false (by have := h.a0; have := h.a1; have := h.b0; have := h.b1; omega)
  have d3 : decide (2147483648 ≤ b) = false := decide_eq_false (by have := h.a0; have := h.a1; have := h.b0; have := h.b1; omega)
  have HX := Aside0.mk (fun W => Text_c a b (by have := h.a0; omega) (by have := h.a1; omega) (by have := h.b0; omega) (by have := h.b1; omega) W)
  have HXZ := Aside0.mk (show (textB a b).size ≤ 1000000 from Nat.le_trans (textB_size a b (by have := h.a0; omega) (by have := h.a1; omega) (by have := h.b0; omega) (by have := h.b1; omega)) (by decide))
  have WT := Aside0.mk (bkT a b h)
  have HK := Aside0.mk hk
  have HDa := Aside0.mk (fun W => Decimal_c a (by have := h.a0; omega) (by have := h.a1; omega) W)
  have HDb := Aside0.mk (fun W => Decimal_c (-b) (by have := h.b0; have := h.b1; omega) (by have := h.b0; have := h.b1; omega) W)
  have hza := decB_size a (by have := h.a0; omega) (by have := h.a1; omega)
  have hzb := decB_size (-b) (by have := h.b0; have := h.b1; omega) (by have := h.b0; have := h.b1; omega)
  have WS := Aside0.mk (bk1m a b h hb)
  have HSZ := Aside0.mk (show (decB a ++ ⟨#[78, 32]⟩ ++ ⟨#[45]⟩ ++ decB (-b)).size ≤ 1000000 by
    simp only [ByteArray.size_append]
    have e0 : (⟨#[78, 32]⟩ : ByteArray).size = 2 := rfl
    have e1 : (⟨#[45]⟩ : ByteArray).size = 1 := rfl
    omega)
  obtain ⟨s, hs⟩ : ∃ s : ByteArray, decB a ++ ⟨#[78, 32]⟩ ++ ⟨#[45]⟩ ++ decB (-b) = s := ⟨_, rfl⟩
  rw [hs] at WS HSZ
  have z1 : (a == 0) = false := beq_eq_false_iff_ne.2 ha
  have z2 : (b == 0) = false := beq_eq_false_iff_ne.2 (by omega)
  have z3 : decide (b < 0) = true := decide_eq_true (by omega)
  have q0 : -2147483648 < b := h.b0
  have q1 : b ≤ 2147483647 := h.b1
  clear h ha hb hk
  go_enter Tryd.func4, Tryd.ntmps4
  go_wp2_with (first
    | (go_at_call 13; refine (HX.out _ HT.out).mono ?_; rintro e w1 ⟨rfl, hb⟩; have h := HB.out.trans (hb.mono HB.out.size); have h2 := tabP_below HT.out hb; clear HB HT; have HB := Aside0.mk h; have HT := Aside0.mk h2; clear hb h h2)
    | (go_at_call 8; have _t := tok0; refine (nodes_c (textB a b) _ HXZ.out).mono ?_; rintro e w1 ⟨v, rfl, hr, hb⟩; clear tok0; obtain ⟨A, c, rfl, -, -⟩ := Kd.R_reads hr; have HR0 := Aside0.mk hr; clear hr; have h := HB.out.trans (hb.mono HB.out.size); have h2 := tabP_below HT.out hb; clear HB HT; have HB := Aside0.mk h; have HT := Aside0.mk h2; clear hb h h2)
    | (go_at_call 9; refine (prsS_c (textB a b) HXZ.out _ _ _ HR0.out).mono ?_; rw [WT.out]; rintro e w1 ⟨rfl, hb⟩; clear HR0; have h := HB.out.trans (hb.mono HB.out.size); have h2 := tabP_below HT.out hb; clear HB HT; have HB := Aside0.mk h; have HT := Aside0.mk h2; clear hb h h2)
    | (go_at_call 15; have _t := tok1; refine (HDa.out _).mono ?_; rintro e w1 ⟨rfl, hb⟩; clear tok1; have h := HB.out.trans (hb.mono HB.out.size); have h2 := tabP_below HT.out hb; clear HB HT; have HB := Aside0.mk h; have HT := Aside0.mk h2; clear hb h h2)
    | (go_at_call 15; refine (HDb.out _).mono ?_; rintro e w1 ⟨rfl, hb⟩; have h := HB.out.trans (hb.mono HB.out.size); have h2 := tabP_below HT.out hb; clear HB HT; have HB := Aside0.mk h; have HT := Aside0.mk h2; clear hb h h2)
    | (go_at_call 16; refine (fleuronalike_Round.calls k 7 1 _ HK.out).mono ?_; rintro e w1 ⟨rfl, hd⟩; have hb := hd.below; clear hd; have h := HB.out.trans (hb.mono HB.out.size); have h2 := tabP_below HT.out hb; clear HB HT; have HB := Aside0.mk h; have HT := Aside0.mk h2; clear hb h h2)
    | (go_at_call 8; have _t := tok2; refine (nodes_c (s) _ HSZ.out).mono ?_; rintro e w1 ⟨v, rfl, hr, hb⟩; clear tok2; obtain ⟨A, c, rfl, -, -⟩ := Kd.R_reads hr; have HR2 := Aside0.mk hr; clear hr; have h := HB.out.trans (hb.mono HB.out.size); have h2 := tabP_below HT.out hb; clear HB HT; have HB := Aside0.mk h; have HT := Aside0.mk h2; clear hb h h2)
    | (go_at_call 9; refine (prsS_c (s) HSZ.out _ _ _ HR2.out).mono ?_; rw [WS.out]; rintro e w1 ⟨rfl, hb⟩; clear HR2; have h := HB.out.trans (hb.mono HB.out.size); have h2 := tabP_below HT.out hb; clear HB HT; have HB := Aside0.mk h; have HT := Aside0.mk h2; clear hb h h2)
    | (go_at_call 7; refine (awake_c _ HT.out).mono ?_; rintro e w1 ⟨rfl, hb⟩; have h := HB.out.trans (hb.mono HB.out.size); have h2 := tabP_below HT.out hb; clear HB HT; have HB := Aside0.mk h; have HT := Aside0.mk h2; clear hb h h2))
  go_ret
  exact ⟨rfl, HB.out⟩
set_option maxHeartbeats 8000000 in
set_option maxRecDepth 100000 in
theorem lawBack_2m (a b k : Int) (h : Two a b) (ha : ¬ a = 0) (hb : b < 0) (hk : fleuronalike_Round.f k 7 = some 2) (w : World) (ht : TabP w) :
    Calls Tryd.prog 4 #[.int .i64 a, .int .i64 b, .int .i64 k] w fun e w' => e = .returned (.bool true) ∧ Below w.heap.size w w' := by
  have HT := Aside0.mk ht
  have HB := Aside0.mk (Below.refl w.heap.size w)
  have tok0 : True := trivial
  have tok1 : True := trivial
  have tok2 : True := trivial
  clear ht
  have d0 : decide (a < -2147483648) = false := decide_eq_false (by have := h.a0; have := h.a1; have := h.b0; have := h.b1; omega)
  have d1 : decide (2147483648 ≤ a) = false := decide_eq_false (by have := h.a0; have := h.a1; have := h.b0; have := h.b1; omega)
  have d2 : decide (b ≤ -2147483648) = false := decide_eq_false (by have := h.a0; have := h.a1; have := h.b0; have := h.b1; omega)
  have d3 : decide (2147483648 ≤ b) = false := decide_eq_false (by have := h.a0; have := h.a1; have := h.b0; have := h.b1; omega)
  have HX := Aside0.mk (fun W => Text_c a b (by have := h.a0; omega) (by have := h.a1; omega) (by have := h.b0; omega) (by have := h.b1; omega) W)
  have HXZ := Aside0.mk (show (textB a b).size ≤ 1000000 from Nat.le_trans (textB_size a b (by have := h.a0; omega) (by have := h.a1; omega) (by have := h.b0; omega) (by have := h.b1; omega)) (by decide))
  have WT := Aside0.mk (bkT a b h)
  have HK := Aside0.mk hk
  have HDa := Aside0.mk (fun W => Decimal_c a (by have := h.a0; omega) (by have := h.a1; omega) W)
  have HDb := Aside0.mk (fun W => Decimal_c (-b) (by have := h.b0; have := h.b1; omega) (by have := h.b0; have := h.b1; omega) W)
  have hza := decB_size a (by have := h.a0; omega) (by have := h.a1; omega)
  have hzb := decB_size (-b) (by have := h.b0; have := h.b1; omega) (by have := h.b0; have := h.b1; omega)
  have WS := Aside0.mk (bk2m a b h hb)
  have HSZ := Aside0.mk (show (decB a ++ ⟨#[110]⟩ ++ ⟨#[45]⟩ ++ ⟨#[32]⟩ ++ decB (-b)).size ≤ 1000000 by
    simp only [ByteArray.size_append]
    have e0 : (⟨#[110]⟩ : ByteArray).size = 1 := rfl
    have e1 : (⟨#[45]⟩ : ByteArray).size = 1 := rfl
    have e2 : (⟨#[32]⟩ : ByteArray).size = 1 := rfl
    omega)
  obtain ⟨s, hs⟩ : ∃ s : ByteArray, decB a ++ ⟨#[110]⟩ ++ ⟨#[45]⟩ ++ ⟨#[32]⟩ ++ decB (-b) = s := ⟨_, rfl⟩
  rw [hs] at WS HSZ
  have z1 : (a == 0) = false := beq_eq_false_iff_ne.2 ha
  have z2 : (b == 0) = false := beq_eq_false_iff_ne.2 (by omega)
  have z3 : decide (b < 0) = true := decide_eq_true (by omega)
  have q0 : -2147483648 < b := h.b0
  have q1 : b ≤ 2147483647 := h.b1
  clear h ha hb hk
  go_enter Tryd.func4, Tryd.ntmps4
  go_wp2_with (first
    | (go_at_call 13; refine (HX.out _ HT.out).mono ?_; rintro e w1 ⟨rfl, hb⟩; have h := HB.out.trans (hb.mono HB.out.size); have h2 := tabP_below HT.out hb; clear HB HT; have HB := Aside0.mk h; have HT := Aside0.mk h2; clear hb h h2)
    | (go_at_call 8; have _t := tok0; refine (nodes_c (textB a b) _ HXZ.out).mono ?_; rintro e w1 ⟨v, rfl, hr, hb⟩; clear tok0; obtain ⟨A, c, rfl, -, -⟩ := Kd.R_reads hr; have HR0 := Aside0.mk hr; clear hr; have h := HB.out.trans (hb.mono HB.out.size); have h2 := tabP_below HT.out hb; clear HB HT; have HB := Aside0.mk h; have HT := Aside0.mk h2; clear hb h h2)
    | (go_at_call 9; refine (prsS_c (textB a b) HXZ.out _ _ _ HR0.out).mono ?_; rw [WT.out]; rintro e w1 ⟨rfl, hb⟩; clear HR0; have h := HB.out.trans (hb.mono HB.out.size); have h2 := tabP_below HT.out hb; clear HB HT; have HB := Aside0.mk h; have HT := Aside0.mk h2; clear hb h h2)
    | (go_at_call 15; have _t := tok1; refine (HDa.out _).mono ?_; rintro e w1 ⟨rfl, hb⟩; clear tok1; have h := HB.out.trans (hb.mono HB.out.size); have h2 := tabP_below HT.out hb; clear HB HT; have HB := Aside0.mk h; have HT := Aside0.mk h2; clear hb h h2)
    | (go_at_call 15; refine (HDb.out _).mono ?_; rintro e w1 ⟨rfl, hb⟩; have h := HB.out.trans (hb.mono HB.out.size); have h2 := tabP_below HT.out hb; clear HB HT; have HB := Aside0.mk h; have HT := Aside0.mk h2; clear hb h h2)
    | (go_at_call 16; refine (fleuronalike_Round.calls k 7 2 _ HK.out).mono ?_; rintro e w1 ⟨rfl, hd⟩; have hb := hd.below; clear hd; have h := HB.out.trans (hb.mono HB.out.size); have h2 := tabP_below HT.out hb; clear HB HT; have HB := Aside0.mk h; have HT := Aside0.mk h2; clear hb h h2)
    | (go_at_call 8; have _t := tok2; refine (nodes_c (s) _ HSZ.out).mono ?_; rintro e w1 ⟨v, rfl, hr, hb⟩; clear tok2; obtain ⟨A, c, rfl, -, -⟩ := Kd.R_reads hr; have HR2 := Aside0.mk hr; clear hr; have h := HB.out.trans (hb.mono HB.out.size); have h2 := tabP_below HT.out hb; clear HB HT; have HB := Aside0.mk h; have HT := Aside0.mk h2; clear hb h h2)
    | (go_at_call 9; refine (prsS_c (s) HSZ.out _ _ _ HR2.out).mono ?_; rw [WS.out]; rintro e w1 ⟨rfl, hb⟩; clear HR2; have h := HB.out.trans (hb.mono HB.out.size); have h2 := tabP_below HT.out hb; clear HB HT; have HB := Aside0.mk h; have HT := Aside0.mk h2; clear hb h h2)
    | (go_at_call 7; refine (awake_c _ HT.out).mono ?_; rintro e w1 ⟨rfl, hb⟩; have h := HB.out.trans (hb.mono HB.out.size); have h2 := tabP_below HT.out hb; clear HB HT; have HB := Aside0.mk h; have HT := Aside0.mk h2; clear hb h h2))
  go_ret
  exact ⟨rfl, HB.out⟩
set_option maxHeartbeats 8000000 in
set_option maxRecDepth 100000 in
theorem lawBack_3m (a b k : Int) (h : Two a b) (ha : ¬ a = 0) (hb : b < 0) (hk : fleuronalike_Round.f k 7 = some 3) (w : World) (ht : TabP w) :
    Calls Tryd.prog 4 #[.int .i64 a, .int .i64 b, .int .i64 k] w fun e w' => e = .returned (.bool true) ∧ Below w.heap.size w w' := by
  have HT := Aside0.mk ht
  have HB := Aside0.mk (Below.refl w.heap.size w)
  have tok0 : True := trivial
  have tok1 : True := trivial
  have tok2 : True := trivial
  clear ht
  have d0 : decide (a < -2147483648) = false := decide_eq_false (by have := h.a0; have := h.a1; have := h.b0; have := h.b1; omega)
  have d1 : decide (2147483648 ≤ a) = false := decide_eq_false (by have := h.a0; have := h.a1; have := h.b0; have := h.b1; omega)
  have d2 : decide (b ≤ -2147483648) = false := decide_eq_false (by have := h.a0; have := h.a1; have := h.b0; have := h.b1; omega)
  have d3 : decide (2147483648 ≤ b) = false := decide_eq_false (by have := h.a0; have := h.a1; have := h.b0; have := h.b1; omega)
  have HX := Aside0.mk (fun W => Text_c a b (by have := h.a0; omega) (by have := h.a1; omega) (by have := h.b0; omega) (by have := h.b1; omega) W)
  have HXZ := Aside0.mk (show (textB a b).size ≤ 1000000 from Nat.le_trans (textB_size a b (by have := h.a0; omega) (by have := h.a1; omega) (by have := h.b0; omega) (by have := h.b1; omega)) (by decide))
  have WT := Aside0.mk (bkT a b h)
  have HK := Aside0.mk hk
  have HDa := Aside0.mk (fun W => Decimal_c a (by have := h.a0; omega) (by have := h.a1; omega) W)
  have HDb := Aside0.mk (fun W => Decimal_c (-b) (by have := h.b0; have := h.b1; omega) (by have := h.b0; have := h.b1; omega) W)
  have hza := decB_size a (by have := h.a0; omega) (by have := h.a1; omega)
  have hzb := decB_size (-b) (by have := h.b0; have := h.b1; omega) (by have := h.b0; have := h.b1; omega)
  have WS := Aside0.mk (bk3m a b h hb)
  have HSZ := Aside0.mk (show (decB a ++ ⟨#[32, 110]⟩ ++ ⟨#[45]⟩ ++ decB (-b)).size ≤ 1000000 by
    simp only [ByteArray.size_append]
    have e0 : (⟨#[32, 110]⟩ : ByteArray).size = 2 := rfl
    have e1 : (⟨#[45]⟩ : ByteArray).size = 1 := rfl
    omega)
  obtain ⟨s, hs⟩ : ∃ s : ByteArray, decB a ++ ⟨#[32, 110]⟩ ++ ⟨#[45]⟩ ++ decB (-b) = s := ⟨_, rfl⟩
  rw [hs] at WS HSZ
  have z1 : (a == 0) = false := beq_eq_false_iff_ne.2 ha
  have z2 : (b == 0) = false := beq_eq_false_iff_ne.2 (by omega)
  have z3 : decide (b < 0) = true := decide_eq_true (by omega)
  have q0 : -2147483648 < b := h.b0
  have q1 : b ≤ 2147483647 := h.b1
  clear h ha hb hk
  go_enter Tryd.func4, Tryd.ntmps4
  go_wp2_with (first
    | (go_at_call 13; refine (HX.out _ HT.out).mono ?_; rintro e w1 ⟨rfl, hb⟩; have h := HB.out.trans (hb.mono HB.out.size); have h2 := tabP_below HT.out hb; clear HB HT; have HB := Aside0.mk h; have HT := Aside0.mk h2; clear hb h h2)
    | (go_at_call 8; have _t := tok0; refine (nodes_c (textB a b) _ HXZ.out).mono ?_; rintro e w1 ⟨v, rfl, hr, hb⟩; clear tok0; obtain ⟨A, c, rfl, -, -⟩ := Kd.R_reads hr; have HR0 := Aside0.mk hr; clear hr; have h := HB.out.trans (hb.mono HB.out.size); have h2 := tabP_below HT.out hb; clear HB HT; have HB := Aside0.mk h; have HT := Aside0.mk h2; clear hb h h2)
    | (go_at_call 9; refine (prsS_c (textB a b) HXZ.out _ _ _ HR0.out).mono ?_; rw [WT.out]; rintro e w1 ⟨rfl, hb⟩; clear HR0; have h := HB.out.trans (hb.mono HB.out.size); have h2 := tabP_below HT.out hb; clear HB HT; have HB := Aside0.mk h; have HT := Aside0.mk h2; clear hb h h2)
    | (go_at_call 15; have _t := tok1; refine (HDa.out _).mono ?_; rintro e w1 ⟨rfl, hb⟩; clear tok1; have h := HB.out.trans (hb.mono HB.out.size); have h2 := tabP_below HT.out hb; clear HB HT; have HB := Aside0.mk h; have HT := Aside0.mk h2; clear hb h h2)
    | (go_at_call 15; refine (HDb.out _).mono ?_; rintro e w1 ⟨rfl, hb⟩; have h := HB.out.trans (hb.mono HB.out.size); have h2 := tabP_below HT.out hb; clear HB HT; have HB := Aside0.mk h; have HT := Aside0.mk h2; clear hb h h2)
    | (go_at_call 16; refine (fleuronalike_Round.calls k 7 3 _ HK.out).mono ?_; rintro e w1 ⟨rfl, hd⟩; have hb := hd.below; clear hd; have h := HB.out.trans (hb.mono HB.out.size); have h2 := tabP_below HT.out hb; clear HB HT; have HB := Aside0.mk h; have HT := Aside0.mk h2; clear hb h h2)
    | (go_at_call 8; have _t := tok2; refine (nodes_c (s) _ HSZ.out).mono ?_; rintro e w1 ⟨v, rfl, hr, hb⟩; clear tok2; obtain ⟨A, c, rfl, -, -⟩ := Kd.R_reads hr; have HR2 := Aside0.mk hr; clear hr; have h := HB.out.trans (hb.mono HB.out.size); have h2 := tabP_below HT.out hb; clear HB HT; have HB := Aside0.mk h; have HT := Aside0.mk h2; clear hb h h2)
    | (go_at_call 9; refine (prsS_c (s) HSZ.out _ _ _ HR2.out).mono ?_; rw [WS.out]; rintro e w1 ⟨rfl, hb⟩; clear HR2; have h := HB.out.trans (hb.mono HB.out.size); have h2 := tabP_below HT.out hb; clear HB HT; have HB := Aside0.mk h; have HT := Aside0.mk h2; clear hb h h2)
    | (go_at_call 7; refine (awake_c _ HT.out).mono ?_; rintro e w1 ⟨rfl, hb⟩; have h := HB.out.trans (hb.mono HB.out.size); have h2 := tabP_below HT.out hb; clear HB HT; have HB := Aside0.mk h; have HT := Aside0.mk h2; clear hb h h2))
  go_ret
  exact ⟨rfl, HB.out⟩
set_option maxHeartbeats 8000000 in
set_option maxRecDepth 100000 in
theorem lawBack_4m (a b k : Int) (h : Two a b) (ha : ¬ a = 0) (hb : b < 0) (hk : fleuronalike_Round.f k 7 = some 4) (w : World) (ht : TabP w) :
    Calls Tryd.prog 4 #[.int .i64 a, .int .i64 b, .int .i64 k] w fun e w' => e = .returned (.bool true) ∧ Below w.heap.size w w' := by
  have HT := Aside0.mk ht
  have HB := Aside0.mk (Below.refl w.heap.size w)
  have tok0 : True := trivial
  have tok1 : True := trivial
  have tok2 : True := trivial
  clear ht
  have d0 : decide (a < -2147483648) = false := decide_eq_false (by have := h.a0; have := h.a1; have := h.b0; have := h.b1; omega)
  have d1 : decide (2147483648 ≤ a) = false := decide_eq_false (by have := h.a0; have := h.a1; have := h.b0; have := h.b1; omega)
  have d2 : decide (b ≤ -2147483648) = false := decide_eq_false (by have := h.a0; have := h.a1; have := h.b0; have := h.b1; omega)
  have d3 : decide (2147483648 ≤ b) = false := decide_eq_false (by have := h.a0; have := h.a1; have := h.b0; have := h.b1; omega)
  have HX := Aside0.mk (fun W => Text_c a b (by have := h.a0; omega) (by have := h.a1; omega) (by have := h.b0; omega) (by have := h.b1; omega) W)
  have HXZ := Aside0.mk (show (textB a b).size ≤ 1000000 from Nat.le_trans (textB_size a b (by have := h.a0; omega) (by have := h.a1; omega) (by have := h.b0; omega) (by have := h.b1; omega)) (by decide))
  have WT := Aside0.mk (bkT a b h)
  have HK := Aside0.mk hk
  have HDa := Aside0.mk (fun W => Decimal_c a (by have := h.a0; omega) (by have := h.a1; omega) W)
  have HDb := Aside0.mk (fun W => Decimal_c (-b) (by have := h.b0; have := h.b1; omega) (by have := h.b0; have := h.b1; omega) W)
  have hza := decB_size a (by have := h.a0; omega) (by have := h.a1; omega)
  have hzb := decB_size (-b) (by have := h.b0; have := h.b1; omega) (by have := h.b0; have := h.b1; omega)
  have WS := Aside0.mk (bk4m a b h hb)
  have HSZ := Aside0.mk (show (decB a ++ ⟨#[110, 32]⟩ ++ decB (-b)).size ≤ 1000000 by
    simp only [ByteArray.size_append]
    have e0 : (⟨#[110, 32]⟩ : ByteArray).size = 2 := rfl
    omega)
  obtain ⟨s, hs⟩ : ∃ s : ByteArray, decB a ++ ⟨#[110, 32]⟩ ++ decB (-b) = s := ⟨_, rfl⟩
  rw [hs] at WS HSZ
  have z1 : (a == 0) = false := beq_eq_false_iff_ne.2 ha
  have z2 : (b == 0) = false := beq_eq_false_iff_ne.2 (by omega)
  have z3 : decide (b < 0) = true := decide_eq_true (by omega)
  have q0 : -2147483648 < b := h.b0
  have q1 : b ≤ 2147483647 := h.b1
  clear h ha hb hk
  go_enter Tryd.func4, Tryd.ntmps4
  go_wp2_with (first
    | (go_at_call 13; refine (HX.out _ HT.out).mono ?_; rintro e w1 ⟨rfl, hb⟩; have h := HB.out.trans (hb.mono HB.out.size); have h2 := tabP_below HT.out hb; clear HB HT; have HB := Aside0.mk h; have HT := Aside0.mk h2; clear hb h h2)
    | (go_at_call 8; have _t := tok0; refine (nodes_c (textB a b) _ HXZ.out).mono ?_; rintro e w1 ⟨v, rfl, hr, hb⟩; clear tok0; obtain ⟨A, c, rfl, -, -⟩ := Kd.R_reads hr; have HR0 := Aside0.mk hr; clear hr; have h := HB.out.trans (hb.mono HB.out.size); have h2 := tabP_below HT.out hb; clear HB HT; have HB := Aside0.mk h; have HT := Aside0.mk h2; clear hb h h2)
    | (go_at_call 9; refine (prsS_c (textB a b) HXZ.out _ _ _ HR0.out).mono ?_; rw [WT.out]; rintro e w1 ⟨rfl, hb⟩; clear HR0; have h := HB.out.trans (hb.mono HB.out.size); have h2 := tabP_below HT.out hb; clear HB HT; have HB := Aside0.mk h; have HT := Aside0.mk h2; clear hb h h2)
    | (go_at_call 15; have _t := tok1; refine (HDa.out _).mono ?_; rintro e w1 ⟨rfl, hb⟩; clear tok1; have h := HB.out.trans (hb.mono HB.out.size); have h2 := tabP_below HT.out hb; clear HB HT; have HB := Aside0.mk h; have HT := Aside0.mk h2; clear hb h h2)
    | (go_at_call 15; refine (HDb.out _).mono ?_; rintro e w1 ⟨rfl, hb⟩; have h := HB.out.trans (hb.mono HB.out.size); have h2 := tabP_below HT.out hb; clear HB HT; have HB := Aside0.mk h; have HT := Aside0.mk h2; clear hb h h2)
    | (go_at_call 16; refine (fleuronalike_Round.calls k 7 4 _ HK.out).mono ?_; rintro e w1 ⟨rfl, hd⟩; have hb := hd.below; clear hd; have h := HB.out.trans (hb.mono HB.out.size); have h2 := tabP_below HT.out hb; clear HB HT; have HB := Aside0.mk h; have HT := Aside0.mk h2; clear hb h h2)
    | (go_at_call 8; have _t := tok2; refine (nodes_c (s) _ HSZ.out).mono ?_; rintro e w1 ⟨v, rfl, hr, hb⟩; clear tok2; obtain ⟨A, c, rfl, -, -⟩ := Kd.R_reads hr; have HR2 := Aside0.mk hr; clear hr; have h := HB.out.trans (hb.mono HB.out.size); have h2 := tabP_below HT.out hb; clear HB HT; have HB := Aside0.mk h; have HT := Aside0.mk h2; clear hb h h2)
    | (go_at_call 9; refine (prsS_c (s) HSZ.out _ _ _ HR2.out).mono ?_; rw [WS.out]; rintro e w1 ⟨rfl, hb⟩; clear HR2; have h := HB.out.trans (hb.mono HB.out.size); have h2 := tabP_below HT.out hb; clear HB HT; have HB := Aside0.mk h; have HT := Aside0.mk h2; clear hb h h2)
    | (go_at_call 7; refine (awake_c _ HT.out).mono ?_; rintro e w1 ⟨rfl, hb⟩; have h := HB.out.trans (hb.mono HB.out.size); have h2 := tabP_below HT.out hb; clear HB HT; have HB := Aside0.mk h; have HT := Aside0.mk h2; clear hb h h2))
  go_ret
  exact ⟨rfl, HB.out⟩
set_option maxHeartbeats 8000000 in
set_option maxRecDepth 100000 in
theorem lawBack_5m (a b k : Int) (h : Two a b) (ha : ¬ a = 0) (hb : b < 0) (hk : fleuronalike_Round.f k 7 = some 5) (w : World) (ht : TabP w) :
    Calls Tryd.prog 4 #[.int .i64 a, .int .i64 b, .int .i64 k] w fun e w' => e = .returned (.bool true) ∧ Below w.heap.size w w' := by
  have HT := Aside0.mk ht
  have HB := Aside0.mk (Below.refl w.heap.size w)
  have tok0 : True := trivial
  have tok1 : True := trivial
  have tok2 : True := trivial
  clear ht
  have d0 : decide (a < -2147483648) = false := decide_eq_false (by have := h.a0; have := h.a1; have := h.b0; have := h.b1; omega)
  have d1 : decide (2147483648 ≤ a) = false := decide_eq_false (by have := h.a0; have := h.a1; have := h.b0; have := h.b1; omega)
  have d2 : decide (b ≤ -2147483648) = false := decide_eq_false (by have := h.a0; have := h.a1; have := h.b0; have := h.b1; omega)
  have d3 : decide (2147483648 ≤ b) = false := decide_eq_false (by have := h.a0; have := h.a1; have := h.b0; have := h.b1; omega)
  have HX := Aside0.mk (fun W => Text_c a b (by have := h.a0; omega) (by have := h.a1; omega) (by have := h.b0; omega) (by have := h.b1; omega) W)
  have HXZ := Aside0.mk (show (textB a b).size ≤ 1000000 from Nat.le_trans (textB_size a b (by have := h.a0; omega) (by have := h.a1; omega) (by have := h.b0; omega) (by have := h.b1; omega)) (by decide))
  have WT := Aside0.mk (bkT a b h)
  have HK := Aside0.mk hk
  have HDa := Aside0.mk (fun W => Decimal_c a (by have := h.a0; omega) (by have := h.a1; omega) W)
  have HDb := Aside0.mk (fun W => Decimal_c (-b) (by have := h.b0; have := h.b1; omega) (by have := h.b0; have := h.b1; omega) W)
  have hza := decB_size a (by have := h.a0; omega) (by have := h.a1; omega)
  have hzb := decB_size (-b) (by have := h.b0; have := h.b1; omega) (by have := h.b0; have := h.b1; omega)
  have WS := Aside0.mk (bk5m a b h hb)
  have HSZ := Aside0.mk (show (decB a ++ ⟨#[110, 32]⟩ ++ ⟨#[45]⟩ ++ ⟨#[32]⟩ ++ ⟨#[45]⟩ ++ decB (-b)).size ≤ 1000000 by
    simp only [ByteArray.size_append]
    have e0 : (⟨#[110, 32]⟩ : ByteArray).size = 2 := rfl
    have e1 : (⟨#[45]⟩ : ByteArray).size = 1 := rfl
    have e2 : (⟨#[32]⟩ : ByteArray).size = 1 := rfl
    have e3 : (⟨#[45]⟩ : ByteArray).size = 1 := rfl
    omega)
  obtain ⟨s, hs⟩ : ∃ s : ByteArray, decB a ++ ⟨#[110, 32]⟩ ++ ⟨#[45]⟩ ++ ⟨#[32]⟩ ++ ⟨#[45]⟩ ++ decB (-b) = s := ⟨_, rfl⟩
  rw [hs] at WS HSZ
  have z1 : (a == 0) = false := beq_eq_false_iff_ne.2 ha
  have z2 : (b == 0) = false := beq_eq_false_iff_ne.2 (by omega)
  have z3 : decide (b < 0) = true := decide_eq_true (by omega)
  have q0 : -2147483648 < b := h.b0
  have q1 : b ≤ 2147483647 := h.b1
  clear h ha hb hk
  go_enter Tryd.func4, Tryd.ntmps4
  go_wp2_with (first
    | (go_at_call 13; refine (HX.out _ HT.out).mono ?_; rintro e w1 ⟨rfl, hb⟩; have h := HB.out.trans (hb.mono HB.out.size); have h2 := tabP_below HT.out hb; clear HB HT; have HB := Aside0.mk h; have HT := Aside0.mk h2; clear hb h h2)
    | (go_at_call 8; have _t := tok0; refine (nodes_c (textB a b) _ HXZ.out).mono ?_; rintro e w1 ⟨v, rfl, hr, hb⟩; clear tok0; obtain ⟨A, c, rfl, -, -⟩ := Kd.R_reads hr; have HR0 := Aside0.mk hr; clear hr; have h := HB.out.trans (hb.mono HB.out.size); have h2 := tabP_below HT.out hb; clear HB HT; have HB := Aside0.mk h; have HT := Aside0.mk h2; clear hb h h2)
    | (go_at_call 9; refine (prsS_c (textB a b) HXZ.out _ _ _ HR0.out).mono ?_; rw [WT.out]; rintro e w1 ⟨rfl, hb⟩; clear HR0; have h := HB.out.trans (hb.mono HB.out.size); have h2 := tabP_below HT.out hb; clear HB HT; have HB := Aside0.mk h; have HT := Aside0.mk h2; clear hb h h2)
    | (go_at_call 15; have _t := tok1; refine (HDa.out _).mono ?_; rintro e w1 ⟨rfl, hb⟩; clear tok1; have h := HB.out.trans (hb.mono HB.out.size); have h2 := tabP_below HT.out hb; clear HB HT; have HB := Aside0.mk h; have HT := Aside0.mk h2; clear hb h h2)
    | (go_at_call 15; refine (HDb.out _).mono ?_; rintro e w1 ⟨rfl, hb⟩; have h := HB.out.trans (hb.mono HB.out.size); have h2 := tabP_below HT.out hb; clear HB HT; have HB := Aside0.mk h; have HT := Aside0.mk h2; clear hb h h2)
    | (go_at_call 16; refine (fleuronalike_Round.calls k 7 5 _ HK.out).mono ?_; rintro e w1 ⟨rfl, hd⟩; have hb := hd.below; clear hd; have h := HB.out.trans (hb.mono HB.out.size); have h2 := tabP_below HT.out hb; clear HB HT; have HB := Aside0.mk h; have HT := Aside0.mk h2; clear hb h h2)
    | (go_at_call 8; have _t := tok2; refine (nodes_c (s) _ HSZ.out).mono ?_; rintro e w1 ⟨v, rfl, hr, hb⟩; clear tok2; obtain ⟨A, c, rfl, -, -⟩ := Kd.R_reads hr; have HR2 := Aside0.mk hr; clear hr; have h := HB.out.trans (hb.mono HB.out.size); have h2 := tabP_below HT.out hb; clear HB HT; have HB := Aside0.mk h; have HT := Aside0.mk h2; clear hb h h2)
    | (go_at_call 9; refine (prsS_c (s) HSZ.out _ _ _ HR2.out).mono ?_; rw [WS.out]; rintro e w1 ⟨rfl, hb⟩; clear HR2; have h := HB.out.trans (hb.mono HB.out.size); have h2 := tabP_below HT.out hb; clear HB HT; have HB := Aside0.mk h; have HT := Aside0.mk h2; clear hb h h2)
    | (go_at_call 7; refine (awake_c _ HT.out).mono ?_; rintro e w1 ⟨rfl, hb⟩; have h := HB.out.trans (hb.mono HB.out.size); have h2 := tabP_below HT.out hb; clear HB HT; have HB := Aside0.mk h; have HT := Aside0.mk h2; clear hb h h2))
  go_ret
  exact ⟨rfl, HB.out⟩
set_option maxHeartbeats 8000000 in
set_option maxRecDepth 100000 in
theorem lawBack_6m (a b k : Int) (h : Two a b) (ha : ¬ a = 0) (hb : b < 0) (hk : fleuronalike_Round.f k 7 = some 6) (w : World) (ht : TabP w) :
    Calls Tryd.prog 4 #[.int .i64 a, .int .i64 b, .int .i64 k] w fun e w' => e = .returned (.bool true) ∧ Below w.heap.size w w' := by
  have HT := Aside0.mk ht
  have HB := Aside0.mk (Below.refl w.heap.size w)
  have tok0 : True := trivial
  have tok1 : True := trivial
  have tok2 : True := trivial
  clear ht
  have d0 : decide (a < -2147483648) = false := decide_eq_false (by have := h.a0; have := h.a1; have := h.b0; have := h.b1; omega)
  have d1 : decide (2147483648 ≤ a) = false := decide_eq_false (by have := h.a0; have := h.a1; have := h.b0; have := h.b1; omega)
  have d2 : decide (b ≤ -2147483648) = false := decide_eq_false (by have := h.a0; have := h.a1; have := h.b0; have := h.b1; omega)
  have d3 : decide (2147483648 ≤ b) = false := decide_eq_false (by have := h.a0; have := h.a1; have := h.b0; have := h.b1; omega)
  have HX := Aside0.mk (fun W => Text_c a b (by have := h.a0; omega) (by have := h.a1; omega) (by have := h.b0; omega) (by have := h.b1; omega) W)
  have HXZ := Aside0.mk (show (textB a b).size ≤ 1000000 from Nat.le_trans (textB_size a b (by have := h.a0; omega) (by have := h.a1; omega) (by have := h.b0; omega) (by have := h.b1; omega)) (by decide))
  have WT := Aside0.mk (bkT a b h)
  have HK := Aside0.mk hk
  have HDa := Aside0.mk (fun W => Decimal_c a (by have := h.a0; omega) (by have := h.a1; omega) W)
  have HDb := Aside0.mk (fun W => Decimal_c (-b) (by have := h.b0; have := h.b1; omega) (by have := h.b0; have := h.b1; omega) W)
  have hza := decB_size a (by have := h.a0; omega) (by have := h.a1; omega)
  have hzb := decB_size (-b) (by have := h.b0; have := h.b1; omega) (by have := h.b0; have := h.b1; omega)
  have WS := Aside0.mk (bk6m a b h hb)
  have HSZ := Aside0.mk (show (decB a ++ ⟨#[110]⟩ ++ ⟨#[45]⟩ ++ decB (-b) ++ ⟨#[32, 49]⟩).size ≤ 1000000 by
    simp only [ByteArray.size_append]
    have e0 : (⟨#[110]⟩ : ByteArray).size = 1 := rfl
    have e1 : (⟨#[45]⟩ : ByteArray).size = 1 := rfl
    have e2 : (⟨#[32, 49]⟩ : ByteArray).size = 2 := rfl
    omega)
  obtain ⟨s, hs⟩ : ∃ s : ByteArray, decB a ++ ⟨#[110]⟩ ++ ⟨#[45]⟩ ++ decB (-b) ++ ⟨#[32, 49]⟩ = s := ⟨_, rfl⟩
  rw [hs] at WS HSZ
  have z1 : (a == 0) = false := beq_eq_false_iff_ne.2 ha
  have z2 : (b == 0) = false := beq_eq_false_iff_ne.2 (by omega)
  have z3 : decide (b < 0) = true := decide_eq_true (by omega)
  have q0 : -2147483648 < b := h.b0
  have q1 : b ≤ 2147483647 := h.b1
  clear h ha hb hk
  go_enter Tryd.func4, Tryd.ntmps4
  go_wp2_with (first
    | (go_at_call 13; refine (HX.out _ HT.out).mono ?_; rintro e w1 ⟨rfl, hb⟩; have h := HB.out.trans (hb.mono HB.out.size); have h2 := tabP_below HT.out hb; clear HB HT; have HB := Aside0.mk h; have HT := Aside0.mk h2; clear hb h h2)
    | (go_at_call 8; have _t := tok0; refine (nodes_c (textB a b) _ HXZ.out).mono ?_; rintro e w1 ⟨v, rfl, hr, hb⟩; clear tok0; obtain ⟨A, c, rfl, -, -⟩ := Kd.R_reads hr; have HR0 := Aside0.mk hr; clear hr; have h := HB.out.trans (hb.mono HB.out.size); have h2 := tabP_below HT.out hb; clear HB HT; have HB := Aside0.mk h; have HT := Aside0.mk h2; clear hb h h2)
    | (go_at_call 9; refine (prsS_c (textB a b) HXZ.out _ _ _ HR0.out).mono ?_; rw [WT.out]; rintro e w1 ⟨rfl, hb⟩; clear HR0; have h := HB.out.trans (hb.mono HB.out.size); have h2 := tabP_below HT.out hb; clear HB HT; have HB := Aside0.mk h; have HT := Aside0.mk h2; clear hb h h2)
    | (go_at_call 15; have _t := tok1; refine (HDa.out _).mono ?_; rintro e w1 ⟨rfl, hb⟩; clear tok1; have h := HB.out.trans (hb.mono HB.out.size); have h2 := tabP_below HT.out hb; clear HB HT; have HB := Aside0.mk h; have HT := Aside0.mk h2; clear hb h h2)
    | (go_at_call 15; refine (HDb.out _).mono ?_; rintro e w1 ⟨rfl, hb⟩; have h := HB.out.trans (hb.mono HB.out.size); have h2 := tabP_below HT.out hb; clear HB HT; have HB := Aside0.mk h; have HT := Aside0.mk h2; clear hb h h2)
    | (go_at_call 16; refine (fleuronalike_Round.calls k 7 6 _ HK.out).mono ?_; rintro e w1 ⟨rfl, hd⟩; have hb := hd.below; clear hd; have h := HB.out.trans (hb.mono HB.out.size); have h2 := tabP_below HT.out hb; clear HB HT; have HB := Aside0.mk h; have HT := Aside0.mk h2; clear hb h h2)
    | (go_at_call 8; have _t := tok2; refine (nodes_c (s) _ HSZ.out).mono ?_; rintro e w1 ⟨v, rfl, hr, hb⟩; clear tok2; obtain ⟨A, c, rfl, -, -⟩ := Kd.R_reads hr; have HR2 := Aside0.mk hr; clear hr; have h := HB.out.trans (hb.mono HB.out.size); have h2 := tabP_below HT.out hb; clear HB HT; have HB := Aside0.mk h; have HT := Aside0.mk h2; clear hb h h2)
    | (go_at_call 9; refine (prsS_c (s) HSZ.out _ _ _ HR2.out).mono ?_; rw [WS.out]; rintro e w1 ⟨rfl, hb⟩; clear HR2; have h := HB.out.trans (hb.mono HB.out.size); have h2 := tabP_below HT.out hb; clear HB HT; have HB := Aside0.mk h; have HT := Aside0.mk h2; clear hb h h2)
    | (go_at_call 7; refine (awake_c _ HT.out).mono ?_; rintro e w1 ⟨rfl, hb⟩; have h := HB.out.trans (hb.mono HB.out.size); have h2 := tabP_below HT.out hb; clear HB HT; have HB := Aside0.mk h; have HT := Aside0.mk h2; clear hb h h2))
  go_ret
  exact ⟨rfl, HB.out⟩
theorem lawBack_c (a b k : Int) (ha0 : -9223372036854775808 ≤ a) (ha1 : a ≤ 9223372036854775807) (hb0 : -9223372036854775808 ≤ b) (hb1 : b ≤ 9223372036854775807) (hk0 : -9223372036854775808 ≤ k) (hk1 : k ≤ 9223372036854775807) (w : World) (ht : TabP w) :
    Calls Tryd.prog 4 #[.int .i64 a, .int .i64 b, .int .i64 k] w fun e w' => e = .returned (.bool true) ∧ Below w.heap.size w w' := by
  by_cases h0 : a < -2147483648
  · exact lawBack_g0 a b k h0 w ht
  by_cases h1 : 2147483648 ≤ a
  · exact lawBack_g1 a b k h0 h1 w ht
  by_cases h2 : b ≤ -2147483648
  · exact lawBack_g2 a b k h0 h1 h2 w ht
  by_cases h3 : 2147483648 ≤ b
  · exact lawBack_g3 a b k h0 h1 h2 h3 w ht
  have h : Two a b := ⟨by omega, by omega, by omega, by omega⟩
  by_cases z1 : a = 0
  · exact lawBack_za a b k h z1 w ht
  by_cases z2 : b = 0
  · exact lawBack_zb a b k h z1 z2 w ht
  obtain ⟨i, hi, hk⟩ := Round7_f k
  by_cases hp : 0 < b
  · match i, hi, hk with
    | 0, _, hk => exact lawBack_0p a b k h z1 hp hk w ht
    | 1, _, hk => exact lawBack_1p a b k h z1 hp hk w ht
    | 2, _, hk => exact lawBack_2p a b k h z1 hp hk w ht
    | 3, _, hk => exact lawBack_3p a b k h z1 hp hk w ht
    | 4, _, hk => exact lawBack_4p a b k h z1 hp hk w ht
    | 5, _, hk => exact lawBack_5p a b k h z1 hp hk w ht
    | 6, _, hk => exact lawBack_6p a b k h z1 hp hk w ht
    | i + 7, hi, _ => exact absurd hi (by omega)
  · match i, hi, hk with
    | 0, _, hk => exact lawBack_0m a b k h z1 (by omega) hk w ht
    | 1, _, hk => exact lawBack_1m a b k h z1 (by omega) hk w ht
    | 2, _, hk => exact lawBack_2m a b k h z1 (by omega) hk w ht
    | 3, _, hk => exact lawBack_3m a b k h z1 (by omega) hk w ht
    | 4, _, hk => exact lawBack_4m a b k h z1 (by omega) hk w ht
    | 5, _, hk => exact lawBack_5m a b k h z1 (by omega) hk w ht
    | 6, _, hk => exact lawBack_6m a b k h z1 (by omega) hk w ht
    | i + 7, hi, _ => exact absurd hi (by omega)

end Go.Proofs.YtgdolholioccdaaDoor.PX
