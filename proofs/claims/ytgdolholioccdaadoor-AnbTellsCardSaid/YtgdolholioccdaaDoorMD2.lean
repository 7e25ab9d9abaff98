/-
  Contracts of the functions that the law reaches, and what they compute, on lists (part D2). No condition.
-/
import Derived.Test.YtgdolholioccdaaDoorMD
set_option linter.unusedVariables false
set_option linter.unusedSimpArgs false
namespace Go.Proofs.YtgdolholioccdaaDoor.PX
open Go.RowKit Go.Proofs.YtgdolholioccdaaDoorW.PrintWords Go.Proofs.YtgdolholioccdaaDoorW.PrintLast Go.Proofs.YtgdolholioccdaaDoorW.PrintMore
theorem lower_r {ws w : World} {g : Nat} {r l : List Int} (H : Rw ws w g r l) (s : ByteArray) (hs : s.size ≤ 9223372036854775807) : Calls Tryd.prog 25 #[.string s] w fun e w' => e = .returned (.string (lowerB s)) ∧ Rw ws w' g r l :=
  (fleuronref1_Lower.calls s (lowerB s) w (by unfold fleuronref1_Lower.f; rw [if_pos hs])).mono fun _ _ ⟨e, hd⟩ => ⟨e, H.below hd⟩
theorem quoted_a {ws w : World} {g : Nat} {r l : List Int} (H : Rw ws w g r l) (q : Int) :
    Calls Tryd.prog 46 #[.pointer (some ⟨g, 0, none⟩), .int .i32 q] w fun e w' => e = .returned (.agg #[.int .i64 (quoL q l).1.f0, .string (quoL q l).1.f1, .int .i64 (quoL q l).1.f2, .bool (quoL q l).1.f3, .bool (quoL q l).1.f4, .bool (quoL q l).1.f5]) ∧ Rw ws w' g r (quoL q l).2 := quoted_r H q
theorem url_a {ws w : World} {g : Nat} {r l : List Int} (H : Rw ws w g r l) :
    Calls Tryd.prog 73 #[.pointer (some ⟨g, 0, none⟩)] w fun e w' => e = .returned (.agg #[.int .i64 (urlL l).1.f0, .string (urlL l).1.f1, .int .i64 (urlL l).1.f2, .bool (urlL l).1.f3, .bool (urlL l).1.f4, .bool (urlL l).1.f5]) ∧ Rw ws w' g r (urlL l).2 := url_r H
theorem delim_a {ws w : World} {g : Nat} {r l : List Int} (H : Rw ws w g r l) (hne : sg l 0 ≠ -1) :
    Calls Tryd.prog 55 #[.pointer (some ⟨g, 0, none⟩)] w fun e w' => e = .returned (.agg #[.int .i64 9, .string (Utf8.encode (sg l 0)), .int .i64 0, .bool false, .bool false, .bool false]) ∧ Rw ws w' g r l.tail := delim_r H hne
def kW : List Int → Nat
  | [] => 0
  | c :: t => if whiB c then kW t + 1 else 0
theorem kW_le : ∀ l : List Int, kW l ≤ l.length
  | [] => Nat.le_refl _
  | c :: t => by
    unfold kW
    split
    · have := kW_le t
      simp; omega
    · simp
theorem kW_white : ∀ (l : List Int) (j : Nat), j < kW l → whiB (sg l j) = true
  | [], j, h => by simp [kW] at h
  | c :: t, j, h => by
    unfold kW at h
    split at h
    · rename_i hc
      cases j with
      | zero => exact hc
      | succ j => exact kW_white t j (by omega)
    · omega
theorem kW_not : ∀ (l : List Int), whiB (sg l (kW l : Nat)) = false
  | [] => rfl
  | c :: t => by
    unfold kW
    split
    · exact kW_not t
    · rename_i hc
      have : whiB c = false := by simpa using hc
      exact this
theorem skipW_drop : ∀ (l : List Int), skipW l = l.drop (kW l)
  | [] => rfl
  | c :: t => by
    unfold skipW kW
    split
    · exact skipW_drop t
    · rfl
theorem sg_drop (l : List Int) (k : Nat) : sg (l.drop k) 0 = sg l k := by
  unfold sg
  simp [List.getD_eq_getElem?_getD, List.getElem?_drop]
theorem str_eqT {s : ByteArray} {l : List UInt8} (h : s = ⟨l.toArray⟩) : (s.toList == l) = true := by
  subst h
  rw [ByteArray.toList_eq]
  exact beq_self_eq_true _
theorem str_eqF {s : ByteArray} {l : List UInt8} (h : ¬ s = ⟨l.toArray⟩) : (s.toList == l) = false := by
  rw [ByteArray.toList_eq, beq_eq_false_iff_ne]
  intro e
  refine h ?_
  rw [← e]
def urlS : ByteArray := ⟨#[117, 114, 108]⟩
def idnP (l : List Int) : S49 × List Int :=
  if sg (nameL l).2 0 = 40 then
    if lowerB (nameL l).1 = urlS then
      if sg (skipW (nameL l).2.tail) 0 = 34 ∨ sg (skipW (nameL l).2.tail) 0 = 39 then (mkT 2 (nameL l).1, (nameL l).2.tail.drop (kW (nameL l).2.tail - 1))
      else urlL (nameL l).2.tail
    else (mkT 2 (nameL l).1, (nameL l).2.tail)
  else (mkT 1 (nameL l).1, (nameL l).2)
set_option maxHeartbeats 8000000 in
set_option maxRecDepth 100000 in
theorem ident_r {ws w : World} {g : Nat} {r l : List Int} (H : Rw ws w g r l) :
    Calls Tryd.prog 54 #[.pointer (some ⟨g, 0, none⟩)] w fun e w' => e = .returned (tokV (idnP l).1) ∧ Rw ws w' g r (idnP l).2 := by
  have H0 := Aside0.mk H
  have HS := Aside0.mk (H.alloc tokZ).self
  have HL := Aside0.mk H.lt
  have HG := Aside0.mk H.keep.1
  have hd1 : ¬ w.heap.size = g := by have := H.lt; omega
  have hd2 : ¬ g = w.heap.size := by have := H.lt; omega
  have hsz := H.size
  have hln := H.len
  have hu := Tryd.underlying49
  clear H
  unfold tokZ at HS
  by_cases h1 : sg (nameL l).2 0 = 40
  · have b1 : (sg (nameL l).2 0 != 40) = false := by rw [bne_eq_false_iff_eq]; exact h1
    have HN := Aside0.mk (show sg (nameL l).2 0 ≠ -1 by omega)
    have hsf := (nameP_suf l.length ⟨#[]⟩ l).length_le
    have hsf2 : (nameL l).2.length ≤ l.length := hsf
    have htl := (List.tail_suffix (nameL l).2).length_le
    have hp : idnP l = if lowerB (nameL l).1 = urlS then
      if sg (skipW (nameL l).2.tail) 0 = 34 ∨ sg (skipW (nameL l).2.tail) 0 = 39 then (mkT 2 (nameL l).1, (nameL l).2.tail.drop (kW (nameL l).2.tail - 1))
      else urlL (nameL l).2.tail
    else (mkT 2 (nameL l).1, (nameL l).2.tail) := by
      conv => lhs; unfold idnP
      rw [if_pos h1]
    have HP := Aside0.mk hp
    clear hp h1 hsf
    by_cases h2 : lowerB (nameL l).1 = urlS
    · have HP2 := Aside0.mk (HP.out.trans (if_pos h2))
      clear HP
      have H2 := str_eqT (show lowerB (nameL l).1 = ⟨[117, 114, 108].toArray⟩ from h2)
      clear h2
      have hkl := kW_le (nameL l).2.tail
      go_enter Tryd.func54, Tryd.ntmps54
      go_wp2_with (first | (go_at_call 30; refine (sgn_r HS.out _ (by omega) (by omega)).mono ?_; rintro e w1 ⟨rfl, hS⟩; clear HS; have HS := Aside0.mk hS; obtain ⟨A, c, hc0, hc1, hfz, hr⟩ := hS.c0; clear hS hr) | (go_at_call 50; refine (name_r HS.out).mono ?_; rintro e w1 ⟨⟨rfl, hz⟩, hS⟩; clear HS; have HS := Aside0.mk hS; obtain ⟨A, c, hc0, hc1, hfz, hr⟩ := hS.c0; clear hS hr) | (go_at_call 25; refine (lower_r (HS.out.tail HN.out (by omega)) _ (by omega)).mono ?_; rintro e w1 ⟨rfl, hS⟩; clear HS; have HS := Aside0.mk hS; obtain ⟨A, c, hc0, hc1, hfz, hr⟩ := hS.c0; clear hS hr))
      obtain ⟨t, ht⟩ : ∃ t, (nameL l).2.tail = t := ⟨_, rfl⟩
      rw [ht] at HP2 HS hkl htl
      have HT := Aside0.mk ht
      clear ht
      obtain ⟨wo, HO, rfl⟩ : ∃ wo : World, Aside0 (Rw (w.alloc tokZ) wo g r t) ∧ wo = w1 := ⟨w1, HS, rfl⟩
      clear HS hc0 hc1 hfz
      go_loopg [4] (kW t) (fun n v wr => ∃ (j : Nat), v = .int .i64 j ∧ Aside0 (Rw (w.alloc tokZ) wr g r t) ∧ j + n = kW t)
      case atStart => exact ⟨0, rfl, HO, by omega⟩
      case round =>
        obtain ⟨j, rfl, HR, hj⟩ := hrel
        clear HO
        have HS := HR
        clear HR
        have HJ := Aside0.mk hj
        clear hj
        have hjk : j ≤ kW t := by have := HJ.out; omega
        by_cases h3 : j < kW t
        · have hw := kW_white t j h3
          go_wp2_with (first | (go_at_call 30; refine (sgn_r HS.out _ (by omega) (by omega)).mono ?_; rintro e w1 ⟨rfl, hS⟩; clear HS; have HS := Aside0.mk hS; obtain ⟨A, c, hc0, hc1, hfz, hr⟩ := hS.c0; clear hS hr) | (go_at_call 45; refine (white_r HS.out _).mono ?_; rintro e w1 ⟨rfl, hS⟩; clear HS; have HS := Aside0.mk hS; obtain ⟨A, c, hc0, hc1, hfz, hr⟩ := hS.c0; clear hS hr))
          have hj := HJ.out
          go_roundg (gk - 1)
          case rel => exact ⟨j + 1, by go_num, HS, by omega⟩
          case measure => omega
        · have hjq : j = kW t := by omega
          have hw : whiB (sg t (j : Nat)) = false := by rw [hjq]; exact kW_not t
          have hsk : sg (skipW t) 0 = sg t (j : Nat) := by rw [skipW_drop, sg_drop, hjq]
          rw [hsk] at HP2
          have HQ := Aside0.mk hjq
          clear hsk hjq h3
          by_cases h4 : sg t (j : Nat) = 34 ∨ sg t (j : Nat) = 39
          · have HP3 := Aside0.mk (HP2.out.trans (if_pos h4))
            clear HP2
            have hds : t.drop (j - 1) <:+ t := List.drop_suffix _ _
            have hdl : (t.drop (j - 1)).length = t.length - (j - 1) := List.length_drop
            have HD := Aside0.mk hds
            have HDL := Aside0.mk hdl
            rw [← HQ.out] at HP3
            clear hds hdl
            have hdn : ((t.drop (j - 1)).length : Int) = t.length - (j - 1 : Nat) := by have := HDL.out; omega
            have HDN := Aside0.mk hdn
            clear hdn
            cases hq : (sg t (j : Nat) == 34) with
            | true =>
              have h34 := eq_of_beq hq
              clear h4
              go_wp2_with (first | (go_at_call 30; refine (sgn_r HS.out _ (by omega) (by omega)).mono ?_; rintro e w1 ⟨rfl, hS⟩; clear HS; have HS := Aside0.mk hS; obtain ⟨A, c, hc0, hc1, hfz, hr⟩ := hS.c0; clear hS hr; obtain ⟨y0, y1, y2, y3, y4, y5, z0, z1, z2, z3, z4, z5⟩ := res6 HS.out HL.out) | (go_at_call 45; refine (white_r HS.out _).mono ?_; rintro e w1 ⟨rfl, hS⟩; clear HS; have HS := Aside0.mk hS; obtain ⟨A, c, hc0, hc1, hfz, hr⟩ := hS.c0; clear hS hr))
              all_goals
                rw [HP3.out]
                (refine bodyPost_ret (v := tokV (mkT 2 (nameL l).1)) ?_ rfl ⟨rfl, (Rw.far (p := ⟨w.heap.size, 5, none⟩) (Rw.far (p := ⟨w.heap.size, 4, none⟩) (Rw.far (p := ⟨w.heap.size, 3, none⟩) (Rw.far (p := ⟨w.heap.size, 2, none⟩) (Rw.far (p := ⟨w.heap.size, 1, none⟩) (Rw.far (p := ⟨w.heap.size, 0, none⟩) (Rw.trans (H0.out.alloc tokZ) (HS.out.adv HD.out (by have := HDN.out; omega))) HL.out HG.out _) HL.out HG.out _) HL.out HG.out _) HL.out HG.out _) HL.out HG.out _) HL.out HG.out _)⟩; simp [results, Tryd.results54, go_sem, tokV, mkT, y0, y1, y2, y3, y4, y5, hd1, hd2])
            | false =>
              have b6 := beqT (show sg t (j : Nat) = 39 by have := beq_eq_false_iff_ne.1 hq; omega)
              clear h4
              go_wp2_with (first | (go_at_call 30; refine (sgn_r HS.out _ (by omega) (by omega)).mono ?_; rintro e w1 ⟨rfl, hS⟩; clear HS; have HS := Aside0.mk hS; obtain ⟨A, c, hc0, hc1, hfz, hr⟩ := hS.c0; clear hS hr; obtain ⟨y0, y1, y2, y3, y4, y5, z0, z1, z2, z3, z4, z5⟩ := res6 HS.out HL.out) | (go_at_call 45; refine (white_r HS.out _).mono ?_; rintro e w1 ⟨rfl, hS⟩; clear HS; have HS := Aside0.mk hS; obtain ⟨A, c, hc0, hc1, hfz, hr⟩ := hS.c0; clear hS hr))
              all_goals
                rw [HP3.out]
                (refine bodyPost_ret (v := tokV (mkT 2 (nameL l).1)) ?_ rfl ⟨rfl, (Rw.far (p := ⟨w.heap.size, 5, none⟩) (Rw.far (p := ⟨w.heap.size, 4, none⟩) (Rw.far (p := ⟨w.heap.size, 3, none⟩) (Rw.far (p := ⟨w.heap.size, 2, none⟩) (Rw.far (p := ⟨w.heap.size, 1, none⟩) (Rw.far (p := ⟨w.heap.size, 0, none⟩) (Rw.trans (H0.out.alloc tokZ) (HS.out.adv HD.out (by have := HDN.out; omega))) HL.out HG.out _) HL.out HG.out _) HL.out HG.out _) HL.out HG.out _) HL.out HG.out _) HL.out HG.out _)⟩; simp [results, Tryd.results54, go_sem, tokV, mkT, y0, y1, y2, y3, y4, y5, hd1, hd2])
          · have HP3 := Aside0.mk (HP2.out.trans (if_neg h4))
            clear HP2
            have b4 := beqF (show ¬ sg t (j : Nat) = 34 by omega)
            have b5 := beqF (show ¬ sg t (j : Nat) = 39 by omega)
            clear h4
            go_wp2_with (first | (go_at_call 30; refine (sgn_r HS.out _ (by omega) (by omega)).mono ?_; rintro e w1 ⟨rfl, hS⟩; clear HS; have HS := Aside0.mk hS; obtain ⟨A, c, hc0, hc1, hfz, hr⟩ := hS.c0; clear hS hr) | (go_at_call 45; refine (white_r HS.out _).mono ?_; rintro e w1 ⟨rfl, hS⟩; clear HS; have HS := Aside0.mk hS; obtain ⟨A, c, hc0, hc1, hfz, hr⟩ := hS.c0; clear hS hr) | (go_at_call 73; refine (url_a HS.out).mono ?_; rintro e w1 ⟨rfl, hS⟩; clear HS; have HS := Aside0.mk hS; obtain ⟨A, c, hc0, hc1, hfz, hr⟩ := hS.c0; clear hS hr; obtain ⟨y0, y1, y2, y3, y4, y5, z0, z1, z2, z3, z4, z5⟩ := res6 HS.out HL.out))
            rw [HP3.out]
            (refine bodyPost_ret (v := tokV ((urlL t).1)) ?_ rfl ⟨rfl, (Rw.far (p := ⟨w.heap.size, 5, none⟩) (Rw.far (p := ⟨w.heap.size, 4, none⟩) (Rw.far (p := ⟨w.heap.size, 3, none⟩) (Rw.far (p := ⟨w.heap.size, 2, none⟩) (Rw.far (p := ⟨w.heap.size, 1, none⟩) (Rw.far (p := ⟨w.heap.size, 0, none⟩) (Rw.trans (H0.out.alloc tokZ) (HS.out)) HL.out HG.out _) HL.out HG.out _) HL.out HG.out _) HL.out HG.out _) HL.out HG.out _) HL.out HG.out _)⟩; simp [results, Tryd.results54, go_sem, tokV, mkT, y0, y1, y2, y3, y4, y5, hd1, hd2])
    · have HP2 := Aside0.mk (HP.out.trans (if_neg h2))
      rw [HP2.out]
      clear HP HP2
      have H2 := str_eqF (l := [117, 114, 108]) h2
      clear h2
      go_enter Tryd.func54, Tryd.ntmps54
      go_wp2_with (first | (go_at_call 30; refine (sgn_r HS.out _ (by omega) (by omega)).mono ?_; rintro e w1 ⟨rfl, hS⟩; clear HS; have HS := Aside0.mk hS; obtain ⟨A, c, hc0, hc1, hfz, hr⟩ := hS.c0; clear hS hr) | (go_at_call 50; refine (name_r HS.out).mono ?_; rintro e w1 ⟨⟨rfl, hz⟩, hS⟩; clear HS; have HS := Aside0.mk hS; obtain ⟨A, c, hc0, hc1, hfz, hr⟩ := hS.c0; clear hS hr) | (go_at_call 25; refine (lower_r (HS.out.tail HN.out (by omega)) _ (by omega)).mono ?_; rintro e w1 ⟨rfl, hS⟩; clear HS; have HS := Aside0.mk hS; obtain ⟨A, c, hc0, hc1, hfz, hr⟩ := hS.c0; clear hS hr; obtain ⟨y0, y1, y2, y3, y4, y5, z0, z1, z2, z3, z4, z5⟩ := res6 HS.out HL.out))
      (refine bodyPost_ret (v := tokV (mkT 2 (nameL l).1)) ?_ rfl ⟨rfl, (Rw.far (p := ⟨w.heap.size, 5, none⟩) (Rw.far (p := ⟨w.heap.size, 4, none⟩) (Rw.far (p := ⟨w.heap.size, 3, none⟩) (Rw.far (p := ⟨w.heap.size, 2, none⟩) (Rw.far (p := ⟨w.heap.size, 1, none⟩) (Rw.far (p := ⟨w.heap.size, 0, none⟩) (Rw.trans (H0.out.alloc tokZ) (HS.out)) HL.out HG.out _) HL.out HG.out _) HL.out HG.out _) HL.out HG.out _) HL.out HG.out _) HL.out HG.out _)⟩; simp [results, Tryd.results54, go_sem, tokV, mkT, y0, y1, y2, y3, y4, y5, hd1, hd2])
  · have b1 : (sg (nameL l).2 0 != 40) = true := by rw [bne_iff_ne]; exact h1
    have HP := Aside0.mk (show idnP l = (mkT 1 (nameL l).1, (nameL l).2) by unfold idnP; rw [if_neg h1])
    rw [HP.out]
    clear h1 HP
    go_enter Tryd.func54, Tryd.ntmps54
    go_wp2_with (first | (go_at_call 30; refine (sgn_r HS.out _ (by omega) (by omega)).mono ?_; rintro e w1 ⟨rfl, hS⟩; clear HS; have HS := Aside0.mk hS; obtain ⟨A, c, hc0, hc1, hfz, hr⟩ := hS.c0; clear hS hr; obtain ⟨y0, y1, y2, y3, y4, y5, z0, z1, z2, z3, z4, z5⟩ := res6 HS.out HL.out) | (go_at_call 50; refine (name_r HS.out).mono ?_; rintro e w1 ⟨⟨rfl, hz⟩, hS⟩; clear HS; have HS := Aside0.mk hS; obtain ⟨A, c, hc0, hc1, hfz, hr⟩ := hS.c0; clear hS hr; obtain ⟨y0, y1, y2, y3, y4, y5, z0, z1, z2, z3, z4, z5⟩ := res6 HS.out HL.out))
    (refine bodyPost_ret (v := tokV (mkT 1 (nameL l).1)) ?_ rfl ⟨rfl, (Rw.far (p := ⟨w.heap.size, 5, none⟩) (Rw.far (p := ⟨w.heap.size, 4, none⟩) (Rw.far (p := ⟨w.heap.size, 3, none⟩) (Rw.far (p := ⟨w.heap.size, 2, none⟩) (Rw.far (p := ⟨w.heap.size, 1, none⟩) (Rw.far (p := ⟨w.heap.size, 0, none⟩) (Rw.trans (H0.out.alloc tokZ) (HS.out)) HL.out HG.out _) HL.out HG.out _) HL.out HG.out _) HL.out HG.out _) HL.out HG.out _) HL.out HG.out _)⟩; simp [results, Tryd.results54, go_sem, tokV, mkT, y0, y1, y2, y3, y4, y5, hd1, hd2])

def decG (n : Int) : List UInt8 → Option Int
  | [] => some n
  | b :: t => if 48 ≤ b.toNat ∧ b.toNat ≤ 57 then decG (mn (n * 10 + ((b.toNat : Int) - 48)) 4294967296) t else none
def intD : List UInt8 → List UInt8
  | [] => []
  | c :: t => if c.toNat = 43 ∨ c.toNat = 45 then t else c :: t
def intM : List UInt8 → Bool
  | [] => false
  | c :: _ => decide (c.toNat = 45)
def intL (l : List UInt8) : Int :=
  if intD l = [] then 0 else
  match decG 0 (intD l) with
  | none => 0
  | some n => if intM l then mx (-n) (-2147483648) else mn n 2147483647
def intP (s : ByteArray) : Int := intL s.data.toList
theorem bt_drop (s : ByteArray) (i : Nat) (b : UInt8) (t : List UInt8) (h : s.data.toList.drop i = b :: t) : i < s.size ∧ bt s (i : Int) = b.toNat ∧ s.data.toList.drop (i + 1) = t := by
  have hl : i < s.data.toList.length := by
    rcases Nat.lt_or_ge i s.data.toList.length with h' | h'
    · exact h'
    · rw [List.drop_eq_nil_of_le h'] at h; cases h
  have hs : i < s.size := by rw [Array.length_toList] at hl; exact hl
  rw [List.drop_eq_getElem_cons hl] at h
  injection h with h1 h2
  refine ⟨hs, ?_, h2⟩
  unfold bt
  rw [dif_pos (show (i : Int).toNat < s.size by simpa using hs)]
  rw [← h1]
  rfl
theorem decG_bound : ∀ (l : List UInt8) (n m : Int), 0 ≤ n → n ≤ 4294967296 → decG n l = some m → 0 ≤ m ∧ m ≤ 4294967296
  | [], n, m, h0, h1, h => by
    unfold decG at h
    injection h with h
    omega
  | b :: t, n, m, h0, h1, h => by
    unfold decG at h
    split at h
    · exact decG_bound t _ m (by unfold mn; split <;> omega) (by unfold mn; split <;> omega) h
    · cases h
theorem int_l0 (s : ByteArray) (hs : s.size ≤ 9223372036854775806) : ∀ (d : List UInt8) (i : Nat) (n : Int) (k : Nat), s.data.toList.drop i = d → i + d.length = s.size → 0 < s.size → 0 ≤ n → n ≤ 4294967296 → d.length < k →
    fleuronref1_Int.l0 k s n i = some (match decG n d with | none => 0 | some m => if bt s 0 = 45 then mx (-m) (-2147483648) else mn m 2147483647)
  | [], i, n, k, hd, hi, h0, hn, hn2, hk => by
    obtain ⟨k, rfl⟩ : ∃ m, k = m + 1 := ⟨k - 1, by omega⟩
    simp only [List.length_nil] at hi
    simp only [fleuronref1_Int.l0, decG]
    rw [if_neg (by omega), if_pos (by omega)]
    have e : wrap64 (-n) = -n := by unfold wrap64; omega
    rw [e]
    split <;> rfl
  | b :: t, i, n, k, hd, hi, h0, hn, hn2, hk => by
    obtain ⟨k, rfl⟩ : ∃ m, k = m + 1 := ⟨k - 1, by omega⟩
    obtain ⟨hlt, hb, ht⟩ := bt_drop s i b t hd
    simp only [List.length_cons] at hi hk
    simp only [fleuronref1_Int.l0]
    rw [if_pos (by omega), if_pos (by omega), hb]
    by_cases h1 : 48 ≤ b.toNat ∧ b.toNat ≤ 57
    · rw [if_neg (by omega), if_neg (by omega)]
      have e1 : wrap64 ((i : Int) + 1) = ((i + 1 : Nat) : Int) := by unfold wrap64; omega
      have e2 : mn (wrap64 ((wrap64 (n * 10)) + (((b.toNat : Int) - 48) % 256))) 4294967296 = mn (n * 10 + ((b.toNat : Int) - 48)) 4294967296 := by
        have : wrap64 ((wrap64 (n * 10)) + (((b.toNat : Int) - 48) % 256)) = n * 10 + ((b.toNat : Int) - 48) := by unfold wrap64; omega
        rw [this]
      rw [e1, e2, int_l0 s hs t (i + 1) _ k ht (by omega) h0 (by unfold mn; split <;> omega) (by unfold mn; split <;> omega) (by omega)]
      conv => rhs; unfold decG
      rw [if_pos h1]
    · unfold decG
      rw [if_neg h1]
      by_cases h2 : b.toNat < 48
      · rw [if_pos (by omega)]
      · rw [if_neg (by omega), if_pos (by omega)]
theorem int_sel (c : UInt8) (t : List UInt8) (m : Int) : some (if (c.toNat : Int) = 45 then mx (-m) (-2147483648) else mn m 2147483647) = some (if intM (c :: t) then mx (-m) (-2147483648) else mn m 2147483647) := by
  by_cases h2 : c.toNat = 45
  · rw [if_pos (by omega), if_pos (by simp [intM, h2])]
  · rw [if_neg (by omega), if_neg (by simp [intM, h2])]
theorem int_f (s : ByteArray) (hs : s.size ≤ 9223372036854775806) : ∃ k, fleuronref1_Int.f k s = some (intP s) := by
  refine ⟨s.size + 5, ?_⟩
  have hsz : s.data.toList.length = s.size := by rw [Array.length_toList]; rfl
  unfold fleuronref1_Int.f intP intL
  cases hl : s.data.toList with
  | nil =>
    rw [hl] at hsz
    have h0 : s.size = 0 := by simpa using hsz.symm
    rw [if_neg (by omega)]
    simp only [fleuronref1_Int.j0, fleuronref1_Int.j1]
    rw [if_neg (by simp), if_pos (by omega)]; rfl
  | cons c t =>
    obtain ⟨hlt, hb, ht⟩ := bt_drop s 0 c t hl
    have hb' : bt s 0 = c.toNat := hb
    rw [hl] at hsz
    simp only [List.length_cons] at hsz
    rw [if_pos (by omega), if_pos (by omega), hb']
    by_cases h1 : c.toNat = 43 ∨ c.toNat = 45
    · have e : intD (c :: t) = t := if_pos h1
      rw [e]
      have hj : (if (c.toNat : Int) = 43 then fleuronref1_Int.j0 (s.size + 5) s 0 true else fleuronref1_Int.j0 (s.size + 5) s 0 ((c.toNat : Int) == 45)) = fleuronref1_Int.j1 (s.size + 4) s 1 := by
        split
        · simp only [fleuronref1_Int.j0, if_true]
        · rw [show ((c.toNat : Int) == 45) = true by rw [beq_iff_eq]; omega]
          simp only [fleuronref1_Int.j0, if_true]
      rw [hj]
      simp only [fleuronref1_Int.j1]
      cases t with
      | nil => rw [if_pos (by simp at hsz; omega), if_pos rfl]
      | cons b u =>
        simp only [List.length_cons] at hsz
        rw [if_neg (by omega), if_neg (by simp)]
        have hq := int_l0 s hs (b :: u) (0 + 1) 0 (s.size + 3) ht (by simp; omega) (by omega) (by omega) (by omega) (by simp; omega)
        rw [hb'] at hq
        refine Eq.trans hq ?_
        cases decG 0 (b :: u) with
        | none => rfl
        | some m =>
          exact int_sel c _ m
    · have e : intD (c :: t) = c :: t := if_neg h1
      rw [e]
      rw [if_neg (by omega), show ((c.toNat : Int) == 45) = false by rw [beq_eq_false_iff_ne]; omega]
      simp only [fleuronref1_Int.j0, fleuronref1_Int.j1]
      rw [if_neg (by simp), if_neg (by omega), if_neg (by simp)]
      have hq := int_l0 s hs (c :: t) 0 0 (s.size + 3) hl (by simp; omega) (by omega) (by omega) (by omega) (by simp; omega)
      rw [hb'] at hq
      refine Eq.trans hq ?_
      cases decG 0 (c :: t) with
      | none => rfl
      | some m =>
        exact int_sel c _ m
theorem int_r {ws w : World} {g : Nat} {r l : List Int} (H : Rw ws w g r l) (s : ByteArray) (hs : s.size ≤ 9223372036854775806) : Calls Tryd.prog 27 #[.string s] w fun e w' => e = .returned (.int .i64 (intP s)) ∧ Rw ws w' g r l := by
  obtain ⟨k, hk⟩ := int_f s hs
  exact (fleuronref1_Int.calls k s _ w hk).mono fun _ _ ⟨e, hd⟩ => ⟨e, H.below hd⟩

def sgB (l : List Int) : Bool := (sg l 0 == 43) || (sg l 0 == 45)
def nA (l : List Int) : ByteArray × List Int := if sgB l then (Utf8.encode (sg l 0), l.tail) else (⟨#[]⟩, l)
def nS (l : List Int) : ByteArray := (nA l).1 ++ (digL (nA l).2).1
def nL1 (l : List Int) : List Int := (digL (nA l).2).2
def dotB (l : List Int) : Bool := (sg l 0 == 46) && digB (sg l 1)
def nF (l : List Int) : Bool × List Int := if dotB l then (false, (digL l.tail).2) else (true, l)
def expB (l : List Int) : Bool := (sg l 0 == 101) || (sg l 0 == 69)
def sgK (l : List Int) : Nat := if sg l 1 = 43 ∨ sg l 1 = 45 then 2 else 1
def nE (wh : Bool) (l : List Int) : Bool × List Int := if expB l && digB (sg l (sgK l : Nat)) then (false, (digL (l.drop (sgK l))).2) else (wh, l)
def nQ (l : List Int) : Bool × List Int := nE (nF (nL1 l)).1 (nF (nL1 l)).2
def nI (l : List Int) : Int := if (nQ l).1 then intP (nS l) else 0
def numT (l : List Int) : S49 × List Int :=
  if nmsB (nQ l).2 0 then (⟨12, (nameL (nQ l).2).1, nI l, (nQ l).1, sgB l, false⟩, (nameL (nQ l).2).2)
  else if sg (nQ l).2 0 = 37 then (⟨11, ⟨#[]⟩, nI l, (nQ l).1, sgB l, false⟩, (nQ l).2.tail)
  else (⟨10, ⟨#[]⟩, nI l, (nQ l).1, sgB l, false⟩, (nQ l).2)
theorem sgB_ne {l : List Int} (h : sgB l = true) : sg l 0 ≠ -1 := by
  intro e
  simp [sgB, e] at h
/-- The reader, and a token's variable in a block that was made later. -/
def Tk (w W : World) (g b : Nat) (r l : List Int) (v0 v1 v2 v3 v4 v5 : Value) : Prop :=
  Rw (w.alloc tokZ) W g r l ∧ W.heap[b]? = some (.cells #[v0, v1, v2, v3, v4, v5] 49 (0, 0)) ∧ g < b ∧ w.heap.size < b
theorem Tk.call {w W W' : World} {g b : Nat} {r l l' : List Int} {v0 v1 v2 v3 v4 v5 : Value} (h : Tk w W g b r l v0 v1 v2 v3 v4 v5) (k : Rw W W' g r l') : Tk w W' g b r l' v0 v1 v2 v3 v4 v5 :=
  ⟨h.1.trans k, k.kept h.2.1 (by have := h.2.2.1; omega), h.2.2⟩
theorem Tk.adv {w W : World} {g b : Nat} {r l l' : List Int} {v0 v1 v2 v3 v4 v5 : Value} (h : Tk w W g b r l v0 v1 v2 v3 v4 v5) (hs : l' <:+ l) {x : Int} (hx : x = (r.length : Int) - l'.length) : Tk w (W.setCell ⟨g, 1, none⟩ (.int .i64 x)) g b r l' v0 v1 v2 v3 v4 v5 :=
  ⟨h.1.adv hs hx, by rw [Below.heap_setCell W ⟨g, 1, none⟩ _ b (by have := h.2.2.1; show b ≠ g; omega)]; exact h.2.1, h.2.2⟩
theorem Tk.set0 {w W : World} {g b : Nat} {r l : List Int} {v0 v1 v2 v3 v4 v5 : Value} (h : Tk w W g b r l v0 v1 v2 v3 v4 v5) (u : Value) : Tk w (W.setCell ⟨b, 0, none⟩ u) g b r l u v1 v2 v3 v4 v5 :=
  ⟨h.1.far h.2.2.1 (by have := h.2.2.2; simp; omega) u, by simpa using blk_set h.2.1 0 u, h.2.2⟩
theorem Tk.set1 {w W : World} {g b : Nat} {r l : List Int} {v0 v1 v2 v3 v4 v5 : Value} (h : Tk w W g b r l v0 v1 v2 v3 v4 v5) (u : Value) : Tk w (W.setCell ⟨b, 1, none⟩ u) g b r l v0 u v2 v3 v4 v5 :=
  ⟨h.1.far h.2.2.1 (by have := h.2.2.2; simp; omega) u, by simpa using blk_set h.2.1 1 u, h.2.2⟩
theorem Tk.set2 {w W : World} {g b : Nat} {r l : List Int} {v0 v1 v2 v3 v4 v5 : Value} (h : Tk w W g b r l v0 v1 v2 v3 v4 v5) (u : Value) : Tk w (W.setCell ⟨b, 2, none⟩ u) g b r l v0 v1 u v3 v4 v5 :=
  ⟨h.1.far h.2.2.1 (by have := h.2.2.2; simp; omega) u, by simpa using blk_set h.2.1 2 u, h.2.2⟩
theorem Tk.new {w W : World} {g : Nat} {r l : List Int} (h : Rw (w.alloc tokZ) W g r l) (v0 v1 v2 v3 v4 v5 : Value) : Tk w (W.alloc (.cells #[v0, v1, v2, v3, v4, v5] 49)) g W.heap.size r l v0 v1 v2 v3 v4 v5 :=
  ⟨h.alloc _, heap_alloc_new W _, h.lt, by have := h.keep.1; simp at this; omega⟩
theorem dotB_ne {l : List Int} (h : dotB l = true) : sg l 0 ≠ -1 := by
  intro e
  simp [dotB, e] at h
theorem drop_len (l : List Int) (k : Nat) (h : sg l (k : Nat) ≠ -1) : ((l.drop k).length : Int) = l.length - k := by
  have hk : k < l.length := by
    rcases Nat.lt_or_ge k l.length with h' | h'
    · exact h'
    · exact absurd (by unfold sg; rw [List.getD_eq_getElem?_getD, List.getElem?_eq_none (by simpa using h')]; rfl) h
  rw [List.length_drop]
  omega
theorem nA_size (l : List Int) : (nA l).1.size ≤ 4 := by
  unfold nA
  split
  · exact encode_le _
  · exact Nat.zero_le _
set_option maxHeartbeats 8000000 in
set_option maxRecDepth 100000 in
theorem number_r {ws w : World} {g : Nat} {r l : List Int} (H : Rw ws w g r l) :
    Calls Tryd.prog 53 #[.pointer (some ⟨g, 0, none⟩)] w fun e w' => e = .returned (tokV (numT l).1) ∧ Rw ws w' g r (numT l).2 := by
  have H0 := Aside0.mk H
  have HS := Aside0.mk (H.alloc tokZ).self
  have HL := Aside0.mk H.lt
  have HG := Aside0.mk H.keep.1
  have hd1 : ¬ w.heap.size = g := by have := H.lt; omega
  have hd2 : ¬ g = w.heap.size := by have := H.lt; omega
  have hsz := H.size
  have hln := H.len
  have hu := Tryd.underlying49
  clear H
  unfold tokZ at HS
  go_enter Tryd.func53, Tryd.ntmps53
  go_upto_region 2 with (fail)
  go_cut [4] (fun v wc => v = .bool (sgB l) ∧ Aside0 (Rw (w.alloc tokZ) wc g r l))
  case first =>
    go_wp2_with (first | (go_at_call 30; refine (sgn_r HS.out _ (by omega) (by omega)).mono ?_; rintro e w1 ⟨rfl, hS⟩; clear HS; have HS := Aside0.mk hS; obtain ⟨A, c, hc0, hc1, hfz, hr⟩ := hS.c0; clear hS hr))
    all_goals
      go_meet
      case rel => exact ⟨congrArg Value.bool (by clear HS; simp [sgB, *]), HS⟩
  case rest =>
    clear HS
    obtain ⟨rfl, HS⟩ := hcut
    go_upto_if 16 with (fail)
    go_cut [3, 4] (fun v u wc => v = .string (nA l).1 ∧ u = .bool (sgB l) ∧ Aside0 (Rw (w.alloc tokZ) wc g r (nA l).2))
    case first =>
      cases hb : sgB l with
      | true =>
        have HB := Aside0.mk hb
        have HA := Aside0.mk (show nA l = (Utf8.encode (sg l 0), l.tail) from if_pos hb)
        have HT : ∀ W, Rw (w.alloc tokZ) W g r l → Rw (w.alloc tokZ) (W.setCell ⟨g, 1, none⟩ (.int .i64 ((r.length : Int) - l.length + 1))) g r l.tail := fun W h => h.tail (sgB_ne hb) rfl
        have HTT := Aside0.mk HT
        clear HT
        go_wp2_with (first | (go_at_call 30; refine (sgn_r HS.out _ (by omega) (by omega)).mono ?_; rintro e w1 ⟨rfl, hS⟩; clear HS; have HS := Aside0.mk hS; obtain ⟨A, c, hc0, hc1, hfz, hr⟩ := hS.c0; clear hS hr) | (go_at_call 44; refine (put_r HS.out _).mono ?_; rintro e w1 ⟨rfl, hS⟩; clear HS; have HS := Aside0.mk hS; obtain ⟨A, c, hc0, hc1, hfz, hr⟩ := hS.c0; clear hS hr))
        go_meet
        case rel => exact ⟨by rw [HA.out], by rw [HB.out], ⟨by rw [HA.out]; exact HTT.out _ HS.out⟩⟩
      | false =>
        have HA := Aside0.mk (show nA l = (⟨#[]⟩, l) from if_neg (by rw [hb]; simp))
        have HB := Aside0.mk hb
        go_wp2
        go_meet
        case rel => exact ⟨by rw [HA.out], by rw [HB.out], ⟨by rw [HA.out]; exact HS.out⟩⟩
    case rest =>
      clear HS
      obtain ⟨rfl, rfl, HS⟩ := hcut
      have hnA := nA_size l
      go_upto_region 8 with (first | (go_at_call 72; refine (digits_r HS.out).mono ?_; rintro e w1 ⟨⟨rfl, hz⟩, hS⟩; clear HS; have HS := Aside0.mk hS; obtain ⟨A, c, hc0, hc1, hfz, hr⟩ := hS.c0; clear hS hr))
      replace HS : Aside0 (Rw (w.alloc tokZ) w1 g r (nL1 l)) := HS
      have HZ := Aside0.mk (show (nS l).size ≤ 4 + 4 * r.length by unfold nS; rw [size_app]; omega)
      go_cut [38] (fun v wc => v = .bool (dotB (nL1 l)) ∧ Aside0 (Rw (w.alloc tokZ) wc g r (nL1 l)))
      case first =>
        go_wp2_with (first | (go_at_call 30; refine (sgn_r HS.out _ (by omega) (by omega)).mono ?_; rintro e w1 ⟨rfl, hS⟩; clear HS; have HS := Aside0.mk hS; obtain ⟨A, c, hc0, hc1, hfz, hr⟩ := hS.c0; clear hS hr) | (go_at_call 51; refine (digit_r HS.out _).mono ?_; rintro e w1 ⟨rfl, hS⟩; clear HS; have HS := Aside0.mk hS; obtain ⟨A, c, hc0, hc1, hfz, hr⟩ := hS.c0; clear hS hr))
        all_goals
          go_meet
          case rel => exact ⟨congrArg Value.bool (by clear HS; simp [dotB, *]), HS⟩
      case rest =>
        clear HS
        obtain ⟨rfl, HS⟩ := hcut
        have hl1 := HS.out.len
        go_upto_if 38 with (fail)
        go_cut [5, 38] (fun v u wc => v = .bool (nF (nL1 l)).1 ∧ Aside0 (Rw (w.alloc tokZ) wc g r (nF (nL1 l)).2))
        case first =>
          cases hb : dotB (nL1 l) with
          | true =>
            have HA := Aside0.mk (show nF (nL1 l) = (false, (digL (nL1 l).tail).2) from if_pos hb)
            have HN := Aside0.mk (dotB_ne hb)
            obtain ⟨A, c, hc0, hc1, hfz, hr⟩ := HS.out.c0
            go_wp2_with (first | (go_at_call 72; refine (digits_r (HS.out.tail HN.out rfl)).mono ?_; rintro e w1 ⟨⟨rfl, hz⟩, hS⟩; clear HS; have HS := Aside0.mk hS; obtain ⟨A, c, hc0, hc1, hfz, hr⟩ := hS.c0; clear hS hr))
            go_meet
            case rel => exact ⟨by rw [HA.out], ⟨by rw [HA.out]; exact HS.out⟩⟩
          | false =>
            have HA := Aside0.mk (show nF (nL1 l) = (true, nL1 l) from if_neg (by rw [hb]; simp))
            go_wp2
            go_meet
            case rel => exact ⟨by rw [HA.out], ⟨by rw [HA.out]; exact HS.out⟩⟩
        case rest =>
          clear HS
          obtain ⟨rfl, HS⟩ := hcut
          obtain ⟨wh, hwh⟩ : ∃ b, (nF (nL1 l)).1 = b := ⟨_, rfl⟩
          obtain ⟨l2, hl2⟩ : ∃ m, (nF (nL1 l)).2 = m := ⟨_, rfl⟩
          rw [hl2] at HS
          rw [hwh]
          have HWH := Aside0.mk hwh
          have HL2 := Aside0.mk hl2
          clear hwh hl2
          have hll2 := HS.out.len
          go_upto_region 12 with (fail)
          go_cut [55] (fun v wc => v = .bool (expB l2) ∧ Aside0 (Rw (w.alloc tokZ) wc g r l2))
          case first =>
            go_wp2_with (first | (go_at_call 30; refine (sgn_r HS.out _ (by omega) (by omega)).mono ?_; rintro e w1 ⟨rfl, hS⟩; clear HS; have HS := Aside0.mk hS; obtain ⟨A, c, hc0, hc1, hfz, hr⟩ := hS.c0; clear hS hr))
            all_goals
              go_meet
              case rel => exact ⟨congrArg Value.bool (by clear HS; simp [expB, *]), HS⟩
          case rest =>
            clear HS
            obtain ⟨rfl, HS⟩ := hcut
            go_upto_if 55 with (fail)
            go_cut [5, 6, 55] (fun v u z wc => v = .bool (nE wh l2).1 ∧ Aside0 (Rw (w.alloc tokZ) wc g r (nE wh l2).2))
            case first =>
              cases hb : expB l2 with
              | false =>
                have HA := Aside0.mk (show nE wh l2 = (wh, l2) from if_neg (by rw [hb]; simp))
                go_wp2
                go_meet
                case rel => exact ⟨by rw [HA.out], ⟨by rw [HA.out]; exact HS.out⟩⟩
              | true =>
                have HB := Aside0.mk hb
                clear hb
                cases hk : ((sg l2 1 == 43) || (sg l2 1 == 45)) with
                | true =>
                  have HK := Aside0.mk (show sgK l2 = 2 from if_pos (by simpa using hk))
                  have hk2 : (sg l2 1 == 43) = true ∨ ((sg l2 1 == 43) = false ∧ (sg l2 1 == 45) = true) := by
                    cases h : (sg l2 1 == 43) with
                    | true => exact .inl rfl
                    | false => rw [h] at hk; exact .inr ⟨rfl, by simpa using hk⟩
                  clear hk
                  cases hd : digB (sg l2 2) with
                  | true =>
                    have HA := Aside0.mk (show nE wh l2 = (false, (digL (l2.drop 2)).2) by unfold nE; rw [HB.out, HK.out]; exact if_pos (by rw [show ((2 : Nat) : Int) = 2 from rfl, hd]; rfl))
                    have HDL := Aside0.mk (drop_len l2 2 (by intro e; exact digB_ne hd e))
                    have HD := Aside0.mk (List.drop_suffix 2 l2)
                    rcases hk2 with h1 | ⟨h1, h2⟩
                    all_goals
                      go_wp2_with (first | (go_at_call 30; refine (sgn_r HS.out _ (by omega) (by omega)).mono ?_; rintro e w1 ⟨rfl, hS⟩; clear HS; have HS := Aside0.mk hS; obtain ⟨A, c, hc0, hc1, hfz, hr⟩ := hS.c0; clear hS hr) | (go_at_call 51; refine (digit_r HS.out _).mono ?_; rintro e w1 ⟨rfl, hS⟩; clear HS; have HS := Aside0.mk hS; obtain ⟨A, c, hc0, hc1, hfz, hr⟩ := hS.c0; clear hS hr) | (go_at_call 72; refine (digits_r (HS.out.adv HD.out (by have := HDL.out; omega))).mono ?_; rintro e w1 ⟨⟨rfl, hz⟩, hS⟩; clear HS; have HS := Aside0.mk hS; obtain ⟨A, c, hc0, hc1, hfz, hr⟩ := hS.c0; clear hS hr))
                      go_meet
                      case rel => exact ⟨by rw [HA.out], ⟨by rw [HA.out]; exact HS.out⟩⟩
                  | false =>
                    have HA := Aside0.mk (show nE wh l2 = (wh, l2) by unfold nE; rw [HB.out, HK.out]; exact if_neg (by rw [show ((2 : Nat) : Int) = 2 from rfl, hd]; simp))
                    rcases hk2 with h1 | ⟨h1, h2⟩
                    all_goals
                      go_wp2_with (first | (go_at_call 30; refine (sgn_r HS.out _ (by omega) (by omega)).mono ?_; rintro e w1 ⟨rfl, hS⟩; clear HS; have HS := Aside0.mk hS; obtain ⟨A, c, hc0, hc1, hfz, hr⟩ := hS.c0; clear hS hr) | (go_at_call 51; refine (digit_r HS.out _).mono ?_; rintro e w1 ⟨rfl, hS⟩; clear HS; have HS := Aside0.mk hS; obtain ⟨A, c, hc0, hc1, hfz, hr⟩ := hS.c0; clear hS hr))
                      go_meet
                      case rel => exact ⟨by rw [HA.out], ⟨by rw [HA.out]; exact HS.out⟩⟩
                | false =>
                  have HK := Aside0.mk (show sgK l2 = 1 from if_neg (by simpa using hk))
                  have h1 : (sg l2 1 == 43) = false := by cases h : (sg l2 1 == 43) with
                    | true => rw [h] at hk; cases hk
                    | false => rfl
                  have h2 : (sg l2 1 == 45) = false := by rw [h1] at hk; simpa using hk
                  clear hk
                  cases hd : digB (sg l2 1) with
                  | true =>
                    have HA := Aside0.mk (show nE wh l2 = (false, (digL (l2.drop 1)).2) by unfold nE; rw [HB.out, HK.out]; exact if_pos (by rw [show ((1 : Nat) : Int) = 1 from rfl, hd]; rfl))
                    have HDL := Aside0.mk (drop_len l2 1 (by intro e; exact digB_ne hd e))
                    have HD := Aside0.mk (List.drop_suffix 1 l2)
                    go_wp2_with (first | (go_at_call 30; refine (sgn_r HS.out _ (by omega) (by omega)).mono ?_; rintro e w1 ⟨rfl, hS⟩; clear HS; have HS := Aside0.mk hS; obtain ⟨A, c, hc0, hc1, hfz, hr⟩ := hS.c0; clear hS hr) | (go_at_call 51; refine (digit_r HS.out _).mono ?_; rintro e w1 ⟨rfl, hS⟩; clear HS; have HS := Aside0.mk hS; obtain ⟨A, c, hc0, hc1, hfz, hr⟩ := hS.c0; clear hS hr) | (go_at_call 72; refine (digits_r (HS.out.adv HD.out (by have := HDL.out; omega))).mono ?_; rintro e w1 ⟨⟨rfl, hz⟩, hS⟩; clear HS; have HS := Aside0.mk hS; obtain ⟨A, c, hc0, hc1, hfz, hr⟩ := hS.c0; clear hS hr))
                    go_meet
                    case rel => exact ⟨by rw [HA.out], ⟨by rw [HA.out]; exact HS.out⟩⟩
                  | false =>
                    have HA := Aside0.mk (show nE wh l2 = (wh, l2) by unfold nE; rw [HB.out, HK.out]; exact if_neg (by rw [show ((1 : Nat) : Int) = 1 from rfl, hd]; simp))
                    go_wp2_with (first | (go_at_call 30; refine (sgn_r HS.out _ (by omega) (by omega)).mono ?_; rintro e w1 ⟨rfl, hS⟩; clear HS; have HS := Aside0.mk hS; obtain ⟨A, c, hc0, hc1, hfz, hr⟩ := hS.c0; clear hS hr) | (go_at_call 51; refine (digit_r HS.out _).mono ?_; rintro e w1 ⟨rfl, hS⟩; clear HS; have HS := Aside0.mk hS; obtain ⟨A, c, hc0, hc1, hfz, hr⟩ := hS.c0; clear hS hr))
                    go_meet
                    case rel => exact ⟨by rw [HA.out], ⟨by rw [HA.out]; exact HS.out⟩⟩
            case rest =>
              clear HS
              obtain ⟨rfl, HS⟩ := hcut
              have hq1 : (nE wh l2).1 = (nQ l).1 := by unfold nQ; rw [HWH.out, HL2.out]
              have hq2 : (nE wh l2).2 = (nQ l).2 := by unfold nQ; rw [HWH.out, HL2.out]
              rw [hq1]
              rw [hq2] at HS
              clear hq1 hq2 HWH HL2 hl1 hnA hz
              have hl3 := HS.out.len
              go_upto_if 82 with (fail)
              have HT := Aside0.mk (Tk.new HS.out (.int .i64 10) (.string ⟨#[]⟩) (.int .i64 0) (.bool (nQ l).1) (.bool (sgB l)) (.bool false))
              clear HS
              obtain ⟨bb, hbb⟩ : ∃ n, wc.heap.size = n := ⟨_, rfl⟩
              rw [hbb] at HT
              rw [hbb]
              generalize wc.alloc (.cells #[.int .i64 10, .string ⟨#[]⟩, .int .i64 0, .bool (nQ l).1, .bool (sgB l), .bool false] 49) = wM at HT ⊢
              go_cut [5, 82] (fun u v wN => u = .bool (nQ l).1 ∧ Aside0 (Tk w wN g bb r (nQ l).2 (.int .i64 10) (.string ⟨#[]⟩) (.int .i64 (nI l)) (.bool (nQ l).1) (.bool (sgB l)) (.bool false)))
              case first =>
                cases hw : (nQ l).1 with
                | true =>
                  have HI := Aside0.mk (show nI l = intP (nS l) from if_pos hw)
                  have HW := Aside0.mk hw
                  have hz := HZ.out
                  unfold nS at hz
                  go_wp2_with (first | (go_at_call 27; refine (int_r HT.out.1.self _ (by omega)).mono ?_; rintro e w1 ⟨rfl, hS⟩; have hT := Tk.call HT.out hS; clear HT; have HT := Aside0.mk hT; obtain ⟨A, c, hc0, hc1, hfz, hr⟩ := hT.1.c0; obtain ⟨⟨x0, x1, x2, x3, x4, x5⟩, q0, q1, q2, q3, q4, q5⟩ := blk6 hT.2.1; obtain ⟨y0, y1, y2, y3, y4, y5, z0, z1, z2, z3, z4, z5⟩ := res6 hT.1 HL.out; have hg1 := hT.1.lt; clear hS hT hr))
                  go_meet
                  case rel => exact ⟨by rw [HW.out], ⟨by rw [HI.out]; exact Tk.set2 HT.out _⟩⟩
                | false =>
                  have HI := Aside0.mk (show nI l = 0 from if_neg (by rw [hw]; simp))
                  have HW := Aside0.mk hw
                  go_wp2
                  go_meet
                  case rel => exact ⟨by rw [HW.out], ⟨by rw [HI.out]; exact HT.out⟩⟩
              case rest =>
                clear HT
                obtain ⟨rfl, HT⟩ := hcut
                have hgb := HT.out.2.2.1
                have hwb := HT.out.2.2.2
                have hd3 : ¬ bb = g := by omega
                have hd4 : ¬ g = bb := by omega
                have hd5 : ¬ bb = w.heap.size := by omega
                have hd6 : ¬ w.heap.size = bb := by omega
                have hnl : numT l = if nmsB (nQ l).2 0 then (⟨12, (nameL (nQ l).2).1, nI l, (nQ l).1, sgB l, false⟩, (nameL (nQ l).2).2)
                  else if sg (nQ l).2 0 = 37 then (⟨11, ⟨#[]⟩, nI l, (nQ l).1, sgB l, false⟩, (nQ l).2.tail)
                  else (⟨10, ⟨#[]⟩, nI l, (nQ l).1, sgB l, false⟩, (nQ l).2) := rfl
                have HNL := Aside0.mk hnl
                clear hnl
                obtain ⟨x0, x1, x2, x3, x4, x5⟩ := (blk6 HT.out.2.1).1
                obtain ⟨A, c, hc0, hc1, hfz, hr⟩ := HT.out.1.c0
                clear hr
                cases h1 : nmsB (nQ l).2 0 with
                | true =>
                  have HQ := Aside0.mk (HNL.out.trans (if_pos h1))
                  clear HNL
                  go_wp2_with (first | (go_at_call 49; refine (names_r HT.out.1.self _ (by omega) (by omega)).mono ?_; rintro e w1 ⟨rfl, hS⟩; have hT := Tk.call HT.out hS; clear HT; have HT := Aside0.mk hT; obtain ⟨A, c, hc0, hc1, hfz, hr⟩ := hT.1.c0; obtain ⟨⟨x0, x1, x2, x3, x4, x5⟩, q0, q1, q2, q3, q4, q5⟩ := blk6 hT.2.1; obtain ⟨y0, y1, y2, y3, y4, y5, z0, z1, z2, z3, z4, z5⟩ := res6 hT.1 HL.out; have hg1 := hT.1.lt; clear hS hT hr))
                  have HT2 := Aside0.mk (Tk.set0 HT.out (.int .i64 12))
                  refine (name_r HT2.out.1.self).mono ?_
                  rintro e w2 ⟨⟨rfl, hz2⟩, hS⟩
                  have hT := Tk.call HT2.out hS
                  clear HT HT2 x0 x1 x2 x3 x4 x5 hc0 hc1 hfz y0 y1 y2 y3 y4 y5 z0 z1 z2 z3 z4 z5 q0 q1 q2 q3 q4 q5
                  have HT := Aside0.mk hT
                  obtain ⟨⟨x0, x1, x2, x3, x4, x5⟩, q0, q1, q2, q3, q4, q5⟩ := blk6 hT.2.1
                  obtain ⟨y0, y1, y2, y3, y4, y5, z0, z1, z2, z3, z4, z5⟩ := res6 hT.1 HL.out
                  clear hS hT
                  go_wp2
                  rw [HQ.out]
                  (refine bodyPost_ret (v := tokV (⟨12, (nameL (nQ l).2).1, nI l, (nQ l).1, sgB l, false⟩)) ?_ rfl ⟨rfl, ((Rw.far (p := ⟨w.heap.size, 5, none⟩) (Rw.far (p := ⟨w.heap.size, 4, none⟩) (Rw.far (p := ⟨w.heap.size, 3, none⟩) (Rw.far (p := ⟨w.heap.size, 2, none⟩) (Rw.far (p := ⟨w.heap.size, 1, none⟩) (Rw.far (p := ⟨w.heap.size, 0, none⟩) (Rw.trans (H0.out.alloc tokZ) ((Tk.set1 HT.out _).1)) HL.out HG.out _) HL.out HG.out _) HL.out HG.out _) HL.out HG.out _) HL.out HG.out _) HL.out HG.out _))⟩; simp [results, Tryd.results53, go_sem, tokV, mkT, y0, y1, y2, y3, y4, y5, hd1, hd2, hd3, hd4, hd5, hd6, x0, x1, x2, x3, x4, x5])
                | false =>
                  have HNL2 := Aside0.mk (HNL.out.trans (if_neg (by rw [h1]; simp)))
                  clear HNL
                  cases h2 : (sg (nQ l).2 0 == 37) with
                  | true =>
                    have HQ := Aside0.mk (HNL2.out.trans (if_pos (by simpa using h2)))
                    have HN := Aside0.mk (show sg (nQ l).2 0 ≠ -1 by have := eq_of_beq h2; omega)
                    clear HNL2
                    go_wp2_with (first | (go_at_call 49; refine (names_r HT.out.1.self _ (by omega) (by omega)).mono ?_; rintro e w1 ⟨rfl, hS⟩; have hT := Tk.call HT.out hS; clear HT; have HT := Aside0.mk hT; obtain ⟨A, c, hc0, hc1, hfz, hr⟩ := hT.1.c0; obtain ⟨⟨x0, x1, x2, x3, x4, x5⟩, q0, q1, q2, q3, q4, q5⟩ := blk6 hT.2.1; obtain ⟨y0, y1, y2, y3, y4, y5, z0, z1, z2, z3, z4, z5⟩ := res6 hT.1 HL.out; have hg1 := hT.1.lt; clear hS hT hr) | (go_at_call 30; refine (sgn_r HT.out.1.self _ (by omega) (by omega)).mono ?_; rintro e w1 ⟨rfl, hS⟩; have hT := Tk.call HT.out hS; clear HT; have HT := Aside0.mk hT; obtain ⟨A, c, hc0, hc1, hfz, hr⟩ := hT.1.c0; obtain ⟨⟨x0, x1, x2, x3, x4, x5⟩, q0, q1, q2, q3, q4, q5⟩ := blk6 hT.2.1; obtain ⟨y0, y1, y2, y3, y4, y5, z0, z1, z2, z3, z4, z5⟩ := res6 hT.1 HL.out; have hg1 := hT.1.lt; clear hS hT hr))
                    rw [HQ.out]
                    have HT3 := Aside0.mk (Tk.set0 (Tk.adv HT.out (List.tail_suffix (nQ l).2) (x := (r.length : Int) - (nQ l).2.length + 1) (by have := sg_len HN.out; omega)) (.int .i64 11))
                    (refine bodyPost_ret (v := tokV (⟨11, ⟨#[]⟩, nI l, (nQ l).1, sgB l, false⟩)) ?_ rfl ⟨rfl, ((Rw.far (p := ⟨w.heap.size, 5, none⟩) (Rw.far (p := ⟨w.heap.size, 4, none⟩) (Rw.far (p := ⟨w.heap.size, 3, none⟩) (Rw.far (p := ⟨w.heap.size, 2, none⟩) (Rw.far (p := ⟨w.heap.size, 1, none⟩) (Rw.far (p := ⟨w.heap.size, 0, none⟩) (Rw.trans (H0.out.alloc tokZ) (HT3.out.1)) HL.out HG.out _) HL.out HG.out _) HL.out HG.out _) HL.out HG.out _) HL.out HG.out _) HL.out HG.out _))⟩; simp [results, Tryd.results53, go_sem, tokV, mkT, y0, y1, y2, y3, y4, y5, hd1, hd2, hd3, hd4, hd5, hd6, x0, x1, x2, x3, x4, x5])
                  | false =>
                    have HQ := Aside0.mk (HNL2.out.trans (if_neg (by simpa using h2)))
                    clear HNL2
                    go_wp2_with (first | (go_at_call 49; refine (names_r HT.out.1.self _ (by omega) (by omega)).mono ?_; rintro e w1 ⟨rfl, hS⟩; have hT := Tk.call HT.out hS; clear HT; have HT := Aside0.mk hT; obtain ⟨A, c, hc0, hc1, hfz, hr⟩ := hT.1.c0; obtain ⟨⟨x0, x1, x2, x3, x4, x5⟩, q0, q1, q2, q3, q4, q5⟩ := blk6 hT.2.1; obtain ⟨y0, y1, y2, y3, y4, y5, z0, z1, z2, z3, z4, z5⟩ := res6 hT.1 HL.out; have hg1 := hT.1.lt; clear hS hT hr) | (go_at_call 30; refine (sgn_r HT.out.1.self _ (by omega) (by omega)).mono ?_; rintro e w1 ⟨rfl, hS⟩; have hT := Tk.call HT.out hS; clear HT; have HT := Aside0.mk hT; obtain ⟨A, c, hc0, hc1, hfz, hr⟩ := hT.1.c0; obtain ⟨⟨x0, x1, x2, x3, x4, x5⟩, q0, q1, q2, q3, q4, q5⟩ := blk6 hT.2.1; obtain ⟨y0, y1, y2, y3, y4, y5, z0, z1, z2, z3, z4, z5⟩ := res6 hT.1 HL.out; have hg1 := hT.1.lt; clear hS hT hr))
                    rw [HQ.out]
                    (refine bodyPost_ret (v := tokV (⟨10, ⟨#[]⟩, nI l, (nQ l).1, sgB l, false⟩)) ?_ rfl ⟨rfl, ((Rw.far (p := ⟨w.heap.size, 5, none⟩) (Rw.far (p := ⟨w.heap.size, 4, none⟩) (Rw.far (p := ⟨w.heap.size, 3, none⟩) (Rw.far (p := ⟨w.heap.size, 2, none⟩) (Rw.far (p := ⟨w.heap.size, 1, none⟩) (Rw.far (p := ⟨w.heap.size, 0, none⟩) (Rw.trans (H0.out.alloc tokZ) (HT.out.1)) HL.out HG.out _) HL.out HG.out _) HL.out HG.out _) HL.out HG.out _) HL.out HG.out _) HL.out HG.out _))⟩; simp [results, Tryd.results53, go_sem, tokV, mkT, y0, y1, y2, y3, y4, y5, hd1, hd2, hd3, hd4, hd5, hd6, x0, x1, x2, x3, x4, x5])

theorem number_a {ws w : World} {g : Nat} {r l : List Int} (H : Rw ws w g r l) :
    Calls Tryd.prog 53 #[.pointer (some ⟨g, 0, none⟩)] w fun e w' => e = .returned (.agg #[.int .i64 (numT l).1.f0, .string (numT l).1.f1, .int .i64 (numT l).1.f2, .bool (numT l).1.f3, .bool (numT l).1.f4, .bool (numT l).1.f5]) ∧ Rw ws w' g r (numT l).2 := number_r H
theorem ident_a {ws w : World} {g : Nat} {r l : List Int} (H : Rw ws w g r l) :
    Calls Tryd.prog 54 #[.pointer (some ⟨g, 0, none⟩)] w fun e w' => e = .returned (.agg #[.int .i64 (idnP l).1.f0, .string (idnP l).1.f1, .int .i64 (idnP l).1.f2, .bool (idnP l).1.f3, .bool (idnP l).1.f4, .bool (idnP l).1.f5]) ∧ Rw ws w' g r (idnP l).2 := ident_r H
def tabP : List Int := [40, 91, 123, 41, 93, 125, 44, 58, 59]
def tabK : List Int := [19, 19, 19, 20, 20, 20, 18, 16, 17]
def plainK (c : Int) : Int := if c = 40 ∨ c = 91 ∨ c = 123 then 19 else if c = 41 ∨ c = 93 ∨ c = 125 then 20 else if c = 44 then 18 else if c = 58 then 16 else if c = 59 then 17 else 0
def plainS (c : Int) : ByteArray := if c = 44 ∨ c = 58 ∨ c = 59 then ⟨#[]⟩ else Utf8.encode c
def hashB (l : List Int) : Bool := (sg l 0 == 35) && (namB (sg l 1) || escB l 1)
def numsB (l : List Int) : Bool := ((sg l 0 == 43) || (sg l 0 == 45) || (sg l 0 == 46) || digB (sg l 0)) && numB l
def cdcB (l : List Int) : Bool := (sg l 0 == 45) && (sg l 1 == 45) && (sg l 2 == 62)
def cdoB (l : List Int) : Bool := (sg l 0 == 60) && (sg l 1 == 33) && (sg l 2 == 45) && (sg l 3 == 45)
def atB (l : List Int) : Bool := (sg l 0 == 64) && nmsB l 1
def tokP (l : List Int) : S49 × List Int :=
  if plainK (sg l 0) ≠ 0 then (mkT (plainK (sg l 0)) (plainS (sg l 0)), l.tail)
  else if whiB (sg l 0) then (mkT 13 ⟨#[]⟩, skipW l)
  else if sg l 0 = 34 ∨ sg l 0 = 39 then quoL (sg l 0) l.tail
  else if hashB l then (⟨4, (nameL l.tail).1, 0, false, false, nmsB l.tail 0⟩, (nameL l.tail).2)
  else if numsB l then numT l
  else if cdcB l then (mkT 15 ⟨#[]⟩, l.drop 3)
  else if cdoB l then (mkT 14 ⟨#[]⟩, l.drop 4)
  else if atB l then (mkT 3 (nameL l.tail).1, (nameL l.tail).2)
  else if nmsB l 0 then idnP l
  else (mkT 9 (Utf8.encode (sg l 0)), l.tail)
theorem tab_in (c : Int) (j : Nat) (hj : j < 9) (h : tabP.getD j 0 = c) : plainK c = tabK.getD j 0 ∧ plainK c ≠ 0 ∧ plainS c = if j < 6 then Utf8.encode c else ⟨#[]⟩ := by
  subst h
  match j, hj with
  | 0, _ => exact ⟨rfl, by decide, rfl⟩
  | 1, _ => exact ⟨rfl, by decide, rfl⟩
  | 2, _ => exact ⟨rfl, by decide, rfl⟩
  | 3, _ => exact ⟨rfl, by decide, rfl⟩
  | 4, _ => exact ⟨rfl, by decide, rfl⟩
  | 5, _ => exact ⟨rfl, by decide, rfl⟩
  | 6, _ => exact ⟨rfl, by decide, rfl⟩
  | 7, _ => exact ⟨rfl, by decide, rfl⟩
  | 8, _ => exact ⟨rfl, by decide, rfl⟩
theorem tab_out (c : Int) (h : ∀ j, j < 9 → tabP.getD j 0 ≠ c) : plainK c = 0 := by
  have h0 := h 0 (by omega); have h1 := h 1 (by omega); have h2 := h 2 (by omega); have h3 := h 3 (by omega); have h4 := h 4 (by omega)
  have h5 := h 5 (by omega); have h6 := h 6 (by omega); have h7 := h 7 (by omega); have h8 := h 8 (by omega)
  simp [tabP] at h0 h1 h2 h3 h4 h5 h6 h7 h8
  unfold plainK
  rw [if_neg (by omega), if_neg (by omega), if_neg (by omega), if_neg (by omega), if_neg (by omega)]

theorem row9 {w : World} {b : Nat} {k : IntKind} {t : TypeId} {xs : List Int} (h : w.heap[b]? = some (.cells (xs.map (Value.int k)).toArray t (0, 0))) (j : Nat) (hj : j < xs.length) : w.cell? ⟨b, j, none⟩ = some (.int k (xs.getD j 0)) := by
  rw [blk_cell h j]
  simp [List.getD_eq_getElem?_getD, List.getElem?_eq_getElem hj]
def quoB (c : Int) : Bool := (c == 34) || (c == 39)
theorem sg_lt {l : List Int} {k : Nat} (h : sg l (k : Nat) ≠ -1) : k < l.length := by
  rcases Nat.lt_or_ge k l.length with h' | h'
  · exact h'
  · exact absurd (by unfold sg; rw [List.getD_eq_getElem?_getD, List.getElem?_eq_none (by simpa using h')]; rfl) h
theorem cdcB_len {l : List Int} (h : cdcB l = true) : 3 ≤ l.length := by
  simp [cdcB] at h
  exact sg_lt (l := l) (k := 2) (by rw [show ((2 : Nat) : Int) = 2 from rfl, h.2]; decide)
theorem cdoB_len {l : List Int} (h : cdoB l = true) : 4 ≤ l.length := by
  simp [cdoB] at h
  exact sg_lt (l := l) (k := 3) (by rw [show ((3 : Nat) : Int) = 3 from rfl, h.2]; decide)
theorem drop_len3 {l : List Int} {k : Nat} (h : k ≤ l.length) : ((l.drop k).length : Int) = l.length - k := by
  rw [List.length_drop]
  omega

def comP : Nat → List Int → List Int   -- behind the /* : up to the end of the comment
  | 0, l => l
  | n + 1, l => if sg l 0 < 0 then l else if sg l 0 = 42 ∧ sg l 1 = 47 then l else comP n l.tail
def comB (l : List Int) : Bool := (sg l 0 == 47) && (sg l 1 == 42)
def comO (l : List Int) : List Int := (comP l.length (l.drop 2)).drop 2
def comL : Nat → List Int → List Int
  | 0, l => l
  | n + 1, l => if comB l then comL n (comO l) else l
def tokF : Nat → List Int → List S49
  | 0, _ => []
  | n + 1, l => if sg (comL l.length l) 0 < 0 then [] else (tokP (comL l.length l)).1 :: tokF n (tokP (comL l.length l)).2
def tokens (l : List Int) : List S49 := tokF (l.length + 1) l
theorem comP_suf : ∀ (n : Nat) (l : List Int), comP n l <:+ l
  | 0, l => List.suffix_refl l
  | n + 1, l => by
    unfold comP
    split
    · exact List.suffix_refl l
    · split
      · exact List.suffix_refl l
      · exact (comP_suf n _).trans (List.tail_suffix l)
theorem comP_end (n : Nat) {l : List Int} (h : sg l 0 < 0 ∨ (sg l 0 = 42 ∧ sg l 1 = 47)) : comP n l = l := by
  cases n with
  | zero => rfl
  | succ n =>
    unfold comP
    rcases h with h | h
    · rw [if_pos h]
    · rw [if_neg (by omega), if_pos h]
theorem comP_go (n : Nat) {l : List Int} (h : ¬ sg l 0 < 0) (h1 : ¬ (sg l 0 = 42 ∧ sg l 1 = 47)) : comP (n + 1) l = comP n l.tail := by
  conv => lhs; unfold comP
  rw [if_neg h, if_neg h1]
theorem comO_suf (l : List Int) : comO l <:+ l := (List.drop_suffix _ _).trans ((comP_suf _ _).trans (List.drop_suffix _ _))
theorem comB_len {l : List Int} (h : comB l = true) : 2 ≤ l.length := by
  simp [comB] at h
  exact sg_lt (l := l) (k := 1) (by rw [show ((1 : Nat) : Int) = 1 from rfl, h.2]; decide)
theorem comO_lt {l : List Int} (h : comB l = true) : (comO l).length < l.length := by
  have h2 := comB_len h
  have h1 := (comP_suf l.length (l.drop 2)).length_le
  unfold comO
  rw [List.length_drop] at *
  omega
theorem comL_suf : ∀ (n : Nat) (l : List Int), comL n l <:+ l
  | 0, l => List.suffix_refl l
  | n + 1, l => by
    unfold comL
    split
    · exact (comL_suf n _).trans (comO_suf l)
    · exact List.suffix_refl l
theorem comL_no (n : Nat) {l : List Int} (h : comB l = false) : comL n l = l := by
  cases n with
  | zero => rfl
  | succ n => unfold comL; rw [h]; rfl
theorem comL_yes (n : Nat) {l : List Int} (h : comB l = true) : comL (n + 1) l = comL n (comO l) := by
  conv => lhs; unfold comL
  rw [h]; rfl

theorem quoP_suf (q : Int) : ∀ (n : Nat) (s : ByteArray) (l : List Int), (quoP q n s l).2 <:+ l
  | 0, _, l => List.suffix_refl l
  | n + 1, s, l => by
    unfold quoP
    split
    · exact List.suffix_refl l
    · split
      · exact List.tail_suffix l
      · split
        · exact List.suffix_refl l
        · split
          · split
            · exact (quoP_suf q n _ _).trans (List.tail_suffix l)
            · split
              · exact (quoP_suf q n _ _).trans ((List.tail_suffix _).trans (List.tail_suffix l))
              · exact (quoP_suf q n _ _).trans ((escP_suf _).trans (List.tail_suffix l))
          · exact (quoP_suf q n _ _).trans (List.tail_suffix l)
theorem urlP_suf : ∀ (n : Nat) (s : ByteArray) (l : List Int), (urlP n s l).2 <:+ l
  | 0, _, l => List.suffix_refl l
  | n + 1, s, l => by
    unfold urlP
    split
    · exact List.suffix_refl l
    · split
      · exact List.tail_suffix l
      · split
        · split
          · exact (urlP_suf n _ _).trans (skipW_suf l)
          · exact (badL_suf _).trans (skipW_suf l)
        · split
          · exact badL_suf l
          · split
            · split
              · exact (urlP_suf n _ _).trans ((escP_suf _).trans (List.tail_suffix l))
              · exact badL_suf l
            · exact (urlP_suf n _ _).trans (List.tail_suffix l)
theorem urlL_suf (l : List Int) : (urlL l).2 <:+ l := (urlP_suf _ _ _).trans (skipW_suf l)
theorem nameL_suf (l : List Int) : (nameL l).2 <:+ l := nameP_suf _ _ _
theorem digL_suf (l : List Int) : (digL l).2 <:+ l := digP_suf _ _
theorem nameL_lt {l : List Int} (h : namB (sg l 0) = true ∨ escB l 0 = true) : (nameL l).2.length < l.length := by
  unfold nameL
  cases l with
  | nil => rcases h with h | h <;> simp [namB, letB, digB, escB, sg] at h
  | cons a t =>
    cases hn : namB (sg (a :: t) 0) with
    | true =>
      rw [show (a :: t).length = t.length + 1 from rfl, nameP_nam _ _ hn]
      have := (nameP_suf t.length (⟨#[]⟩ ++ Utf8.encode (sg (a :: t) 0)) (a :: t).tail).length_le
      simp at this ⊢
      omega
    | false =>
      rcases h with h | h
      · rw [hn] at h; cases h
      · rw [show (a :: t).length = t.length + 1 from rfl, nameP_esc _ _ hn h]
        have h1 := (nameP_suf t.length (⟨#[]⟩ ++ Utf8.encode (escP (a :: t).tail).1) (escP (a :: t).tail).2).length_le
        have h2 := (escP_suf (a :: t).tail).length_le
        simp at h1 h2 ⊢
        omega
theorem nms_nam {l : List Int} (h : nmsB l 0 = true) : namB (sg l 0) = true ∨ escB l 0 = true := by
  unfold nmsB at h
  by_cases h1 : sg l 0 = 45
  · left; simp [namB, h1]
  · rw [if_neg h1] at h
    cases hl : letB (sg l 0) with
    | true => left; simp [namB, hl]
    | false => right; simpa [hl] using h
theorem idnP_lt {l : List Int} (h : nmsB l 0 = true) : (idnP l).2.length < l.length := by
  have hn := nameL_lt (nms_nam h)
  have h1 := (List.tail_suffix (nameL l).2).length_le
  unfold idnP
  split
  · split
    · split
      · have := (List.drop_suffix (kW (nameL l).2.tail - 1) (nameL l).2.tail).length_le
        show ((nameL l).2.tail.drop _).length < _
        omega
      · have := (urlL_suf (nameL l).2.tail).length_le
        omega
    · show (nameL l).2.tail.length < _
      omega
  · exact hn
theorem nF_suf (l : List Int) : (nF l).2 <:+ l := by
  unfold nF
  split
  · exact (digL_suf _).trans (List.tail_suffix l)
  · exact List.suffix_refl l
theorem nE_suf (b : Bool) (l : List Int) : (nE b l).2 <:+ l := by
  unfold nE
  split
  · exact (digL_suf _).trans (List.drop_suffix _ l)
  · exact List.suffix_refl l
theorem nA_suf (l : List Int) : (nA l).2 <:+ l := by
  unfold nA
  split
  · exact List.tail_suffix l
  · exact List.suffix_refl l
theorem digL_lt {l : List Int} (h : digB (sg l 0) = true) : (digL l).2.length < l.length := by
  unfold digL
  rw [digP_yes _ h]
  have := (digP_suf (⟨#[]⟩ ++ Utf8.encode (sg l 0)) l.tail).length_le
  have := tail_lt (digB_ne h)
  omega
theorem numT_suf (l : List Int) : (numT l).2 <:+ (nQ l).2 := by
  unfold numT
  split
  · exact nameL_suf _
  · split
    · exact List.tail_suffix _
    · exact List.suffix_refl _
theorem nQ_lt {l : List Int} (h : numB l = true) : (nQ l).2.length < l.length := by
  have e1 : (nQ l).2.length ≤ (nF (nL1 l)).2.length := (nE_suf _ _).length_le
  have e2 := (nF_suf (nL1 l)).length_le
  have e3 : (nL1 l).length ≤ (nA l).2.length := (digL_suf _).length_le
  have e4 := (nA_suf l).length_le
  cases hs : sgB l with
  | true =>
    have : (nA l).2 = l.tail := by unfold nA; rw [if_pos hs]
    rw [this] at e3
    have := tail_lt (sgB_ne hs)
    omega
  | false =>
    have ha : (nA l).2 = l := by unfold nA; rw [if_neg (by rw [hs]; simp)]
    have hn : ¬ (sg l 0 = 43 ∨ sg l 0 = 45) := by simpa [sgB] using hs
    unfold numB at h
    rw [if_neg hn] at h
    cases hd : digB (sg l 0) with
    | true =>
      have : (nL1 l).length < l.length := by unfold nL1; rw [ha]; exact digL_lt hd
      omega
    | false =>
      rw [hd] at h
      have h2 : sg l 0 = 46 ∧ digB (sg l 1) = true := by simpa using h
      have h3 : nL1 l = l := by unfold nL1 digL; rw [ha, digP_no _ hd]
      have h4 : dotB l = true := by simp [dotB, h2.1, h2.2]
      have h5 : (nF l).2 = (digL l.tail).2 := by unfold nF; rw [if_pos h4]
      have h6 := (digL_suf l.tail).length_le
      have h7 := tail_lt (dotB_ne h4)
      rw [h3, h5] at e1
      omega
theorem tokP_lt {l : List Int} (h : 0 ≤ sg l 0) : (tokP l).2.length < l.length := by
  have hne : sg l 0 ≠ -1 := by omega
  have ht := tail_lt hne
  unfold tokP
  split
  · exact ht
  · split
    · rename_i hw
      exact skipW_lt hw
    · split
      · have := (quoP_suf (sg l 0) l.tail.length ⟨#[]⟩ l.tail).length_le
        show (quoP _ _ _ _).2.length < _
        omega
      · split
        · have := (nameL_suf l.tail).length_le
          show (nameL l.tail).2.length < _
          omega
        · split
          · rename_i hn
            have h1 : numB l = true := by unfold numsB at hn; simp at hn; exact hn.2
            have := nQ_lt h1
            have := (numT_suf l).length_le
            omega
          · split
            · rename_i hc
              have := cdcB_len hc
              show (l.drop 3).length < _
              rw [List.length_drop]; omega
            · split
              · rename_i hc
                have := cdoB_len hc
                show (l.drop 4).length < _
                rw [List.length_drop]; omega
              · split
                · have := (nameL_suf l.tail).length_le
                  show (nameL l.tail).2.length < _
                  omega
                · split
                  · rename_i hi
                    exact idnP_lt hi
                  · exact ht

end Go.Proofs.YtgdolholioccdaaDoor.PX
