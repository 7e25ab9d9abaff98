/-
  Contracts of the functions that the law reaches, and what they compute, on lists (part Ed). No condition.
-/
import Derived.Test.YtgdolholioccdaaDoorMD2
set_option linter.unusedVariables false
set_option linter.unusedSimpArgs false
namespace Go.Proofs.YtgdolholioccdaaDoor.PX
open Go.RowKit Go.Proofs.YtgdolholioccdaaDoorW.PrintWords Go.Proofs.YtgdolholioccdaaDoorW.PrintLast Go.Proofs.YtgdolholioccdaaDoorW.PrintMore
set_option maxHeartbeats 16000000 in
set_option maxRecDepth 100000 in
theorem token_hashB {ws w : World} {g : Nat} {r l : List Int} (H : Rw ws w g r l) (hne : sg l 0 ≠ -1) (hpl : plainK (sg l 0) = 0) (g0 : whiB (sg l 0) = false) (g1 : quoB (sg l 0) = false) (g2 : hashB l = true) :
    Calls Tryd.prog 31 #[.pointer (some ⟨g, 0, none⟩)] w fun e w' => e = .returned (tokV (tokP l).1) ∧ Rw ws w' g r (tokP l).2 := by
  have H0 := Aside0.mk H
  have HNE := Aside0.mk hne
  have HS := Aside0.mk (H.alloc tokZ).self
  have HL := Aside0.mk H.lt
  have HG := Aside0.mk H.keep.1
  have hd1 : ¬ w.heap.size = g := by have := H.lt; omega
  have hd2 : ¬ g = w.heap.size := by have := H.lt; omega
  have hsz := H.size
  have hln := H.len
  have hu := Tryd.underlying49
  have HPL := Aside0.mk hpl
  have G0 := Aside0.mk g0
  have G1 := Aside0.mk g1
  have G2 := Aside0.mk g2
  clear H hne g0 g1 g2
  unfold tokZ at HS
  go_enter Tryd.func31, Tryd.ntmps31
  go_upto_block 0 with (first | (go_at_call 30; refine (sgn_r HS.out _ (by omega) (by omega)).mono ?_; rintro e w1 ⟨rfl, hS⟩; clear HS; have HS := Aside0.mk hS; obtain ⟨A, c, hc0, hc1, hfz, hr⟩ := hS.c0; clear hS hr))
  have HS2 := Aside0.mk ((HS.out.alloc (.cells #[.int .i32 40, .int .i32 91, .int .i32 123, .int .i32 41, .int .i32 93, .int .i32 125, .int .i32 44, .int .i32 58, .int .i32 59] 21)).alloc (.cells #[.int .i64 19, .int .i64 19, .int .i64 19, .int .i64 20, .int .i64 20, .int .i64 20, .int .i64 18, .int .i64 16, .int .i64 17] 3))
  have HB4 : Aside0 (((w1.alloc (.cells #[.int .i32 40, .int .i32 91, .int .i32 123, .int .i32 41, .int .i32 93, .int .i32 125, .int .i32 44, .int .i32 58, .int .i32 59] 21)).alloc (.cells #[.int .i64 19, .int .i64 19, .int .i64 19, .int .i64 20, .int .i64 20, .int .i64 20, .int .i64 18, .int .i64 16, .int .i64 17] 3)).heap[w1.heap.size]? = some (.cells (tabP.map (Value.int .i32)).toArray 21 (0, 0))) := ⟨(Below.heap_alloc _ _ _ (by simp)).trans (heap_alloc_new w1 _)⟩
  have HB5 : Aside0 (((w1.alloc (.cells #[.int .i32 40, .int .i32 91, .int .i32 123, .int .i32 41, .int .i32 93, .int .i32 125, .int .i32 44, .int .i32 58, .int .i32 59] 21)).alloc (.cells #[.int .i64 19, .int .i64 19, .int .i64 19, .int .i64 20, .int .i64 20, .int .i64 20, .int .i64 18, .int .i64 16, .int .i64 17] 3)).heap[w1.heap.size + 1]? = some (.cells (tabK.map (Value.int .i64)).toArray 3 (0, 0))) := ⟨by
    have h := heap_alloc_new (w1.alloc (.cells #[.int .i32 40, .int .i32 91, .int .i32 123, .int .i32 41, .int .i32 93, .int .i32 125, .int .i32 44, .int .i32 58, .int .i32 59] 21)) (.cells #[.int .i64 19, .int .i64 19, .int .i64 19, .int .i64 20, .int .i64 20, .int .i64 20, .int .i64 18, .int .i64 16, .int .i64 17] 3)
    rw [show (w1.alloc (.cells #[.int .i32 40, .int .i32 91, .int .i32 123, .int .i32 41, .int .i32 93, .int .i32 125, .int .i32 44, .int .i32 58, .int .i32 59] 21)).heap.size = w1.heap.size + 1 by simp] at h
    exact h⟩
  generalize (w1.alloc (.cells #[.int .i32 40, .int .i32 91, .int .i32 123, .int .i32 41, .int .i32 93, .int .i32 125, .int .i32 44, .int .i32 58, .int .i32 59] 21)).alloc (.cells #[.int .i64 19, .int .i64 19, .int .i64 19, .int .i64 20, .int .i64 20, .int .i64 20, .int .i64 18, .int .i64 16, .int .i64 17] 3) = wT at HS2 HB4 HB5 ⊢
  have hq : w.heap.size < w1.heap.size := by have := HS.out.keep.1; simp at this; omega
  generalize w1.heap.size = b4 at HB4 HB5 hq ⊢
  clear HS hc0 hc1 hfz
  have HS := HS2
  clear HS2
  have hgw := HL.out
  go_wp2
  go_loopg [6] 9 (fun n v wr => ∃ (j : Nat), v = .int .i64 j ∧ j + n = 9 ∧ wT = wr ∧ Aside0 (∀ i, i < j → tabP.getD i 0 ≠ sg l 0))
  case atStart => exact ⟨0, rfl, rfl, rfl, ⟨by intro i hi; omega⟩⟩
  case round =>
    obtain ⟨j, rfl, hj, rfl, HJ⟩ := hrel
    by_cases hlt : j < 9
    · have hcell := row9 HB4.out j hlt
      have HJ3 := Aside0.mk (tab_in (sg l 0) j hlt)
      obtain ⟨pj, hpj⟩ : ∃ x, tabP.getD j 0 = x := ⟨_, rfl⟩
      rw [hpj] at hcell HJ3
      have HPJ := Aside0.mk hpj
      clear hpj
      by_cases he : pj = sg l 0
      · exact absurd (HJ3.out he).2.1 (by rw [hpl]; simp)
      · have hb := beqF he
        have HJ2 := Aside0.mk (show ∀ i, i < j + 1 → tabP.getD i 0 ≠ sg l 0 by
          intro i hi
          rcases Nat.lt_or_ge i j with h | h
          · exact HJ.out i h
          · rw [show i = j by omega, HPJ.out]; exact he)
        clear he HJ3
        go_wp2
        go_roundg (gk - 1)
        case rel => exact ⟨j + 1, by go_num, by omega, rfl, HJ2⟩
        case measure => omega
    · have hj9 : j = 9 := by omega
      subst hj9
      have HP := Aside0.mk (tab_out (sg l 0) HJ.out)
      clear HJ hlt hj HB4 HB5
      have HTP := Aside0.mk (show tokP l = _ from if_neg (by rw [HP.out]; simp))
      go_upto_block 2 with (fail)
      have hw : whiB (sg l 0) = false := G0.out
      have HTP2 := Aside0.mk (HTP.out.trans (if_neg (by rw [hw]; simp)))
      clear HTP HP
      go_upto_region 17 with (first | (go_at_call 45; refine (white_r HS.out _).mono ?_; rintro e w1 ⟨rfl, hS⟩; clear HS; have HS := Aside0.mk hS; obtain ⟨A, c, hc0, hc1, hfz, hr⟩ := hS.c0; clear hS hr))
      clear hw hc0 hc1 hfz
      go_cut [3, 10, 57] (fun u u2 v wc => u = .int .i32 (sg l 0) ∧ u2 = .int .i32 (sg l 0) ∧ v = .bool (quoB (sg l 0)) ∧ Aside0 (Rw (w.alloc tokZ) wc g r l))
      case first =>
        go_wp2
        all_goals
          go_meet
          case rel => exact ⟨by clear HS; simp [*], by clear HS; simp [*], congrArg Value.bool (by clear HS; simp [quoB, *]), HS⟩
      case rest =>
        clear HS
        obtain ⟨rfl, rfl, hv, HS⟩ := hcut
        have hb : quoB (sg l 0) = false := G1.out
        rw [hb] at hv
        subst hv
        have HTP3 := Aside0.mk (HTP2.out.trans (if_neg (by simpa [quoB] using hb)))
        clear HTP2 hb
        go_upto_region 20 with (fail)
        go_cut [3, 74] (fun u v wc => u = .int .i32 (sg l 0) ∧ v = .bool (hashB l) ∧ Aside0 (Rw (w.alloc tokZ) wc g r l))
        case first =>
          go_wp2_with (first | (go_at_call 30; refine (sgn_r HS.out _ (by omega) (by omega)).mono ?_; rintro e w1 ⟨rfl, hS⟩; clear HS; have HS := Aside0.mk hS; obtain ⟨A, c, hc0, hc1, hfz, hr⟩ := hS.c0; clear hS hr) | (go_at_call 47; refine (named_r HS.out _).mono ?_; rintro e w1 ⟨rfl, hS⟩; clear HS; have HS := Aside0.mk hS; obtain ⟨A, c, hc0, hc1, hfz, hr⟩ := hS.c0; clear hS hr) | (go_at_call 48; refine (escape_r HS.out _ (by omega) (by omega)).mono ?_; rintro e w1 ⟨rfl, hS⟩; clear HS; have HS := Aside0.mk hS; obtain ⟨A, c, hc0, hc1, hfz, hr⟩ := hS.c0; clear hS hr))
          all_goals
            go_meet
            case rel => exact ⟨by clear HS; simp [*], congrArg Value.bool (by clear HS; simp [hashB, *]), HS⟩
        case rest =>
          clear HS
          obtain ⟨rfl, hv, HS⟩ := hcut
          have hb : hashB l = true := G2.out
          rw [hb] at hv
          subst hv
          have HQ := Aside0.mk (HTP3.out.trans (if_pos hb))
          have HB := Aside0.mk hb
          clear HTP3 hb
          obtain ⟨A, c, hc0, hc1, hfz, hr⟩ := HS.out.c0
          clear hr
          go_wp2_with (first | (go_at_call 49; refine (names_r (HS.out.tail HNE.out (by omega)) _ (by omega) (by omega)).mono ?_; rintro e w1 ⟨rfl, hS⟩; clear HS; have HS := Aside0.mk hS; obtain ⟨A, c, hc0, hc1, hfz, hr⟩ := hS.c0; clear hS hr; obtain ⟨y0, y1, y2, y3, y4, y5, z0, z1, z2, z3, z4, z5⟩ := res6 HS.out HL.out) | (go_at_call 50; refine (name_r HS.out).mono ?_; rintro e w1 ⟨⟨rfl, hz⟩, hS⟩; clear HS; have HS := Aside0.mk hS; obtain ⟨A, c, hc0, hc1, hfz, hr⟩ := hS.c0; clear hS hr; obtain ⟨y0, y1, y2, y3, y4, y5, z0, z1, z2, z3, z4, z5⟩ := res6 HS.out HL.out))
          rw [HQ.out]
          (refine bodyPost_ret (v := tokV (⟨4, (nameL l.tail).1, 0, false, false, nmsB l.tail 0⟩)) ?_ rfl ⟨rfl, (Rw.far (p := ⟨w.heap.size, 5, none⟩) (Rw.far (p := ⟨w.heap.size, 4, none⟩) (Rw.far (p := ⟨w.heap.size, 3, none⟩) (Rw.far (p := ⟨w.heap.size, 2, none⟩) (Rw.far (p := ⟨w.heap.size, 1, none⟩) (Rw.far (p := ⟨w.heap.size, 0, none⟩) (Rw.trans (H0.out.alloc tokZ) (HS.out)) HL.out HG.out _) HL.out HG.out _) HL.out HG.out _) HL.out HG.out _) HL.out HG.out _) HL.out HG.out _)⟩; simp [results, Tryd.results31, go_sem, tokV, mkT, y0, y1, y2, y3, y4, y5, hd1, hd2])

end Go.Proofs.YtgdolholioccdaaDoor.PX
