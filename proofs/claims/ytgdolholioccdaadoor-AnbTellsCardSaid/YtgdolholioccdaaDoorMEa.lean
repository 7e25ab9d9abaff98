/-
  Contracts of the functions that the law reaches, and what they compute, on lists (part Ea). No condition.
-/
import Derived.Test.YtgdolholioccdaaDoorMD2
set_option linter.unusedVariables false
set_option linter.unusedSimpArgs false
namespace Go.Proofs.YtgdolholioccdaaDoor.PX
open Go.RowKit Go.Proofs.YtgdolholioccdaaDoorW.PrintWords Go.Proofs.YtgdolholioccdaaDoorW.PrintLast Go.Proofs.YtgdolholioccdaaDoorW.PrintMore
set_option maxHeartbeats 16000000 in
set_option maxRecDepth 100000 in
theorem token_tab {ws w : World} {g : Nat} {r l : List Int} (H : Rw ws w g r l) (hne : sg l 0 ≠ -1) (hpl : plainK (sg l 0) ≠ 0) :
    Calls Tryd.prog 31 #[.pointer (some ⟨g, 0, none⟩)] w fun e w' => e = .returned (tokV (tokP l).1) ∧ Rw ws w' g r (tokP l).2 := by
  have H0 := Aside0.mk H
  have HNE := Aside0.mk hne
  have HS := Aside0.mk (H.alloc tokZ).self
  have HL := Aside0.mk H.lt
  have HG := Aside0.mk H.keep.1
  have hd1 : ¬ w.heap.size = g := by have := H.lt; omega
  have hd2 : ¬ g = w.heap.size := by have := H.lt; omega
  have hsz := H.size
  have hln := H.len
  have hu := Tryd.underlying49
  clear H hne
  unfold tokZ at HS
  go_enter Tryd.func31, Tryd.ntmps31
  go_upto_block 0 with (first | (go_at_call 30; refine (sgn_r HS.out _ (by omega) (by omega)).mono ?_; rintro e w1 ⟨rfl, hS⟩; clear HS; have HS := Aside0.mk hS; obtain ⟨A, c, hc0, hc1, hfz, hr⟩ := hS.c0; clear hS hr))
  have HS2 := Aside0.mk ((HS.out.alloc (.cells #[.int .i32 40, .int .i32 91, .int .i32 123, .int .i32 41, .int .i32 93, .int .i32 125, .int .i32 44, .int .i32 58, .int .i32 59] 21)).alloc (.cells #[.int .i64 19, .int .i64 19, .int .i64 19, .int .i64 20, .int .i64 20, .int .i64 20, .int .i64 18, .int .i64 16, .int .i64 17] 3))
  have HB4 : Aside0 (((w1.alloc (.cells #[.int .i32 40, .int .i32 91, .int .i32 123, .int .i32 41, .int .i32 93, .int .i32 125, .int .i32 44, .int .i32 58, .int .i32 59] 21)).alloc (.cells #[.int .i64 19, .int .i64 19, .int .i64 19, .int .i64 20, .int .i64 20, .int .i64 20, .int .i64 18, .int .i64 16, .int .i64 17] 3)).heap[w1.heap.size]? = some (.cells (tabP.map (Value.int .i32)).toArray 21 (0, 0))) := ⟨(Below.heap_alloc _ _ _ (by simp)).trans (heap_alloc_new w1 _)⟩
  have HB5 : Aside0 (((w1.alloc (.cells #[.int .i32 40, .int .i32 91, .int .i32 123, .int .i32 41, .int .i32 93, .int .i32 125, .int .i32 44, .int .i32 58, .int .i32 59] 21)).alloc (.cells #[.int .i64 19, .int .i64 19, .int .i64 19, .int .i64 20, .int .i64 20, .int .i64 20, .int .i64 18, .int .i64 16, .int .i64 17] 3)).heap[w1.heap.size + 1]? = some (.cells (tabK.map (Value.int .i64)).toArray 3 (0, 0))) := ⟨by
    have h := heap_alloc_new (w1.alloc (.cells #[.int .i32 40, .int .i32 91, .int .i32 123, .int .i32 41, .int .i32 93, .int .i32 125, .int .i32 44, .int .i32 58, .int .i32 59] 21)) (.cells #[.int .i64 19, .int .i64 19, .int .i64 19, .int .i64 20, .int .i64 20, .int .i64 20, .int .i64 18, .int .i64 16, .int .i64 17] 3)
    rw [show (w1.alloc (.cells #[.int .i32 40, .int .i32 91, .int .i32 123, .int .i32 41, .int .i32 93, .int .i32 125, .int .i32 44, .int .i32 58, .int .i32 59] 21)).heap.size = w1.heap.size + 1 by simp] at h
    exact h⟩
  generalize (w1.alloc (.cells #[.int .i32 40, .int .i32 91, .int .i32 123, .int .i32 41, .int .i32 93, .int .i32 125, .int .i32 44, .int .i32 58, .int .i32 59] 21)).alloc (.cells #[.int .i64 19, .int .i64 19, .int .i64 19, .int .i64 20, .int .i64 20, .int .i64 20, .int .i64 18, .int .i64 16, .int .i64 17] 3) = wT at HS2 HB4 HB5 ⊢
  have hq : w.heap.size < w1.heap.size := by have := HS.out.keep.1; simp at this; omega
  generalize w1.heap.size = b4 at HB4 HB5 hq ⊢
  clear HS hc0 hc1 hfz
  have HS := HS2
  clear HS2
  have hgw := HL.out
  go_wp2
  go_loopg [6] 9 (fun n v wr => ∃ (j : Nat), v = .int .i64 j ∧ j + n = 9 ∧ wT = wr ∧ Aside0 (∀ i, i < j → tabP.getD i 0 ≠ sg l 0))
  case atStart => exact ⟨0, rfl, rfl, rfl, ⟨by intro i hi; omega⟩⟩
  case round =>
    obtain ⟨j, rfl, hj, rfl, HJ⟩ := hrel
    by_cases hlt : j < 9
    · have hcell := row9 HB4.out j hlt
      have HJ3 := Aside0.mk (tab_in (sg l 0) j hlt)
      obtain ⟨pj, hpj⟩ : ∃ x, tabP.getD j 0 = x := ⟨_, rfl⟩
      rw [hpj] at hcell HJ3
      have HPJ := Aside0.mk hpj
      clear hpj
      by_cases he : pj = sg l 0
      · have hk := row9 HB5.out j hlt
        obtain ⟨kj, hkj⟩ : ∃ x, tabK.getD j 0 = x := ⟨_, rfl⟩
        rw [hkj] at hk HJ3
        clear hkj
        obtain ⟨e1, e2, e3⟩ := HJ3.out he
        have HTP := Aside0.mk (show tokP l = (mkT (plainK (sg l 0)) (plainS (sg l 0)), l.tail) from if_pos e2)
        have E1 := Aside0.mk e1
        have E3 := Aside0.mk e3
        have hb := beqT he
        clear HJ3 e1 e2 e3 he HJ HPJ hj
        obtain ⟨A, c, hc0, hc1, hfz, hr⟩ := HS.out.c0
        clear hr
        have hd7 : ¬ g = b4 + 1 := by omega
        have hd8 : ¬ b4 + 1 = g := by omega
        by_cases h6 : j < 6
        · go_upto_if 38 with (fail)
          have HT : Aside0 (Tk w ((wT.setCell ⟨g, 1, none⟩ (.int .i64 ((r.length : Int) - l.length + 1))).alloc (.cells #[.int .i64 kj, .string ⟨#[]⟩, .int .i64 0, .bool false, .bool false, .bool false] 49)) g wT.heap.size r l.tail (.int .i64 kj) (.string ⟨#[]⟩) (.int .i64 0) (.bool false) (.bool false) (.bool false)) := ⟨by
            have h := Tk.new (HS.out.tail HNE.out rfl) (.int .i64 kj) (.string ⟨#[]⟩) (.int .i64 0) (.bool false) (.bool false) (.bool false)
            rw [show (wT.setCell ⟨g, 1, none⟩ (.int .i64 ((r.length : Int) - l.length + 1))).heap.size = wT.heap.size by simp] at h
            exact h⟩
          generalize (wT.setCell ⟨g, 1, none⟩ (.int .i64 ((r.length : Int) - l.length + 1))).alloc (.cells #[.int .i64 kj, .string ⟨#[]⟩, .int .i64 0, .bool false, .bool false, .bool false] 49) = wU at HT ⊢
          generalize wT.heap.size = bb at HT ⊢
          clear HS HB4 HB5 hc0 hc1 hfz hcell hk
          have hgb := HT.out.2.2.1
          have hwb := HT.out.2.2.2
          have hd3 : ¬ bb = g := by omega
          have hd4 : ¬ g = bb := by omega
          have hd5 : ¬ bb = w.heap.size := by omega
          have hd6 : ¬ w.heap.size = bb := by omega
          obtain ⟨⟨x0, x1, x2, x3, x4, x5⟩, q0, q1, q2, q3, q4, q5⟩ := blk6 HT.out.2.1
          obtain ⟨y0, y1, y2, y3, y4, y5, z0, z1, z2, z3, z4, z5⟩ := res6 HT.out.1 HL.out
          have hq2 : tokP l = (mkT kj (Utf8.encode (sg l 0)), l.tail) := by rw [HTP.out, E1.out, E3.out, if_pos h6]
          have HQ := Aside0.mk hq2
          clear hq2 HTP E1 E3
          go_wp2_with (first | (go_at_call 44; refine (put_r HT.out.1.self _).mono ?_; rintro e w1 ⟨rfl, hS⟩; have hT := Tk.call HT.out hS; clear HT; have HT := Aside0.mk hT; obtain ⟨A, c, hc0, hc1, hfz, hr⟩ := hT.1.c0; obtain ⟨⟨x0, x1, x2, x3, x4, x5⟩, q0, q1, q2, q3, q4, q5⟩ := blk6 hT.2.1; obtain ⟨y0, y1, y2, y3, y4, y5, z0, z1, z2, z3, z4, z5⟩ := res6 hT.1 HL.out; have hg1 := hT.1.lt; clear hS hT hr))
          rw [HQ.out]
          (refine bodyPost_ret (v := tokV (mkT kj (Utf8.encode (sg l 0)))) ?_ rfl ⟨rfl, ((Rw.far (p := ⟨w.heap.size, 5, none⟩) (Rw.far (p := ⟨w.heap.size, 4, none⟩) (Rw.far (p := ⟨w.heap.size, 3, none⟩) (Rw.far (p := ⟨w.heap.size, 2, none⟩) (Rw.far (p := ⟨w.heap.size, 1, none⟩) (Rw.far (p := ⟨w.heap.size, 0, none⟩) (Rw.trans (H0.out.alloc tokZ) ((Tk.set1 HT.out _).1)) HL.out HG.out _) HL.out HG.out _) HL.out HG.out _) HL.out HG.out _) HL.out HG.out _) HL.out HG.out _))⟩; simp [results, Tryd.results31, go_sem, tokV, mkT, y0, y1, y2, y3, y4, y5, hd1, hd2, hd3, hd4, hd5, hd6, x0, x1, x2, x3, x4, x5])
        · go_upto_if 38 with (fail)
          have HT : Aside0 (Tk w ((wT.setCell ⟨g, 1, none⟩ (.int .i64 ((r.length : Int) - l.length + 1))).alloc (.cells #[.int .i64 kj, .string ⟨#[]⟩, .int .i64 0, .bool false, .bool false, .bool false] 49)) g wT.heap.size r l.tail (.int .i64 kj) (.string ⟨#[]⟩) (.int .i64 0) (.bool false) (.bool false) (.bool false)) := ⟨by
            have h := Tk.new (HS.out.tail HNE.out rfl) (.int .i64 kj) (.string ⟨#[]⟩) (.int .i64 0) (.bool false) (.bool false) (.bool false)
            rw [show (wT.setCell ⟨g, 1, none⟩ (.int .i64 ((r.length : Int) - l.length + 1))).heap.size = wT.heap.size by simp] at h
            exact h⟩
          generalize (wT.setCell ⟨g, 1, none⟩ (.int .i64 ((r.length : Int) - l.length + 1))).alloc (.cells #[.int .i64 kj, .string ⟨#[]⟩, .int .i64 0, .bool false, .bool false, .bool false] 49) = wU at HT ⊢
          generalize wT.heap.size = bb at HT ⊢
          clear HS HB4 HB5 hc0 hc1 hfz hcell hk
          have hgb := HT.out.2.2.1
          have hwb := HT.out.2.2.2
          have hd3 : ¬ bb = g := by omega
          have hd4 : ¬ g = bb := by omega
          have hd5 : ¬ bb = w.heap.size := by omega
          have hd6 : ¬ w.heap.size = bb := by omega
          obtain ⟨⟨x0, x1, x2, x3, x4, x5⟩, q0, q1, q2, q3, q4, q5⟩ := blk6 HT.out.2.1
          obtain ⟨y0, y1, y2, y3, y4, y5, z0, z1, z2, z3, z4, z5⟩ := res6 HT.out.1 HL.out
          have hq2 : tokP l = (mkT kj ⟨#[]⟩, l.tail) := by rw [HTP.out, E1.out, E3.out, if_neg h6]
          have HQ := Aside0.mk hq2
          clear hq2 HTP E1 E3
          go_wp2
          rw [HQ.out]
          (refine bodyPost_ret (v := tokV (mkT kj ⟨#[]⟩)) ?_ rfl ⟨rfl, ((Rw.far (p := ⟨w.heap.size, 5, none⟩) (Rw.far (p := ⟨w.heap.size, 4, none⟩) (Rw.far (p := ⟨w.heap.size, 3, none⟩) (Rw.far (p := ⟨w.heap.size, 2, none⟩) (Rw.far (p := ⟨w.heap.size, 1, none⟩) (Rw.far (p := ⟨w.heap.size, 0, none⟩) (Rw.trans (H0.out.alloc tokZ) (HT.out.1)) HL.out HG.out _) HL.out HG.out _) HL.out HG.out _) HL.out HG.out _) HL.out HG.out _) HL.out HG.out _))⟩; simp [results, Tryd.results31, go_sem, tokV, mkT, y0, y1, y2, y3, y4, y5, hd1, hd2, hd3, hd4, hd5, hd6, x0, x1, x2, x3, x4, x5])
      · have hb := beqF he
        have HJ2 := Aside0.mk (show ∀ i, i < j + 1 → tabP.getD i 0 ≠ sg l 0 by
          intro i hi
          rcases Nat.lt_or_ge i j with h | h
          · exact HJ.out i h
          · rw [show i = j by omega, HPJ.out]; exact he)
        clear he HJ3
        go_wp2
        go_roundg (gk - 1)
        case rel => exact ⟨j + 1, by go_num, by omega, rfl, HJ2⟩
        case measure => omega
    · have hj9 : j = 9 := by omega
      subst hj9
      have HP := Aside0.mk (tab_out (sg l 0) HJ.out)
      exact absurd HP.out hpl

end Go.Proofs.YtgdolholioccdaaDoor.PX
