/-
  Contracts of the functions that the law reaches, and what they compute, on lists (part E). No condition.
-/
import Derived.Test.YtgdolholioccdaaDoorMEa
import Derived.Test.YtgdolholioccdaaDoorMEb
import Derived.Test.YtgdolholioccdaaDoorMEc
import Derived.Test.YtgdolholioccdaaDoorMEd
import Derived.Test.YtgdolholioccdaaDoorMEe
import Derived.Test.YtgdolholioccdaaDoorMEf
import Derived.Test.YtgdolholioccdaaDoorMEg
import Derived.Test.YtgdolholioccdaaDoorMEh
import Derived.Test.YtgdolholioccdaaDoorMEi
import Derived.Test.YtgdolholioccdaaDoorMEj
import Derived.Test.YtgdolholioccdaaDoorMD2
import Derived.StillTailTactics
set_option linter.unusedVariables false
set_option linter.unusedSimpArgs false
namespace Go.Proofs.YtgdolholioccdaaDoor.PX
open Go.RowKit Go.Proofs.YtgdolholioccdaaDoorW.PrintWords Go.Proofs.YtgdolholioccdaaDoorW.PrintLast Go.Proofs.YtgdolholioccdaaDoorW.PrintMore
theorem token_r {ws w : World} {g : Nat} {r l : List Int} (H : Rw ws w g r l) (hne : sg l 0 ≠ -1) :
    Calls Tryd.prog 31 #[.pointer (some ⟨g, 0, none⟩)] w fun e w' => e = .returned (tokV (tokP l).1) ∧ Rw ws w' g r (tokP l).2 := by
  by_cases h0 : plainK (sg l 0) = 0
  case neg => exact token_tab H hne h0
  cases g0 : whiB (sg l 0) with
  | true => exact token_white H hne h0 g0
  | false =>
  cases g1 : quoB (sg l 0) with
  | true => exact token_quoB H hne h0 g0 g1
  | false =>
  cases g2 : hashB l with
  | true => exact token_hashB H hne h0 g0 g1 g2
  | false =>
  cases g3 : numsB l with
  | true => exact token_numsB H hne h0 g0 g1 g2 g3
  | false =>
  cases g4 : cdcB l with
  | true => exact token_cdcB H hne h0 g0 g1 g2 g3 g4
  | false =>
  cases g5 : cdoB l with
  | true => exact token_cdoB H hne h0 g0 g1 g2 g3 g4 g5
  | false =>
  cases g6 : atB l with
  | true => exact token_atB H hne h0 g0 g1 g2 g3 g4 g5 g6
  | false =>
  cases g7 : nmsB l 0 with
  | true => exact token_nmsB H hne h0 g0 g1 g2 g3 g4 g5 g6 g7
  | false =>
  exact token_delim H hne h0 g0 g1 g2 g3 g4 g5 g6 g7

theorem token_a {ws w : World} {g : Nat} {r l : List Int} (H : Rw ws w g r l) (hne : sg l 0 ≠ -1) :
    Calls Tryd.prog 31 #[.pointer (some ⟨g, 0, none⟩)] w fun e w' => e = .returned (.agg #[.int .i64 (tokP l).1.f0, .string (tokP l).1.f1, .int .i64 (tokP l).1.f2, .bool (tokP l).1.f3, .bool (tokP l).1.f4, .bool (tokP l).1.f5]) ∧ Rw ws w' g r (tokP l).2 := token_r H hne
theorem info49 : (Tryd.prog.info? 49).map (fun i => (i.zero, i.size, i.bytes)) = some (some (.agg #[(.int .i64 0), (.string ⟨#[]⟩), (.int .i64 0), (.bool false), (.bool false), (.bool false)]), 6, 40) := by kernel_rfl
/-- A slice of signs that came in. -/
def RdI (w : World) (A : Option Addr) (r : List Int) : Prop := ∀ j, j < r.length → ∃ ad, A = some ad ∧ ad.block < w.heap.size ∧ w.cell? (ad.add j) = some (.int .i32 (r.getD j 0))
theorem Rw.drew {ws w : World} {g : Nat} {r l : List Int} (h : Rw ws w g r l) : Rw ws w.drew g r l := h.move (KeepBut.refl w g none) (below_drew (Below.refl 0 w)) rfl
theorem Rw.new {w : World} {A : Option Addr} {c : Nat} {r : List Int} (hr : RdI w A r) (hz : r.length ≤ 140737488355328) : Rw w (w.alloc (.cells #[.slice A r.length c, .int .i64 0] 63)) w.heap.size r r := by
  refine ⟨KeepBut.of_below (below_alloc (Below.refl _ _) _) _ none, below_alloc (Below.refl _ _) _ |>.mono (Nat.zero_le _), ⟨A, c, ?_, fun j hj => ?_⟩, List.suffix_refl r, hz⟩
  · rw [Int.sub_self]; exact heap_alloc_new w _
  · obtain ⟨ad, e, hlt, hc⟩ := hr j hj
    exact ⟨ad, e, hlt, pw_cell_below (below_alloc (Below.refl _ _) _) hc⟩
theorem Rw.fin {w W : World} {g : Nat} {r l : List Int} (h : Rw w W g r l) (hg : w.heap.size ≤ g) : Below w.heap.size w W :=
  ⟨h.low.os, h.low.tape, h.low.output, h.low.size, fun k hk => h.keep.2 k hk (by omega) (by simp)⟩
theorem Rw.grow {w W W3 : World} {g : Nat} {r l : List Int} (h : Rw w W g r l) (hg : w.heap.size = g) (hb : Below g w W3) (he : W3.heap[g]? = W.heap[g]?) : Rw w W3 g r l := by
  obtain ⟨A, c, hk, hr⟩ := h.blk
  refine ⟨⟨hb.size, fun i hi _ _ => hb.block i (by omega)⟩, hb.mono (Nat.zero_le _), ⟨A, c, he.trans hk, fun j hj => ?_⟩, h.suf, h.size⟩
  obtain ⟨ad, e, hne, hc⟩ := hr j hj
  refine ⟨ad, e, hne, ?_⟩
  have e1 : W3.heap[(ad.add j).block]? = W.heap[(ad.add j).block]? := by
    rw [add_block, hb.block ad.block hne]
    exact (h.keep.2 ad.block (by omega) (by omega) (by simp)).symm
  rw [World.cell?_of_block e1]
  exact hc
theorem tokF_end (n : Nat) {l : List Int} (h : sg (comL l.length l) 0 < 0) : tokF n l = [] := by
  cases n with
  | zero => rfl
  | succ n => unfold tokF; rw [if_pos h]
theorem tokF_go (n : Nat) {l u : List Int} (hu : comL l.length l = u) (h : ¬ sg u 0 < 0) : tokF (n + 1) l = (tokP u).1 :: tokF n (tokP u).2 := by
  subst hu
  conv => lhs; unfold tokF
  rw [if_neg h]
set_option maxHeartbeats 8000000 in
set_option maxRecDepth 100000 in
theorem Tokens_c (A : Option Addr) (c : Nat) (r : List Int) (w : World) (hr : RdI w A r) (hz : r.length ≤ 1000000000) :
    Calls Tryd.prog 18 #[.slice A r.length c] w fun e w' => ∃ v, e = .returned v ∧ Kd.R k49 49 w' w.heap.size (fun _ => True) v (tokens r) ∧ Below w.heap.size w w' := by
  have HS := Aside0.mk (Rw.new (c := c) hr (by omega))
  have hu := Tryd.underlying63
  clear hr
  go_enter Tryd.func18, Tryd.ntmps18
  go_wp2
  obtain ⟨g, hg⟩ : ∃ n, w.heap.size = n := ⟨_, rfl⟩
  obtain ⟨wI, hwI⟩ : ∃ W, w.alloc (.cells #[.slice A r.length c, .int .i64 0] 63) = W := ⟨_, rfl⟩
  rw [hwI] at HS ⊢
  have HGG := Aside0.mk hg
  rw [hg] at HS ⊢
  clear hwI hg
  go_loopg [4] (r.length + 1) (fun n v wr => ∃ (l : List Int) (ts : List S49), Aside0 (Rw w wr g r l) ∧ Aside0 (Kd.R k49 49 wr g (fun k => k ≠ g) v ts) ∧ Aside0 (ts ++ tokF n l = tokens r) ∧ l.length < n ∧ ts.length + l.length ≤ r.length)
  case atStart => exact ⟨r, [], HS, ⟨Kd.R_nil _ _ _ _ _⟩, ⟨rfl⟩, by omega, by simp⟩
  case round =>
    obtain ⟨l, ts, HR, HO, HE, hn, hts⟩ := hrel
    clear HS
    cases gk with
    | zero => omega
    | succ gm =>
    obtain ⟨wo, HW, rfl⟩ : ∃ wo : World, Aside0 (Rw w wo g r l) ∧ wo = wr := ⟨wr, HR, rfl⟩
    clear HR
    have HI := Aside0.mk HW.out.self
    go_wp2
    go_loopg [] l.length (fun n wr => ∃ (u : List Int), Aside0 (Rw wo wr g r u) ∧ Aside0 (comL n u = comL l.length l) ∧ u.length ≤ n ∧ u.length ≤ l.length)
    case atStart => exact ⟨l, HI, ⟨rfl⟩, Nat.le_refl _, Nat.le_refl _⟩
    case round =>
      obtain ⟨u, HR, HC, hun, hul⟩ := hrel
      clear HI
      have HS := HR
      clear HR
      have hur := HS.out.len
      cases hb : comB u with
      | true =>
        cases gk with
        | zero => have := comB_len hb; omega
        | succ gc =>
        have HC2 := Aside0.mk ((comL_yes gc hb).symm.trans HC.out)
        have HOL := Aside0.mk (comO_lt hb)
        have hu2 := comB_len hb
        have hbb : (sg u 0 == 47) = true ∧ (sg u 1 == 42) = true := by simpa [comB] using hb
        obtain ⟨b1, b2⟩ := hbb
        have HD := Aside0.mk (drop_len3 hu2)
        have HDS := Aside0.mk (List.drop_suffix 2 u)
        clear hb HC
        go_wp2_with (first | (go_at_call 30; refine (sgn_r HS.out _ (by omega) (by omega)).mono ?_; rintro e w1 ⟨rfl, hS⟩; clear HS; have HS := Aside0.mk hS; obtain ⟨A, c, hc0, hc1, hfz, hr⟩ := hS.c0; clear hS hr))
        have HT := Aside0.mk (HS.out.adv HDS.out (x := (r.length : Int) - u.length + 2) (by have := HD.out; omega))
        obtain ⟨wp, hwp⟩ : ∃ W, w1.setCell ⟨g, 1, none⟩ (.int .i64 ((r.length : Int) - u.length + 2)) = W := ⟨_, rfl⟩
        rw [hwp] at HT ⊢
        clear hwp HS hc0 hc1 hfz b1 b2
        go_loopg [] u.length (fun n wr => ∃ (t : List Int), Aside0 (Rw wo wr g r t) ∧ Aside0 (comP n t = comP u.length (u.drop 2)) ∧ t.length ≤ n ∧ t.length ≤ u.length)
        case atStart => exact ⟨u.drop 2, HT, ⟨rfl⟩, by rw [List.length_drop]; omega, by rw [List.length_drop]; omega⟩
        case round =>
          obtain ⟨t, HR, HP, htn, htu⟩ := hrel
          clear HT
          have HS := HR
          clear HR
          by_cases h1 : sg t 0 < 0 ∨ (sg t 0 = 42 ∧ sg t 1 = 47)
          · have hco : comO u = t.drop 2 := by unfold comO; rw [← HP.out, comP_end gk h1]
            have HCO := Aside0.mk hco
            clear hco HP
            have hds : (t.drop 2).length = t.length - 2 := List.length_drop
            have HDL := Aside0.mk hds
            clear hds
            have HDT := Aside0.mk (List.drop_suffix 2 t)
            have ways : ((0 ≤ sg t 0) = False) ∨ ((0 ≤ sg t 0) ∧ (sg t 0 != 42) = false ∧ (sg t 1 != 47) = false) := by
              rcases h1 with h1 | ⟨h1, h2⟩
              · left; simp; omega
              · right; exact ⟨by omega, by rw [bne_eq_false_iff_eq]; exact h1, by rw [bne_eq_false_iff_eq]; exact h2⟩
            clear h1
            have hw2 : (¬ (0 ≤ sg t 0)) ∨ ((0 ≤ sg t 0) ∧ (sg t 0 != 42) = false ∧ (sg t 1 != 47) = false) := by
              rcases ways with h | h
              · left; rw [h]; simp
              · exact .inr h
            clear ways
            have hl0 : 0 ≤ (r.length : Int) - t.length := by have := HS.out.len; omega
            have HC3 := Aside0.mk (show comL gc (t.drop 2) = comL l.length l by rw [← HCO.out]; exact HC2.out)
            have hlt3 : (t.drop 2).length < u.length := by rw [← HCO.out]; exact HOL.out
            clear HC2 HOL HCO
            rcases hw2 with h1 | ⟨h1, h2, h3⟩
            all_goals
              go_wp2_with (first | (go_at_call 30; refine (sgn_r HS.out _ (by omega) (by omega)).mono ?_; rintro e w1 ⟨rfl, hS⟩; clear HS; have HS := Aside0.mk hS; obtain ⟨A, c, hc0, hc1, hfz, hr⟩ := hS.c0; clear hS hr))
              go_still_tail 14, (by kernel_rfl)
              change wpList _ _ _ _ _ w1.drew
              have HS2 := Aside0.mk HS.out.drew
              generalize w1.drew = w2 at HS2 ⊢
              clear HS hc0 hc1 hfz
              obtain ⟨A, c, hc0, hc1, hfz, hr⟩ := HS2.out.c0
              clear hr
              go_wp2
              all_goals
                go_roundg gc
                case rel => exact ⟨t.drop 2, ⟨HS2.out.adv HDT.out (by have := HDL.out; omega)⟩, HC3, by omega, by omega⟩
                case measure => omega
          · have hne : sg t 0 ≠ -1 := by omega
            have HN := Aside0.mk hne
            have hlt := tail_lt hne
            have h0 : 0 ≤ sg t 0 := by omega
            cases gk with
            | zero => omega
            | succ gp =>
            have HP2 := Aside0.mk ((comP_go gp (by omega) (by omega)).symm.trans HP.out)
            have hw2 : (sg t 0 != 42) = true ∨ ((sg t 0 != 42) = false ∧ (sg t 1 != 47) = true) := by
              by_cases e : sg t 0 = 42
              · exact .inr ⟨by rw [bne_eq_false_iff_eq]; exact e, by rw [bne_iff_ne]; omega⟩
              · exact .inl (by rw [bne_iff_ne]; exact e)
            clear h1 hne HP
            rcases hw2 with h2 | ⟨h2, h3⟩
            all_goals
              go_wp2_with (first | (go_at_call 30; refine (sgn_r HS.out _ (by omega) (by omega)).mono ?_; rintro e w1 ⟨rfl, hS⟩; clear HS; have HS := Aside0.mk hS; obtain ⟨A, c, hc0, hc1, hfz, hr⟩ := hS.c0; clear hS hr))
              have HT := Aside0.mk (HS.out.tail HN.out rfl)
              go_roundg gp
              case rel => exact ⟨_, HT, HP2, by omega, by omega⟩
              case measure => omega
      | false =>
        have hcu : comL l.length l = u := HC.out.symm.trans (comL_no gk hb)
        have HCU := Aside0.mk hcu
        have hw2 : (sg u 0 == 47) = false ∨ ((sg u 0 == 47) = true ∧ (sg u 1 == 42) = false) := by
          cases h : (sg u 0 == 47) with
          | false => exact .inl rfl
          | true => exact .inr ⟨rfl, by simpa [comB, h] using hb⟩
        clear hcu hb HC hun
        by_cases h1 : sg u 0 < 0
        · have HQ := Aside0.mk (show tokens r = ts by rw [← HE.out, tokF_end (gm + 1) (by rw [HCU.out]; exact h1)]; simp)
          rcases hw2 with h2 | ⟨h2, h3⟩
          all_goals
            go_wp2_with (first | (go_at_call 30; refine (sgn_r HS.out _ (by omega) (by omega)).mono ?_; rintro e w1 ⟨rfl, hS⟩; clear HS; have HS := Aside0.mk hS; obtain ⟨A, c, hc0, hc1, hfz, hr⟩ := hS.c0; clear hS hr))
            go_ret
            exact ⟨u4, rfl, by rw [HQ.out, HGG.out]; exact Kd.R_mono (Kd.R_keep HO.out HS.out.keep (fun _ h => h)) (fun _ _ => trivial), (HW.out.trans HS.out).fin (by have := HGG.out; omega)⟩
        · have hne : sg u 0 ≠ -1 := by omega
          have HN := Aside0.mk hne
          have hlt := tokP_lt (l := u) (by omega)
          have HF := Aside0.mk (tokF_go gm HCU.out h1)
          have hdec : decide (sg u 0 < 0) = false := decide_eq_false h1
          clear h1 hne
          rcases hw2 with h2 | ⟨h2, h3⟩
          all_goals
            go_wp2_with (first | (go_at_call 30; refine (sgn_r HS.out _ (by omega) (by omega)).mono ?_; rintro e w1 ⟨rfl, hS⟩; clear HS; have HS := Aside0.mk hS; obtain ⟨A, c, hc0, hc1, hfz, hr⟩ := hS.c0; clear hS hr) | (go_at_call 31; refine (token_a HS.out HN.out).mono ?_; rintro e w2 ⟨rfl, hS⟩; clear HS; have HS := Aside0.mk hS; clear hS hc0 hc1 hfz) | (at_builtin; refine Kd.R_append k49 (w0 := w) g rfl (.tmp 62) (.tmp 65) 39 49 (.agg #[(.int .i64 0), (.string ⟨#[]⟩), (.int .i64 0), (.bool false), (.bool false), (.bool false)]) 40 rfl Tryd.underlying39 info49 rfl (by decide) (by decide) u4 ts (tokP u).1 [.int .i64 (tokP u).1.f0, .string (tokP u).1.f1, .int .i64 (tokP u).1.f2, .bool (tokP u).1.f3, .bool (tokP u).1.f4, .bool (tokP u).1.f5] (fun k => k ≠ g) (fun _ => False) rfl rfl (k49_mkM _ _ _ _) (fun _ h => h.elim) ?c1 (Kd.R_keep HO.out HS.out.keep (fun _ h => h)) ?c2 ?c3 ?c4 ?_; (case c1 => intro k hk hkg; have := HS.out.lt; omega); (case c2 => have := (HW.out.trans HS.out).fin (by have := HGG.out; omega); rw [HGG.out] at this; exact this); (case c3 => have := HS.out.lt; omega); (case c4 => omega); intro v1 w3 ho1 hb1 hg1 hat1; have HO1 := Aside0.mk ho1; have HB1 := Aside0.mk hb1; have HG1 := Aside0.mk hg1; clear ho1 hb1 hg1 hat1))
            have HRW := Aside0.mk ((HW.out.trans HS.out).grow HGG.out HB1.out (HG1.out.block g HS.out.lt (fun e => HO.out.1 g e.symm rfl)))
            go_roundg gm
            case rel => exact ⟨(tokP u).2, ts ++ [(tokP u).1], HRW, HO1, ⟨by rw [← HE.out, HF.out]; simp⟩, by omega, by simp; omega⟩
            case measure => omega

end Go.Proofs.YtgdolholioccdaaDoor.PX
