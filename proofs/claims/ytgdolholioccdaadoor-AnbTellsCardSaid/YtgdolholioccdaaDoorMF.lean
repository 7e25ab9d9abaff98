/-
  Contracts of the functions that the law reaches, and what they compute, on lists (part F). No condition.
-/
import Derived.Test.YtgdolholioccdaaDoorMD
import Derived.Deep.RegionHeld3
import Derived.Test.YtgdolholioccdaaDoorMD2
import Derived.Lib.OthersKept
import Derived.Laws.RangeAny
import Derived.WideShapes
import Derived.Test.YtgdolholioccdaaDoorMB
import Derived.Test.YtgdolholioccdaaDoorMC
import Derived.Shelf.Strings.SlTrimAscii
import Derived.Deep.RegionWith
import Derived.Test.YtgdolholioccdaaDoorME
set_option linter.unusedVariables false
set_option linter.unusedSimpArgs false
namespace Go.Proofs.YtgdolholioccdaaDoor.PX
open Go.RowKit Go.Proofs.YtgdolholioccdaaDoorW.PrintWords Go.Proofs.YtgdolholioccdaaDoorW.PrintLast Go.Proofs.YtgdolholioccdaaDoorW.PrintMore
/-! The reader of anb: what its block says. -/
abbrev N51 := S51
def GoodN (x : N51) : Prop := x.f0.f1.size ≤ 1000000000 ∧ -2147483648 ≤ x.f0.f2 ∧ x.f0.f2 ≤ 2147483647
structure An (ws w : World) (g : Nat) (l : List N51) (bad : Bool) : Prop where
  keep : KeepBut ws w g none
  low : Below 0 ws w
  blk : ∃ A c, w.heap[g]? = some (.cells #[.slice A l.length c, .bool bad] 47 (0, 0)) ∧ l.length ≤ c ∧ Kd.F k51 w (fun k => k ≠ g) A l.length l
  size : l.length ≤ 1000000000
  text : ∀ x, x ∈ l → GoodN x
theorem An.move {ws w w' : World} {g : Nat} {l : List N51} {bad : Bool} (h : An ws w g l bad) (hk : KeepBut w w' g none) (hl : Below 0 w w') (hg : w'.heap[g]? = w.heap[g]?) : An ws w' g l bad := by
  obtain ⟨A, c, hb, hc, hr⟩ := h.blk
  exact ⟨h.keep.trans hk (.inl rfl), h.low.trans hl, ⟨A, c, hg.trans hb, hc, Kd.F_keep hr hk (fun _ h => h)⟩, h.size, h.text⟩
theorem An.drewN {ws w : World} {g : Nat} {l : List N51} {bad : Bool} (h : An ws w g l bad) (n : Nat) : An ws (w.drewN n) g l bad := h.move (KeepBut.refl w g none) (pw_below_drewN (Below.refl 0 w) n) rfl
theorem An.drawn {ws w w' : World} {g : Nat} {l : List N51} {bad : Bool} (h : An ws w g l bad) (hd : Drawn0 w w') : An ws w' g l bad := by
  obtain ⟨n, rfl⟩ := hd
  exact h.drewN n
theorem An.lt {ws w : World} {g : Nat} {l : List N51} {bad : Bool} (h : An ws w g l bad) : g < w.heap.size := by
  obtain ⟨A, c, hb, _⟩ := h.blk
  exact blk_lt hb
theorem An.below {ws w w' : World} {g : Nat} {l : List N51} {bad : Bool} (h : An ws w g l bad) (hb : Below w.heap.size w w') : An ws w' g l bad :=
  h.move (KeepBut.of_below hb g none) (hb.mono (Nat.zero_le _)) (hb.block g h.lt)
theorem An.alloc {ws w : World} {g : Nat} {l : List N51} {bad : Bool} (h : An ws w g l bad) (o : Obj) : An ws (w.alloc o) g l bad := h.below (below_alloc (Below.refl _ _) o)
/-- The row is another one (its blocks are not this one). -/
theorem An.row {ws w : World} {g : Nat} {l l' : List N51} {bad : Bool} (h : An ws w g l bad) {A : Option Addr} {c : Nat} (hc : l'.length ≤ c) (hr : Kd.F k51 w (fun k => k ≠ g) A l'.length l') (hs : l'.length ≤ 1000000000) (ht : ∀ x, x ∈ l' → GoodN x) :
    An ws (w.setCell ⟨g, 0, none⟩ (.slice A l'.length c)) g l' bad := by
  obtain ⟨A0, c0, hb, _, _⟩ := h.blk
  exact ⟨h.keep.set_ 0 _, h.low.setCell (Nat.zero_le _) _, ⟨A, c, by simpa using blk_set hb 0 (.slice A l'.length c), hc, Kd.F_far hr (fun _ h => h) _⟩, hs, ht⟩
theorem An.bad_ {ws w : World} {g : Nat} {l : List N51} {bad : Bool} (h : An ws w g l bad) (b : Bool) : An ws (w.setCell ⟨g, 1, none⟩ (.bool b)) g l b := by
  obtain ⟨A0, c0, hb, hc, hr⟩ := h.blk
  exact ⟨h.keep.set_ 1 _, h.low.setCell (Nat.zero_le _) _, ⟨A0, c0, by simpa using blk_set hb 1 (.bool b), hc, Kd.F_far hr (fun _ h => h) _⟩, h.size, h.text⟩
theorem An.c0 {ws w : World} {g : Nat} {l : List N51} {bad : Bool} (h : An ws w g l bad) : ∃ A c, w.cell? ⟨g, 0, none⟩ = some (.slice A l.length c) ∧ w.cell? ⟨g, 1, none⟩ = some (.bool bad) ∧ w.frozen? ⟨g, 0, none⟩ = false ∧ w.frozen? ⟨g, 1, none⟩ = false ∧ l.length ≤ c ∧ Kd.F k51 w (fun k => k ≠ g) A l.length l := by
  obtain ⟨A, c, hb, hc, hr⟩ := h.blk
  exact ⟨A, c, (blk_cell hb 0).trans rfl, (blk_cell hb 1).trans rfl, blk_frozen hb 0, blk_frozen hb 1, hc, hr⟩
def seeK : List N51 → Int
  | [] => 0
  | x :: _ => x.f0.f0
def seeT : List N51 → ByteArray
  | [] => ⟨#[]⟩
  | x :: _ => lowerB x.f0.f1
theorem An.hd {ws w : World} {g : Nat} {x : N51} {t : List N51} {bad : Bool} (h : An ws w g (x :: t) bad) : ∃ (ad : Addr) (n c : Nat) (A6 : Option Addr) (c6 : Nat) (A' : Option Addr) (c' m : Nat),
    w.cell? ⟨g, 0, none⟩ = some (.slice (some ad) n c) ∧ w.cell? ⟨g, 1, none⟩ = some (.bool bad) ∧ w.frozen? ⟨g, 0, none⟩ = false ∧ w.frozen? ⟨g, 1, none⟩ = false ∧ 0 < n ∧ n ≤ 1000000000 ∧
    w.cell? ad = some (.int .i64 x.f0.f0) ∧ w.cell? ⟨ad.block, ad.off + 1, none⟩ = some (.string x.f0.f1) ∧ w.cell? ⟨ad.block, ad.off + 2, none⟩ = some (.int .i64 x.f0.f2) ∧ w.cell? ⟨ad.block, ad.off + 3, none⟩ = some (.bool x.f0.f3) ∧ w.cell? ⟨ad.block, ad.off + 4, none⟩ = some (.bool x.f0.f4) ∧ w.cell? ⟨ad.block, ad.off + 5, none⟩ = some (.bool x.f0.f5) ∧ w.cell? ⟨ad.block, ad.off + 6, none⟩ = some (.slice A6 x.f1.length c6) ∧
    Aside0 (x.f1.length ≤ c6) ∧ Aside0 (Kd.C k51 w A6 x.f1.length x.f1) ∧ Aside0 (n = t.length + 1) ∧
    (∀ W : World, (Instr.slice 23 (.slice (some ad) n c) (some (.int .i64 1)) none none).run Tryd.prog W = .ok (.slice A' m c') W) ∧
    Aside0 (∀ W : World, An ws W g (x :: t) bad → W.cell? ⟨g, 0, none⟩ = some (.slice (some ad) n c) → An ws (W.setCell ⟨g, 0, none⟩ (.slice A' m c')) g t bad) ∧ Aside0 (m = t.length) := by
  obtain ⟨A, c, hc0, hc1, hf0, hf1, hc, hr⟩ := h.c0
  obtain ⟨ad, A6, c6, rfl, x0, x1, x2, x3, x4, x5, x6, hl6, hi6⟩ := at_T51 (Kd.F_now hr) 0 (by omega) (by simp)
  have e0 : rd_T51 (x :: t) 0 = x := rfl
  rw [e0] at x0 x1 x2 x3 x4 x5 x6 hl6 hi6
  rw [show (0 : Int).toNat * 7 = 0 from rfl, Addr.add_zero'] at x0 x1 x2 x3 x4 x5 x6
  obtain ⟨i0, hi0, _, hsz, _⟩ := info_parts info51
  have hcut := cut_from (P := Tryd.prog) 23 51 .i64 Tryd.underlying23 hi0 7 hsz (some ad) (x :: t).length c 1 (by omega) (by simp only [List.length_cons]; omega)
  refine ⟨ad, (x :: t).length, c, A6, c6, (if c = (1 : Int).toNat then some ad else (some ad).map (·.add ((1 : Int).toNat * 7))), c - (1 : Int).toNat, (x :: t).length - (1 : Int).toNat, hc0, hc1, hf0, hf1, by simp, h.size, x0, x1, x2, x3, x4, x5, x6, ⟨hl6⟩, ⟨hi6⟩, ⟨rfl⟩, hcut, ⟨?_⟩, ⟨rfl⟩⟩
  intro W hW hWc
  obtain ⟨A1, c1, hd0, hd1, hg0, hg1, hd, hs⟩ := hW.c0
  rw [hd0] at hWc
  injection hWc with hWc
  injection hWc with e1 e2 e3
  subst e1 e3
  have hF := Kd.F_cut (m := 1) (c := c1) hs (by simp) hd
  exact hW.row (l' := t) (A := if c1 = 1 then some ad else (some ad).map (·.add (1 * 7))) (c := c1 - 1) (by simp at hd; omega) hF (by have := hW.size; simp at this; omega) (fun y hy => hW.text y (List.mem_cons_of_mem _ hy))
theorem see_keep {w w1 w2 : World} {a b c : Addr} {va vb vc : Value} (h : w1.cell? a = some va ∧ w1.cell? b = some vb ∧ w1.cell? c = some vc ∧ Below w.heap.size w w1) (hb : Below w1.heap.size w1 w2) : w2.cell? a = some va ∧ w2.cell? b = some vb ∧ w2.cell? c = some vc ∧ Below w.heap.size w w2 :=
  ⟨pw_cell_below hb h.1, pw_cell_below hb h.2.1, pw_cell_below hb h.2.2.1, h.2.2.2.trans (hb.mono h.2.2.2.size)⟩
set_option maxHeartbeats 1000000 in
set_option maxRecDepth 100000 in
theorem see_c {ws w : World} {g : Nat} {l : List N51} {bad : Bool} (H : An ws w g l bad) :
    Calls Tryd.prog 21 #[.pointer (some ⟨g, 0, none⟩)] w fun e w' => e = .returned (.tuple #[.int .i64 (seeK l), .string (seeT l)]) ∧ Below w.heap.size w w' := by
  cases l with
  | nil =>
    obtain ⟨A, c, hc0, hc1, hf0, hf1, hc, hr⟩ := H.c0
    clear H hc1 hf0 hf1 hr
    go_enter Tryd.func21, Tryd.ntmps21
    go_wp2
    go_ret2
    exact ⟨rfl, Below.refl _ _⟩
  | cons x t =>
    have hx := (H.text x (by simp)).1
    obtain ⟨ad, n, c, A6, c6, A', c', m, hc0, hc1, hf0, hf1, hn, hnm, x0, x1, x2, x3, x4, x5, x6, hl6, hi6, hN, hcut, hS, hM⟩ := H.hd
    clear H hc1 hf0 hf1 hcut x2 x3 x4 x5 x6
    have hpos : decide (0 < n) = true := decide_eq_true hn
    have hn0 : ((n : Int) == 0) = false := beq_eq_false_iff_ne.2 (by omega)
    go_enter Tryd.func21, Tryd.ntmps21
    go_wp2
    go_region_held3 (fun w' => w'.cell? ⟨g, 0, none⟩ = some (.slice (some ad) n c) ∧ w'.cell? ad = some (.int .i64 x.f0.f0) ∧ w'.cell? ⟨ad.block, ad.off + 1, none⟩ = some (.string x.f0.f1) ∧ Below w.heap.size w w')
      (first | exact ⟨by simpa using hc0, by simpa using x0, by simpa using x1, below_drew (Below.refl _ _)⟩ | exact see_keep (by assumption) hb)
      (first | (go_at_call 34; refine (pLower_c x.f0.f1 _ hx).mono ?_; rintro e w' ⟨rfl, hb⟩))
    all_goals go_wp2
    all_goals (go_ret2; exact ⟨rfl, by go_split_ands; assumption⟩)

/-! The reader of anb: its methods. -/
set_option maxHeartbeats 2000000 in
set_option maxRecDepth 100000 in
theorem take_c {ws w : World} {g : Nat} {x : N51} {t : List N51} {bad : Bool} (H : An ws w g (x :: t) bad) :
    Calls Tryd.prog 35 #[.pointer (some ⟨g, 0, none⟩)] w fun e w' => e = .returned (tokV x.f0) ∧ An ws w' g t bad := by
  have hu := Tryd.underlying49
  have H0 := Aside0.mk H
  have hg := H.lt
  have hd1 : ¬ w.heap.size = g := by omega
  have hd2 : ¬ g = w.heap.size := by omega
  have hd3 : ¬ w.heap.size + 1 = g := by omega
  have hd4 : ¬ g = w.heap.size + 1 := by omega
  obtain ⟨ad, n, c, A6, c6, A', c', m, hc0, hc1, hf0, hf1, hn, hnm, x0, x1, x2, x3, x4, x5, x6, hl6, hi6, hN, hcut, hS, hM⟩ := H.hd
  have had := World.block_lt_of_cell? w _ x0
  have hpos : decide (0 < n) = true := decide_eq_true hn
  clear H hc1 hf1 x6
  go_enter Tryd.func35, Tryd.ntmps35
  have HC0 := Aside0.mk hc0
  go_wp2
  refine bodyPost_ret (v := tokV x.f0) ?_ rfl ⟨rfl, ((hS.out w H0.out HC0.out).alloc _).alloc _⟩
  simp [results, Tryd.results35, go_sem, tokV]
set_option maxHeartbeats 2000000 in
set_option maxRecDepth 100000 in
theorem white_c {ws w : World} {g : Nat} {l : List N51} {bad : Bool} (H : An ws w g l bad) :
    Calls Tryd.prog 37 #[.pointer (some ⟨g, 0, none⟩)] w fun e w' => e = .returned (.tuple #[]) ∧ An ws w' g (trimF l) bad := by
  have H0 := Aside0.mk H
  obtain ⟨l0, hl0⟩ : ∃ l0, l = l0 := ⟨_, rfl⟩
  have HE := Aside0.mk (show trimF l = trimF l0 by rw [hl0])
  rw [hl0]
  have H0 := Aside0.mk (hl0 ▸ H)
  clear H hl0 HE
  go_enter Tryd.func37, Tryd.ntmps37
  go_wp2
  go_loopg [] l0.length (fun n wr => ∃ l : List N51, l.length ≤ n ∧ Aside0 (An ws wr g l bad) ∧ Aside0 (trimF l = trimF l0))
  case atStart => exact ⟨l0, Nat.le_refl _, H0, ⟨rfl⟩⟩
  case round =>
    obtain ⟨l, hn, HR, HT⟩ := hrel
    clear H0
    cases hl : l with
    | nil =>
      subst hl
      obtain ⟨A, c, hc0, hc1, hf0, hf1, hc, hr⟩ := HR.out.c0
      clear hr hc
      go_wp2
      go_end0
      exact ⟨rfl, by rw [← HT.out]; exact HR.out⟩
    | cons x t =>
      subst hl
      obtain ⟨ad, n, c, A6, c6, A', c', m, hc0, hc1, hf0, hf1, hn0, hnm, x0, x1, x2, x3, x4, x5, x6, hl6, hi6, hN, hcut, hS, hM⟩ := HR.out.hd
      have had := World.block_lt_of_cell? wr _ x0
      have hpos : decide (0 < n) = true := decide_eq_true hn0
      have HC0 := Aside0.mk hc0
      cases hw : whiN x with
      | true =>
        have HW := Aside0.mk hw
        go_wp2_with (go_at_call 32; refine (nest_White.calls _ _ _ _ _ _ A6 c6 x.f1 true wr hi6.out hl6.out (congrArg some hw)).mono ?_; rintro e w2 ⟨rfl, hb2⟩; have d0 := pw_cell_below hb2 hc0; have e0 : w2.frozen? ⟨g, 0, none⟩ = false := (hb2.frozen (p := ⟨g, 0, none⟩) HR.out.lt).trans hf0; have HB2 := Aside0.mk hb2; clear hb2)
        go_roundg t.length
        case measure => simp at hn ⊢; omega
        case rel => exact ⟨t, Nat.le_refl _, ⟨hS.out _ (HR.out.below HB2.out) (pw_cell_below HB2.out HC0.out)⟩, ⟨by rw [← HT.out]; simp [trimF, HW.out]⟩⟩
      | false =>
        have HW := Aside0.mk hw
        go_wp2_with (go_at_call 32; refine (nest_White.calls _ _ _ _ _ _ A6 c6 x.f1 false wr hi6.out hl6.out (congrArg some hw)).mono ?_; rintro e w2 ⟨rfl, hb2⟩; have HB2 := Aside0.mk hb2; clear hb2)
        go_end0
        exact ⟨rfl, by rw [← HT.out, show trimF (x :: t) = x :: t by simp [trimF, HW.out]]; exact HR.out.below HB2.out⟩

def sgnB (c : UInt8) (l : List N51) : Bool := decide (seeK l = 9) && decide (seeT l = ⟨#[c]⟩)
def sgnV (l : List N51) : Int := if sgnB 43 l then 1 else if sgnB 45 l then -1 else 0
def sgnL (l : List N51) : List N51 := if sgnB 43 l then l.tail else if sgnB 45 l then l.tail else l
def nbrB (sg : Bool) : List N51 → Bool
  | [] => false
  | x :: _ => decide (x.f0.f0 = 10) && (x.f0.f4 == sg) && x.f0.f3
def nbrV (sg : Bool) : List N51 → Int
  | [] => 0
  | x :: t => if nbrB sg (x :: t) then x.f0.f2 else 0
def nbrL (sg : Bool) (l : List N51) : List N51 := if nbrB sg l then l.tail else l
theorem see_h {ws w : World} {g : Nat} {x : N51} {t : List N51} {bad : Bool} (H : An ws w g (x :: t) bad) :
    Calls Tryd.prog 21 #[.pointer (some ⟨g, 0, none⟩)] w fun e w' => e = .returned (.tuple #[.int .i64 x.f0.f0, .string (lowerB x.f0.f1)]) ∧ Below w.heap.size w w' := see_c H
theorem take_h {ws w : World} {g : Nat} {x : N51} {t : List N51} {bad : Bool} (H : An ws w g (x :: t) bad) :
    Calls Tryd.prog 35 #[.pointer (some ⟨g, 0, none⟩)] w fun e w' => e = .returned (.agg #[.int .i64 x.f0.f0, .string x.f0.f1, .int .i64 x.f0.f2, .bool x.f0.f3, .bool x.f0.f4, .bool x.f0.f5]) ∧ An ws w' g t bad := take_c H
set_option maxHeartbeats 2000000 in
set_option maxRecDepth 100000 in
theorem number_c {ws w : World} {g : Nat} {l : List N51} {bad : Bool} (sg : Bool) (H : An ws w g l bad) :
    Calls Tryd.prog 38 #[.pointer (some ⟨g, 0, none⟩), .bool sg] w fun e w' => e = .returned (.int .i64 (nbrV sg l)) ∧ An ws w' g (nbrL sg l) (bad || !nbrB sg l) := by
  have H0 := Aside0.mk H
  cases l with
  | nil =>
    clear H
    go_enter Tryd.func38, Tryd.ntmps38
    go_wp2_with (go_at_call 21; refine (see_c H0.out).mono ?_; rintro e w1 ⟨rfl, hb⟩; have HB := Aside0.mk hb; have h1 := (H0.out.below hb); obtain ⟨A, c, hc0, hc1, hf0, hf1, -, -⟩ := h1.c0; have HS := Aside0.mk h1; clear hb h1; have hk : (seeK [] != 10) = true := rfl)
    go_ret
    exact ⟨rfl, by have := HS.out.bad_ true; simpa [nbrL, nbrB] using this⟩
  | cons x t =>
    have hfd : ∀ W : World, (Instr.field 49 (.agg #[.int .i64 x.f0.f0, .string x.f0.f1, .int .i64 x.f0.f2, .bool x.f0.f3, .bool x.f0.f4, .bool x.f0.f5]) 2).run Tryd.prog W = .ok (.int .i64 x.f0.f2) W := fun _ => by kernel_rfl
    have HN := Aside0.mk (show nbrB sg (x :: t) = (decide (x.f0.f0 = 10) && (x.f0.f4 == sg) && x.f0.f3) from rfl)
    have HV := Aside0.mk (show nbrV sg (x :: t) = if nbrB sg (x :: t) then x.f0.f2 else 0 from rfl)
    have HL := Aside0.mk (show nbrL sg (x :: t) = if nbrB sg (x :: t) then t else x :: t from rfl)
    clear H
    by_cases hk : x.f0.f0 = 10
    · have hk1 : (x.f0.f0 != 10) = false := bne_eq_false_iff_eq.2 hk
      have HK := Aside0.mk hk
      clear hk
      cases h4 : x.f0.f4 <;> cases sg <;> cases h3 : x.f0.f3
      all_goals
        have HQ := Aside0.mk (⟨h4, h3⟩ : _ ∧ _)
        have H3 := Aside0.mk h3
        have H4 := Aside0.mk h4
        clear h3 h4
        go_enter Tryd.func38, Tryd.ntmps38
        go_wp2_with (first
          | (go_at_call 21; refine (see_h H0.out).mono ?_; rintro e w1 ⟨rfl, hb⟩; have h1 := (H0.out.below hb); obtain ⟨ad, n, c, A6, c6, A', c', m, hc0, hc1, hf0, hf1, hn, hnm, x0, x1, x2, x3, x4, x5, x6, hl6, hi6, hN, hcut, hS, hM⟩ := h1.hd; rw [H3.out] at x3; rw [H4.out] at x4; have hpos : decide (0 < n) = true := decide_eq_true hn; have HS := Aside0.mk h1; clear hb h1)
          | (go_at_call 35; refine (take_h HS.out).mono ?_; rintro e w2 ⟨rfl, h2⟩; have HS2 := Aside0.mk h2; clear h2))
        go_ret
        first
          | exact ⟨by rw [HV.out, HN.out, HK.out, H3.out, H4.out]; rfl, by rw [HL.out, HN.out, HK.out, H3.out, H4.out]; have := HS2.out; simpa using this⟩
          | exact ⟨by rw [HV.out, HN.out, HK.out, H3.out, H4.out]; rfl, by rw [HL.out, HN.out, HK.out, H3.out, H4.out]; have := HS.out.bad_ true; simpa using this⟩
    · have hk1 : (x.f0.f0 != 10) = true := bne_iff_ne.2 hk
      have HK := Aside0.mk (decide_eq_false hk)
      clear hk
      go_enter Tryd.func38, Tryd.ntmps38
      go_wp2_with (go_at_call 21; refine (see_h H0.out).mono ?_; rintro e w1 ⟨rfl, hb⟩; have h1 := (H0.out.below hb); obtain ⟨A, c, hc0, hc1, hf0, hf1, -, -⟩ := h1.c0; have HS := Aside0.mk h1; clear hb h1)
      go_ret
      exact ⟨by rw [HV.out, HN.out, HK.out]; rfl, by rw [HL.out, HN.out, HK.out]; have := HS.out.bad_ true; simpa using this⟩
set_option maxHeartbeats 4000000 in
set_option maxRecDepth 100000 in
theorem sign_c {ws w : World} {g : Nat} {l : List N51} {bad : Bool} (H : An ws w g l bad) :
    Calls Tryd.prog 41 #[.pointer (some ⟨g, 0, none⟩)] w fun e w' => e = .returned (.int .i64 (sgnV l)) ∧ An ws w' g (sgnL l) bad := by
  have H0 := Aside0.mk H
  have HV := Aside0.mk (show sgnV l = if sgnB 43 l then 1 else if sgnB 45 l then -1 else 0 from rfl)
  have HL := Aside0.mk (show sgnL l = if sgnB 43 l then l.tail else if sgnB 45 l then l.tail else l from rfl)
  have HB := Aside0.mk (fun c => show sgnB c l = (decide (seeK l = 9) && decide (seeT l = ⟨#[c]⟩)) from rfl)
  clear H
  by_cases hk : seeK l = 9
  · have hk1 : (seeK l == 9) = true := beq_iff_eq.2 hk
    have HK := Aside0.mk hk
    cases l with
    | nil => exact absurd hk (by decide)
    | cons x t =>
      clear hk
      by_cases h1 : seeT (x :: t) = ⟨#[43]⟩
      · have e1 := str_eqT (show seeT (x :: t) = ⟨[43].toArray⟩ from h1)
        have H1 := Aside0.mk h1
        clear h1
        go_enter Tryd.func41, Tryd.ntmps41
        go_wp2_with (first
          | (go_at_call 21; refine (see_c H0.out).mono ?_; rintro e w1 ⟨rfl, hb⟩; have HS := Aside0.mk (H0.out.below hb); clear hb)
          | (go_at_call 35; refine (take_h HS.out).mono ?_; rintro e w2 ⟨rfl, h2⟩; have HS2 := Aside0.mk h2; clear h2))
        go_ret
        exact ⟨by rw [HV.out, HB.out, HK.out, H1.out]; rfl, by rw [HL.out, HB.out, HK.out, H1.out]; exact HS2.out⟩
      · have e1 := str_eqF (show ¬ seeT (x :: t) = ⟨[43].toArray⟩ from h1)
        have H1 := Aside0.mk (decide_eq_false h1)
        clear h1
        by_cases h2 : seeT (x :: t) = ⟨#[45]⟩
        · have e2 := str_eqT (show seeT (x :: t) = ⟨[45].toArray⟩ from h2)
          have H2 := Aside0.mk (decide_eq_true h2)
          clear h2
          go_enter Tryd.func41, Tryd.ntmps41
          go_wp2_with (first
            | (go_at_call 21; refine (see_c H0.out).mono ?_; rintro e w1 ⟨rfl, hb⟩; have HS := Aside0.mk (H0.out.below hb); clear hb)
            | (go_at_call 35; refine (take_h HS.out).mono ?_; rintro e w2 ⟨rfl, h2⟩; have HS2 := Aside0.mk h2; clear h2))
          go_ret
          exact ⟨by rw [HV.out, HB.out, HB.out, HK.out, H1.out, H2.out]; rfl, by rw [HL.out, HB.out, HB.out, HK.out, H1.out, H2.out]; exact HS2.out⟩
        · have e2 := str_eqF (show ¬ seeT (x :: t) = ⟨[45].toArray⟩ from h2)
          have H2 := Aside0.mk (decide_eq_false h2)
          clear h2
          go_enter Tryd.func41, Tryd.ntmps41
          go_wp2_with (go_at_call 21; refine (see_c H0.out).mono ?_; rintro e w1 ⟨rfl, hb⟩; have HS := Aside0.mk (H0.out.below hb); clear hb)
          go_ret
          exact ⟨by rw [HV.out, HB.out, HB.out, HK.out, H1.out, H2.out]; rfl, by rw [HL.out, HB.out, HB.out, HK.out, H1.out, H2.out]; exact HS.out⟩
  · have hk1 : (seeK l == 9) = false := beq_eq_false_iff_ne.2 hk
    have HK := Aside0.mk (decide_eq_false hk)
    clear hk
    go_enter Tryd.func41, Tryd.ntmps41
    go_wp2_with (go_at_call 21; refine (see_c H0.out).mono ?_; rintro e w1 ⟨rfl, hb⟩; have HS := Aside0.mk (H0.out.below hb); clear hb)
    go_ret
    exact ⟨by rw [HV.out, HB.out, HB.out, HK.out]; rfl, by rw [HL.out, HB.out, HB.out, HK.out]; exact HS.out⟩

def redC (c : Int) : Int := if c = 13 ∨ c = 12 then 10 else if c = 0 then 65533 else c
def redP : Nat → Bool → Bool → ByteArray → Nat → List Int
  | 0, _, _, _, _ => []
  | n + 1, f, cr, s, pos => if pos < s.size then
      (if f && (((Utf8.decode s pos).1 : Int) == 65279) then redP n false cr s (pos + (Utf8.decode s pos).2)
       else if cr && (((Utf8.decode s pos).1 : Int) == 10) then redP n false false s (pos + (Utf8.decode s pos).2)
       else redC (Utf8.decode s pos).1 :: redP n false (((Utf8.decode s pos).1 : Int) == 13) s (pos + (Utf8.decode s pos).2))
    else []
def reads (s : ByteArray) : List Int := redP s.size true false s 0
theorem width_pos (s : ByteArray) (pos : Nat) (h : pos < s.size) : 1 ≤ (Utf8.decode s pos).2 := by
  by_cases ha : (s[pos]'h).toNat < 128
  · rw [decode_ascii s pos h ha]
    exact Nat.le_refl _
  · exact (decode_high s pos h (by omega)).2
theorem redP_end (n : Nat) (f cr : Bool) (s : ByteArray) (pos : Nat) (h : ¬ pos < s.size) : redP n f cr s pos = [] := by
  cases n with
  | zero => rfl
  | succ n => unfold redP; rw [if_neg h]
theorem redP_one (n : Nat) (f cr : Bool) (s : ByteArray) (pos c wd : Nat) (h : pos < s.size) (hd : Utf8.decode s pos = (c, wd)) : redP (n + 1) f cr s pos =
    (if f && ((c : Int) == 65279) then redP n false cr s (pos + wd) else if cr && ((c : Int) == 10) then redP n false false s (pos + wd) else redC c :: redP n false ((c : Int) == 13) s (pos + wd)) := by
  conv => lhs; unfold redP
  rw [if_pos h, hd]
theorem own_iter {w : World} {base n k : Nat} {v : Value} {xs : List Value} {e : TypeId} {s : ByteArray} {pos : Nat} (h : w.ownsRow base e 1 v n xs) (hk : w.heap[k]? = some (.stringIter s pos)) (pos' : Nat) : (w.iterAt k s pos').ownsRow base e 1 v n xs := by
  refine own_move h (fun j hj => Lib.iterAt_other w k j s pos' ?_)
  obtain ⟨cells, hc⟩ := own_typed h j hj
  rintro rfl
  rw [hk] at hc
  cases hc
theorem own_ne_iter {w : World} {base n k : Nat} {v : Value} {xs : List Value} {e : TypeId} {s : ByteArray} {pos : Nat} (h : w.ownsRow base e 1 v n xs) (hk : w.heap[k]? = some (.stringIter s pos)) : some k ≠ v.ownBlock := by
  intro e1
  obtain ⟨cells, hc⟩ := own_typed h k e1.symm
  rw [hk] at hc
  cases hc
theorem info21 : (Tryd.prog.info? 21).map (fun i => (i.zero, i.size, i.bytes)) = some (some (.int .i32 0), 1, 4) := by kernel_rfl
set_option maxHeartbeats 4000000 in
set_option maxRecDepth 100000 in
theorem Read_c (b cap : Nat) (s : ByteArray) (w : World) (hc : ∀ i, i < s.size → w.cell? ⟨b, i, none⟩ = some (.int .u8 (byteAt s i))) (hz : s.size ≤ 1000000000) :
    Calls Tryd.prog 19 #[.slice (some ⟨b, 0, none⟩) s.size cap] w fun e w' => ∃ v, e = .returned v ∧ w'.ownsRow w.heap.size 21 1 v (reads s).length (nums .i32 (reads s)) ∧ Below w.heap.size w w' := by
  have hconv : (convert 43 9 (.slice (some ⟨b, 0, none⟩) s.size cap)).run Tryd.prog w = .ok (.string s) w := by
    have h := run_convert_bytes_arg (P := Tryd.prog) w 43 5 Tryd.underlying43 Tryd.underlying5 b 0 s.size cap (s.data.toList.map fun c => (c.toNat : Int)) (by rw [List.length_map, Array.length_toList]; rfl) (by
      intro i hi
      rw [Nat.zero_add, hc i hi]
      have hi' : i < s.data.toList.length := by rw [Array.length_toList]; exact hi
      simp [byteAt, List.getD_eq_getElem?_getD, List.getElem?_eq_getElem hi']) 9 Tryd.underlying9
    rw [h]
    congr 2
    refine WideShapes.bytes_inj ?_
    rw [strOfNums_data, List.map_map]
    conv => rhs; rw [← List.map_id s.data.toList]
    exact List.map_congr_left fun c _ => by show UInt8.ofNat ((c.toNat : Int)).toNat = c; rw [Int.toNat_natCast, UInt8.ofNat_toNat]
  clear hc
  go_enter Tryd.func19, Tryd.ntmps19
  go_wp2
  obtain ⟨k, hk⟩ : ∃ n, w.heap.size = n := ⟨_, rfl⟩
  have hit0 : (w.iter s 0).heap[k]? = some (.stringIter s 0) := by rw [← hk]; exact World.iter_heap w s 0
  have HIT := Aside0.mk hit0
  have HBL := Aside0.mk (below_alloc (Below.refl w.heap.size w) (.stringIter s 0))
  have HBW : Aside0 (Below k w (w.iter s 0)) := ⟨by have := HBL.out; rw [hk] at this; exact this⟩
  have HSZ : Aside0 (k + 1 ≤ (w.iter s 0).heap.size) := ⟨by rw [← hk]; simp [World.iter]⟩
  clear hit0 HBL
  rw [hk]
  have HK := Aside0.mk hk
  clear hk
  generalize w.iter s 0 = wI at HIT HBW HSZ ⊢
  go_loopg [3, 4, 5] s.size (fun n v f cr wr => ∃ (pos : Nat) (xs : List Int) (fb cb : Bool), f = .bool fb ∧ cr = .bool cb ∧ Aside0 (wr.heap[k]? = some (.stringIter s pos)) ∧ Aside0 (wr.ownsRow k 21 1 v xs.length (nums .i32 xs)) ∧ Aside0 (xs ++ redP n fb cb s pos = reads s) ∧ s.size ≤ pos + n ∧ xs.length + n ≤ s.size ∧ Aside0 (Below k w wr) ∧ Aside0 (k + 1 ≤ wr.heap.size))
  case atStart => exact ⟨0, [], true, false, rfl, rfl, HIT, ⟨own_nil _ _ _ _⟩, ⟨rfl⟩, by omega, by simp, HBW, HSZ⟩
  case round =>
    obtain ⟨pos, xs, fb, cb, rfl, rfl, HI, HO, HE, hpn, hxn, HB, HZ⟩ := hrel
    clear HIT HBW HSZ
    by_cases hp : pos < s.size
    · cases gk with
      | zero => omega
      | succ gm =>
      obtain ⟨cc, wd, hdec⟩ : ∃ cc wd, Utf8.decode s pos = (cc, wd) := ⟨_, _, rfl⟩
      have hwd := width_pos s pos hp
      rw [hdec] at hwd
      have hone := redP_one gm fb cb s pos cc wd hp hdec
      have hnx : ∀ ty, (Instr.next (.pointer (some ⟨k, 0, none⟩)) true ty).run Tryd.prog wr = .ok (.tuple #[.bool true, .int .i64 pos, .int .i32 cc]) (wr.iterAt k s (pos + wd)) := by
        intro ty
        have h := Lib.run_next_any_at (P := Tryd.prog) wr k s pos ty HI.out hp
        rw [hdec] at h
        exact h
      have HI2 := Aside0.mk (Lib.iterAt_heap wr k s pos (pos + wd) HI.out)
      have HO2 := Aside0.mk (own_iter HO.out HI.out (pos + wd))
      have HB2 := Aside0.mk (Lib.below_iterAt HB.out (Nat.le_refl k) s (pos + wd))
      have HZ2 : Aside0 (k + 1 ≤ (wr.iterAt k s (pos + wd)).heap.size) := ⟨by rw [Lib.iterAt_size]; exact HZ.out⟩
      have HONE := Aside0.mk hone
      clear hone hdec HI HO HB HZ
      generalize wr.iterAt k s (pos + wd) = w2 at hnx HI2 HO2 HB2 HZ2
      cases h1 : (fb && ((cc : Int) == 65279)) with
      | true =>
        have HE2 := Aside0.mk (show xs ++ redP gm false cb s (pos + wd) = reads s by rw [← HE.out, HONE.out, if_pos h1])
        obtain ⟨rfl, h2⟩ : fb = true ∧ ((cc : Int) == 65279) = true := by simpa only [Bool.and_eq_true] using h1
        clear h1
        go_wp2
        go_roundg gm
        case rel => exact ⟨pos + wd, xs, false, cb, rfl, rfl, HI2, HO2, HE2, by omega, by omega, HB2, HZ2⟩
        case measure => omega
      | false =>
        have hf : fb = false ∨ (fb = true ∧ ((cc : Int) == 65279) = false) := by
          cases fb with
          | false => exact .inl rfl
          | true => exact .inr ⟨rfl, by simpa only [Bool.true_and] using h1⟩
        cases h3 : (cb && ((cc : Int) == 10)) with
        | true =>
          have HE2 := Aside0.mk (show xs ++ redP gm false false s (pos + wd) = reads s by rw [← HE.out, HONE.out, if_neg (by rw [h1]; simp), if_pos h3])
          obtain ⟨rfl, h4⟩ : cb = true ∧ ((cc : Int) == 10) = true := by simpa only [Bool.and_eq_true] using h3
          clear h1 h3
          rcases hf with rfl | ⟨rfl, h2⟩
          all_goals
            go_wp2
            go_roundg gm
            case rel => exact ⟨pos + wd, xs, false, false, rfl, rfl, HI2, HO2, HE2, by omega, by omega, HB2, HZ2⟩
            case measure => omega
        | false =>
          have HE2 := Aside0.mk (show (xs ++ [redC cc]) ++ redP gm false ((cc : Int) == 13) s (pos + wd) = reads s by rw [← HE.out, HONE.out, if_neg (by rw [h1]; simp), if_neg (by rw [h3]; simp)]; simp)
          have hg : cb = false ∨ (cb = true ∧ ((cc : Int) == 10) = false) := by
            cases cb with
            | false => exact .inl rfl
            | true => exact .inr ⟨rfl, by simpa only [Bool.true_and] using h3⟩
          clear h1 h3
          obtain ⟨d, b13, b12, b0, hd⟩ : ∃ d : Int, (((cc : Int) == 13) = true ∧ d = 10 ∨ ((cc : Int) == 13) = false ∧ ((cc : Int) == 12) = true ∧ d = 10 ∨ ((cc : Int) == 13) = false ∧ ((cc : Int) == 12) = false ∧ ((cc : Int) == 0) = true ∧ d = 65533 ∨ ((cc : Int) == 13) = false ∧ ((cc : Int) == 12) = false ∧ ((cc : Int) == 0) = false ∧ d = cc) ∧ True ∧ True ∧ redC cc = d := by
            by_cases e1 : (cc : Int) = 13
            · exact ⟨10, .inl ⟨beqT e1, rfl⟩, trivial, trivial, by unfold redC; rw [if_pos (.inl e1)]⟩
            · by_cases e2 : (cc : Int) = 12
              · exact ⟨10, .inr (.inl ⟨beqF e1, beqT e2, rfl⟩), trivial, trivial, by unfold redC; rw [if_pos (.inr e2)]⟩
              · by_cases e3 : (cc : Int) = 0
                · exact ⟨65533, .inr (.inr (.inl ⟨beqF e1, beqF e2, beqT e3, rfl⟩)), trivial, trivial, by unfold redC; rw [if_neg (by omega), if_pos e3]⟩
                · exact ⟨cc, .inr (.inr (.inr ⟨beqF e1, beqF e2, beqF e3, rfl⟩)), trivial, trivial, by unfold redC; rw [if_neg (by omega), if_neg e3]⟩
          rw [hd] at HE2
          clear hd b12 b0 HONE HE
          rcases b13 with ⟨c13, rfl⟩ | ⟨c13, c12, rfl⟩ | ⟨c13, c12, c0, rfl⟩ | ⟨c13, c12, c0, rfl⟩
          all_goals
            rw [c13] at HE2
            have C13 := Aside0.mk c13
            rcases hf with rfl | ⟨rfl, h2⟩ <;> rcases hg with rfl | ⟨rfl, h4⟩
          all_goals
            go_wp2_with (first | (at_builtin; refine print_append_num (w0 := w) k rfl (.tmp 32) (.tmp 34) 41 21 .i32 4 rfl Tryd.underlying41 info21 (by decide) u3 xs _ rfl rfl HO2.out HB2.out (by have := HZ2.out; omega) (by omega) ?_; intro v1 w3 ho hb hg2 hat; have HO3 := Aside0.mk ho; have HB3 := Aside0.mk hb; have HI3 := Aside0.mk ((hg2.block k (by have := HZ2.out; omega) (own_ne_iter HO2.out HI2.out)).trans HI2.out); have HZ3 : Aside0 (k + 1 ≤ w3.heap.size) := ⟨by have := hg2.size; have := HZ2.out; omega⟩; clear ho hb hg2 hat))
            go_roundg gm
            case rel => exact ⟨pos + wd, _, false, _, rfl, rfl, HI3, HO3, HE2, by omega, by simp; omega, HB3, HZ3⟩
            case measure => omega
    · have HQ := Aside0.mk (show xs = reads s by rw [← HE.out, redP_end _ _ _ _ _ hp]; simp)
      have hnx : ∀ ty, (Instr.next (.pointer (some ⟨k, 0, none⟩)) true ty).run Tryd.prog wr = .ok (.tuple #[.bool false]) wr := fun ty => Lib.run_next_end_at (P := Tryd.prog) wr k s pos ty HI.out hp
      go_wp2
      go_ret
      exact ⟨u3, rfl, by rw [HK.out, ← HQ.out]; exact HO.out, by rw [HK.out]; exact HB.out⟩

/-! token.Int: the number of a text, held to 32 binary digits. -/
def decC (n : Int) : List UInt8 → Option Int
  | [] => some n
  | b :: t => if 48 ≤ b.toNat ∧ b.toNat ≤ 57 then decC (min (10 * n + ((b.toNat : Int) - 48)) 2147483648) t else none
def tokI (l : List UInt8) : Int :=
  if 1 < l.length - (Lib.trimLeftS l [43, 45]).length ∨ Lib.trimLeftS l [43, 45] = [] then 0 else
  match decC 0 (Lib.trimLeftS l [43, 45]) with
  | none => 0
  | some n => if intM l then max (-n) (-2147483648) else min n 2147483647
theorem set116 : (Tryd.prog.info? (Tryd.lays160_ren.t 116)).map (fun i => (i.zero, i.size)) = some (some (.agg (Array.replicate 256 (.bool false))), 256) := by kernel_rfl
theorem set116L : (Tryd.prog.info? (Tryd.lays161_ren.t 116)).map (fun i => (i.zero, i.size)) = some (some (.agg (Array.replicate 256 (.bool false))), 256) := by kernel_rfl
theorem sTrim_c (s cut : ByteArray) (w : World) (hs : s.size ≤ 9223372036854775807) (hc : cut.size < 4294967281) (ha : cut.data.toList.all (fun b => decide (b.toNat < 128)) = true) :
    Calls Tryd.prog 39 #[.string s, .string cut] w fun e w' => e = .returned (.string ⟨(Lib.trimS s.data.toList cut.data.toList).toArray⟩) ∧ Below w.heap.size w w' :=
  Any.strings_Trim_laid Tryd.lays160 set116 s cut w hs hc (ascii_of_all ha)
theorem sTrimL_c (s cut : ByteArray) (w : World) (hc : cut.size < 4294967281) (ha : cut.data.toList.all (fun b => decide (b.toNat < 128)) = true) :
    Calls Tryd.prog 67 #[.string s, .string cut] w fun e w' => e = .returned (.string ⟨(Lib.trimLeftS s.data.toList cut.data.toList).toArray⟩) ∧ Below w.heap.size w w' :=
  Any.strings_TrimLeft_laid Tryd.lays161 set116L s cut w hc (ascii_of_all ha)
theorem trimL_suf (l c : List UInt8) : Lib.trimLeftS l c <:+ l := by
  unfold Lib.trimLeftS
  exact List.dropWhile_suffix _

theorem TrimLeft_d (s cut D : ByteArray) (w : World) (hc : cut.size < 4294967281) (ha : cut.data.toList.all (fun b => decide (b.toNat < 128)) = true) (hD : D.data.toList = Lib.trimLeftS s.data.toList cut.data.toList) :
    Calls Tryd.prog 67 #[.string s, .string cut] w fun e w' => e = .returned (.string D) ∧ Below w.heap.size w w' :=
  (sTrimL_c s cut w hc ha).mono fun e w' ⟨h, hb⟩ => ⟨by rw [h, ← hD], hb⟩
theorem digit_t (c : Nat) (w : World) : Calls Tryd.prog 68 #[.int .i32 (c : Int)] w fun e w' => e = .returned (.bool (digB (c : Int))) ∧ Drawn0 w w' := by
  refine points_Digit.calls (c : Int) _ w ?_
  unfold points_Digit.f digB
  split <;> simp <;> omega
theorem intM_at (l : List UInt8) (h : 0 < l.length) : intM l = decide ((l[0]'h).toNat = 45) := by
  cases l with
  | nil => cases h
  | cons _ _ => rfl
theorem neg_min (a : Int) : Ending.returned (.int .i64 (-min a 2147483648)) = Ending.returned (.int .i64 (max (-a) (-2147483648))) := by
  rw [show -min a 2147483648 = max (-a) (-2147483648) by omega]
theorem empty_T {s : ByteArray} (h : s.size = 0) : s.toList = [] := by
  rw [ByteArray.toList_eq]
  exact List.eq_nil_of_length_eq_zero (by rw [Array.length_toList]; exact h)
theorem empty_F {s : ByteArray} (h : ¬ s.size = 0) : s.toList ≠ [] := by
  rw [ByteArray.toList_eq]
  intro e
  exact h (by have := congrArg List.length e; rw [Array.length_toList] at this; exact this)
set_option maxHeartbeats 4000000 in
set_option maxRecDepth 100000 in
theorem tokInt_c (s : ByteArray) (w : World) (hs : s.size ≤ 1000000000) :
    Calls Tryd.prog 40 #[.string s] w fun e w' => e = .returned (.int .i64 (tokI s.data.toList)) ∧ Below w.heap.size w w' := by
  have hsz : s.data.toList.length = s.size := by rw [Array.length_toList]; rfl
  have HSUF := trimL_suf s.data.toList [43, 45]
  have HT := Aside0.mk (show tokI s.data.toList = if 1 < s.data.toList.length - (Lib.trimLeftS s.data.toList [43, 45]).length ∨ Lib.trimLeftS s.data.toList [43, 45] = [] then 0 else
    match decC 0 (Lib.trimLeftS s.data.toList [43, 45]) with
    | none => 0
    | some n => if intM s.data.toList then max (-n) (-2147483648) else min n 2147483647 from rfl)
  obtain ⟨D, hD⟩ : ∃ D : ByteArray, D.data.toList = Lib.trimLeftS s.data.toList [43, 45] := ⟨⟨(Lib.trimLeftS s.data.toList [43, 45]).toArray⟩, rfl⟩
  rw [← hD] at HT HSUF
  have hDz : D.data.toList.length = D.size := by rw [Array.length_toList]; rfl
  have hle : D.size ≤ s.size := by have := HSUF.length_le; omega
  have HD := Aside0.mk hD
  rw [hDz, hsz] at HT
  have HDZ := Aside0.mk hDz
  clear hD hDz hsz HSUF
  by_cases h1 : 1 < s.size - D.size
  · have HT2 := Aside0.mk (HT.out.trans (if_pos (.inl h1)))
    have d1 : decide ((1 : Int) < (s.size : Int) - D.size) = true := decide_eq_true (by omega)
    clear HT
    go_enter Tryd.func40, Tryd.ntmps40
    go_wp2_with (go_at_call 67; refine (TrimLeft_d s ⟨#[43, 45]⟩ D _ (by decide) (by decide) HD.out).mono ?_; rintro e w1 ⟨rfl, hb⟩; have HB := Aside0.mk hb; clear hb)
    go_ret
    exact ⟨by rw [HT2.out]; rfl, HB.out⟩
  · have d1 : decide ((1 : Int) < (s.size : Int) - D.size) = false := decide_eq_false (by omega)
    by_cases h2 : D.size = 0
    · have d2 := empty_T h2
      have HT2 := Aside0.mk (HT.out.trans (if_pos (.inr (List.eq_nil_of_length_eq_zero (by rw [HDZ.out]; exact h2)))))
      have d3 : D.toList.isEmpty = true := by rw [d2]; rfl
      clear HT h2
      go_enter Tryd.func40, Tryd.ntmps40
      go_wp2_with (go_at_call 67; refine (TrimLeft_d s ⟨#[43, 45]⟩ D _ (by decide) (by decide) HD.out).mono ?_; rintro e w1 ⟨rfl, hb⟩; have HB := Aside0.mk hb; clear hb)
      go_ret
      exact ⟨by rw [HT2.out]; rfl, HB.out⟩
    · have d2 := empty_F h2
      have HT2 := Aside0.mk (HT.out.trans (if_neg (by
        rintro (h | h)
        · exact h1 h
        · rw [← HDZ.out, h] at h2; exact h2 rfl)))
      have d3 : D.toList.isEmpty = false := by cases h : D.toList with | nil => exact absurd h d2 | cons _ _ => rfl
      clear HT
      have h0 : 0 < s.size := by omega
      go_enter Tryd.func40, Tryd.ntmps40
      go_wp2_with (go_at_call 67; refine (TrimLeft_d s ⟨#[43, 45]⟩ D _ (by decide) (by decide) HD.out).mono ?_; rintro e w1 ⟨rfl, hb⟩; have HB := Aside0.mk hb; clear hb)
      obtain ⟨k, hk⟩ : ∃ n, w1.heap.size = n := ⟨_, rfl⟩
      have hit0 : (w1.iter D 0).heap[k]? = some (.stringIter D 0) := by rw [← hk]; exact World.iter_heap w1 D 0
      have HIT := Aside0.mk hit0
      have HBW : Aside0 (Below w.heap.size w (w1.iter D 0)) := ⟨HB.out.alloc HB.out.size _⟩
      have HKW : Aside0 (w.heap.size ≤ k) := ⟨by rw [← hk]; exact HB.out.size⟩
      clear hit0 HB
      rw [hk]
      clear hk
      generalize w1.iter D 0 = wI at HIT HBW ⊢
      go_loopg [4] D.size (fun n v wr => ∃ (pos : Nat) (a : Int), v = .int .i64 a ∧ 0 ≤ a ∧ a ≤ 2147483648 ∧ Aside0 (wr.heap[k]? = some (.stringIter D pos)) ∧ Aside0 (decC a (D.data.toList.drop pos) = decC 0 D.data.toList) ∧ D.size ≤ pos + n ∧ Aside0 (Below w.heap.size w wr))
      case atStart => exact ⟨0, 0, rfl, by omega, by omega, HIT, ⟨rfl⟩, by omega, HBW⟩
      case round =>
        obtain ⟨pos, a, rfl, ha0, ha1, HI, HE, hpn, HB⟩ := hrel
        clear HIT HBW
        by_cases hp : pos < D.size
        · cases gk with
          | zero => omega
          | succ gm =>
          obtain ⟨cc, wd, hdec⟩ : ∃ cc wd, Utf8.decode D pos = (cc, wd) := ⟨_, _, rfl⟩
          have hwd := width_pos D pos hp
          rw [hdec] at hwd
          have hnx : ∀ ty, (Instr.next (.pointer (some ⟨k, 0, none⟩)) true ty).run Tryd.prog wr = .ok (.tuple #[.bool true, .int .i64 pos, .int .i32 cc]) (wr.iterAt k D (pos + wd)) := by
            intro ty
            have h := Lib.run_next_any_at (P := Tryd.prog) wr k D pos ty HI.out hp
            rw [hdec] at h
            exact h
          have hpl : pos < D.data.toList.length := by rw [HDZ.out]; exact hp
          have hdr := List.drop_eq_getElem_cons hpl
          obtain ⟨b, hb⟩ : ∃ b : UInt8, D.data.toList[pos]'hpl = b := ⟨_, rfl⟩
          rw [hb] at hdr
          have hb' : D[pos]'hp = b := hb
          have hcase : (48 ≤ b.toNat ∧ b.toNat ≤ 57) ∧ cc = b.toNat ∧ wd = 1 ∨ ¬ (48 ≤ b.toNat ∧ b.toNat ≤ 57) ∧ digB (cc : Int) = false := by
            by_cases ha : (D[pos]'hp).toNat < 128
            · have h := decode_ascii D pos hp ha
              rw [hdec, hb'] at h
              injection h with e1 e2
              by_cases hd : 48 ≤ b.toNat ∧ b.toNat ≤ 57
              · exact .inl ⟨hd, e1, e2⟩
              · exact .inr ⟨hd, by unfold digB; exact decide_eq_false (by omega)⟩
            · have h := (decode_high D pos hp (by omega)).1
              rw [hdec] at h
              rw [hb'] at ha
              exact .inr ⟨by omega, by unfold digB; exact decide_eq_false (by have h' : 128 ≤ cc := h; omega)⟩
          have HI2 := Aside0.mk (Lib.iterAt_heap wr k D pos (pos + wd) HI.out)
          have HB2 := Aside0.mk (Lib.below_iterAt HB.out HKW.out D (pos + wd))
          have HDR := Aside0.mk hdr
          clear hdec HI HB hdr hb hb' hpl
          generalize wr.iterAt k D (pos + wd) = w2 at hnx HI2 HB2
          rcases hcase with ⟨hdg, rfl, rfl⟩ | ⟨hdg, hdf⟩
          · have HE2 := Aside0.mk (show decC (min (10 * a + ((b.toNat : Int) - 48)) 2147483648) (D.data.toList.drop (pos + 1)) = decC 0 D.data.toList by
              rw [← HE.out, HDR.out]
              conv => rhs; unfold decC
              rw [if_pos hdg])
            have hdt : digB (b.toNat : Int) = true := by unfold digB; exact decide_eq_true (by omega)
            have hmn : 0 ≤ min (10 * a + ((b.toNat : Int) - 48)) 2147483648 ∧ min (10 * a + ((b.toNat : Int) - 48)) 2147483648 ≤ 2147483648 := by omega
            have HMN := Aside0.mk hmn
            clear hmn HE
            obtain ⟨z, hz⟩ : ∃ z : Int, (b.toNat : Int) = z := ⟨_, rfl⟩
            have hz0 : 48 ≤ z := by omega
            have hz1 : z ≤ 57 := by omega
            rw [hz] at hnx hdt HE2 HMN
            have HZ := Aside0.mk hz
            clear hdg hz
            go_wp2_with (go_at_call 68; have hdg := digit_t b.toNat w2; rw [HZ.out] at hdg; refine hdg.mono ?_; clear hdg; rw [hdt]; rintro e w3 ⟨rfl, hb3⟩; have HB3 := Aside0.mk hb3; clear hb3)
            go_roundg gm
            case rel => exact ⟨pos + 1, _, rfl, HMN.out.1, HMN.out.2, ⟨by obtain ⟨n, rfl⟩ := HB3.out; exact HI2.out⟩, HE2, by omega, ⟨by obtain ⟨n, rfl⟩ := HB3.out; exact pw_below_drewN HB2.out n⟩⟩
            case measure => omega
          · have HE2 := Aside0.mk (show decC 0 D.data.toList = none by
              rw [← HE.out, HDR.out]
              conv => lhs; unfold decC
              rw [if_neg hdg])
            clear hdg
            go_wp2_with (go_at_call 68; refine (digit_t cc w2).mono ?_; rw [hdf]; rintro e w3 ⟨rfl, hb3⟩; have HB3 := Aside0.mk hb3; clear hb3)
            go_ret
            exact ⟨by rw [HT2.out, HE2.out]; rfl, by obtain ⟨n, rfl⟩ := HB3.out; exact pw_below_drewN HB2.out n⟩
        · have HQ := Aside0.mk (show decC 0 D.data.toList = some a by
            rw [← HE.out, List.drop_eq_nil_of_le (by rw [HDZ.out]; omega)]
            rfl)
          have hnx : ∀ ty, (Instr.next (.pointer (some ⟨k, 0, none⟩)) true ty).run Tryd.prog wr = .ok (.tuple #[.bool false]) wr := fun ty => Lib.run_next_end_at (P := Tryd.prog) wr k D pos ty HI.out hp
          have hsl : 0 < s.data.toList.length := by rw [Array.length_toList]; exact h0
          obtain ⟨c, hc⟩ : ∃ c : UInt8, s.data.toList[0]'hsl = c := ⟨_, rfl⟩
          have hat : ((s[0]'h0).toNat : Int) = (c.toNat : Int) := by rw [← hc]; rfl
          have him : intM s.data.toList = decide (c.toNat = 45) := by
            rw [← hc]
            exact intM_at _ hsl
          have HIM := Aside0.mk him
          clear him hc hsl
          by_cases h45 : c.toNat = 45
          · have HC := Aside0.mk (decide_eq_true h45)
            have h45b : ((c.toNat : Int) == 45) = true := beq_iff_eq.2 (by omega)
            clear h45
            go_wp2
            go_ret
            exact ⟨by rw [HT2.out, HQ.out, HIM.out, HC.out]; exact neg_min a, HB.out⟩
          · have HC := Aside0.mk (decide_eq_false h45)
            have h45b : ((c.toNat : Int) == 45) = false := beq_eq_false_iff_ne.2 (by omega)
            clear h45
            go_wp2
            go_ret
            exact ⟨by rw [HT2.out, HQ.out, HIM.out, HC.out]; rfl, HB.out⟩

theorem nbr_good {l : List N51} (h : ∀ x, x ∈ l → GoodN x) (sg : Bool) : -2147483648 ≤ nbrV sg l ∧ nbrV sg l ≤ 2147483647 := by
  cases l with
  | nil => exact ⟨show (-2147483648 : Int) ≤ 0 by omega, show (0 : Int) ≤ 2147483647 by omega⟩
  | cons x t =>
    have hg := (h x (by simp)).2
    have e : nbrV sg (x :: t) = if nbrB sg (x :: t) then x.f0.f2 else 0 := rfl
    rw [e]
    by_cases hb : nbrB sg (x :: t) = true
    · rw [if_pos hb]; exact hg
    · rw [if_neg hb]; omega
theorem good_trim {l : List N51} (h : ∀ x, x ∈ l → GoodN x) : ∀ x, x ∈ trimF l → GoodN x := fun x hx => h x ((List.dropWhile_sublist whiN).subset hx)
theorem good_tail {l : List N51} (h : ∀ x, x ∈ l → GoodN x) : ∀ x, x ∈ l.tail → GoodN x := fun x hx => h x (List.mem_of_mem_tail hx)
def digsL : List UInt8 := [48, 49, 50, 51, 52, 53, 54, 55, 56, 57]
def secBad : List UInt8 → Bool
  | [] => false
  | c :: t => !decide (c.toNat = 45) || !(Lib.trimS t digsL).isEmpty
set_option maxHeartbeats 2000000 in
set_option maxRecDepth 100000 in
theorem second_dash {ws w : World} {g : Nat} {l : List N51} (H : An ws w g l false) :
    Calls Tryd.prog 23 #[.pointer (some ⟨g, 0, none⟩), .string ⟨#[45]⟩] w fun e w' => e = .returned (.int .i64 (-(nbrV false (trimF l)))) ∧ An ws w' g (nbrL false (trimF l)) (!nbrB false (trimF l)) := by
  have hb := nbr_good (good_trim H.text) false
  obtain ⟨v, hv⟩ : ∃ v, nbrV false (trimF l) = v := ⟨_, rfl⟩
  rw [hv] at hb ⊢
  obtain ⟨hb1, hb2⟩ := hb
  have HV := Aside0.mk hv
  have HS := Aside0.mk H
  clear H hv
  go_enter Tryd.func23, Tryd.ntmps23
  go_wp2_with (first
    | (go_at_call 37; refine (white_c HS.out).mono ?_; rintro e w1 ⟨rfl, hS⟩; clear HS; have HS := Aside0.mk hS; clear hS)
    | (go_at_call 38; refine (number_c false HS.out).mono ?_; rw [HV.out]; rintro e w2 ⟨rfl, hS⟩; clear HS; have HS := Aside0.mk hS; clear hS))
  go_ret
  exact ⟨rfl, HS.out⟩
theorem extract_one (s : ByteArray) : (s.extract 1 s.size).data.toList = s.data.toList.tail := by
  rw [Lib.extract_to_end, List.drop_one]
theorem extract_one_size (s : ByteArray) : (s.extract 1 s.size).size = s.size - 1 := by simp
theorem sTrim_d (s cut D : ByteArray) (w : World) (hs : s.size ≤ 9223372036854775807) (hc : cut.size < 4294967281) (ha : cut.data.toList.all (fun b => decide (b.toNat < 128)) = true) (hD : D.data.toList = Lib.trimS s.data.toList cut.data.toList) :
    Calls Tryd.prog 39 #[.string s, .string cut] w fun e w' => e = .returned (.string D) ∧ Below w.heap.size w w' :=
  (sTrim_c s cut w hs hc ha).mono fun e w' ⟨h, hb⟩ => ⟨by rw [h, ← hD], hb⟩
set_option maxHeartbeats 2000000 in
set_option maxRecDepth 100000 in
theorem second_more {ws w : World} {g : Nat} {l : List N51} (rest : ByteArray) (h1 : ¬ rest = ⟨#[45]⟩) (h2 : ¬ rest = ⟨#[]⟩) (hz : rest.size ≤ 1000000000) (H : An ws w g l false) :
    Calls Tryd.prog 23 #[.pointer (some ⟨g, 0, none⟩), .string rest] w fun e w' => e = .returned (.int .i64 (tokI rest.data.toList)) ∧ An ws w' g l (secBad rest.data.toList) := by
  have e1 := str_eqF (show ¬ rest = ⟨[45].toArray⟩ from h1)
  have h0 : 0 < rest.size := by
    rcases Nat.eq_zero_or_pos rest.size with h | h
    · exact absurd (WideShapes.bytes_inj (a := rest) (b := ⟨#[]⟩) (List.eq_nil_of_length_eq_zero (by rw [Array.length_toList]; exact h))) h2
    · exact h
  have d2 := empty_F (s := rest) (by omega)
  have d3 : rest.toList.isEmpty = false := by cases h : rest.toList with | nil => exact absurd h d2 | cons _ _ => rfl
  have hsl : 0 < rest.data.toList.length := by rw [Array.length_toList]; exact h0
  obtain ⟨c, hc⟩ : ∃ c : UInt8, rest.data.toList[0]'hsl = c := ⟨_, rfl⟩
  have hat : ((rest[0]'h0).toNat : Int) = (c.toNat : Int) := by rw [← hc]; rfl
  have HS := Aside0.mk H
  have hsb : ∃ t, rest.data.toList = c :: t := by
    cases hl : rest.data.toList with
    | nil => simp [hl] at hsl
    | cons a t => exact ⟨t, by simp [hl] at hc; rw [hc]⟩
  clear H h1 h2 hc hsl
  obtain ⟨t, ht⟩ := hsb
  have HT := Aside0.mk ht
  clear ht
  by_cases h45 : c.toNat = 45
  · have b45 : ((c.toNat : Int) != 45) = false := bne_eq_false_iff_eq.2 (by omega)
    have H45 := Aside0.mk h45
    clear h45
    obtain ⟨D, hD⟩ : ∃ D : ByteArray, D.data.toList = Lib.trimS t digsL := ⟨⟨(Lib.trimS t digsL).toArray⟩, rfl⟩
    have hD2 : D.data.toList = Lib.trimS (rest.extract 1 rest.size).data.toList digsL := by
      rw [hD, extract_one, HT.out]
      rfl
    have hDz : D.data.toList.length = D.size := by rw [Array.length_toList]; rfl
    have HD := Aside0.mk hD
    have HD2 := Aside0.mk hD2
    have HDZ := Aside0.mk hDz
    have hrz : (rest.extract 1 rest.size).size ≤ 9223372036854775807 := by rw [extract_one_size]; omega
    have HRZ := Aside0.mk hrz
    clear hD hD2 hDz hrz
    by_cases hd : D.size = 0
    · have d4 := empty_T hd
      have d5 : D.toList.isEmpty = true := by rw [d4]; rfl
      have HX := Aside0.mk (show secBad (c :: t) = false by
        show (!decide (c.toNat = 45) || !(Lib.trimS t digsL).isEmpty) = false
        rw [H45.out, ← HD.out, List.eq_nil_of_length_eq_zero (HDZ.out.trans hd)]
        rfl)
      clear hd
      go_enter Tryd.func23, Tryd.ntmps23
      go_wp2_with (first
        | (go_at_call 39; refine (sTrim_d (rest.extract 1 rest.size) ⟨#[48, 49, 50, 51, 52, 53, 54, 55, 56, 57]⟩ D _ HRZ.out (by decide) (by decide) HD2.out).mono ?_; rintro e w1 ⟨rfl, hb⟩; have h1 := HS.out.below hb; clear HS; have HS := Aside0.mk h1; obtain ⟨A, c0, hc0, hc1, hf0, hf1, -, -⟩ := h1.c0; clear hb h1)
        | (go_at_call 40; refine (tokInt_c rest _ hz).mono ?_; rintro e w2 ⟨rfl, hb⟩; have HB := Aside0.mk hb; clear hb))
      go_ret
      exact ⟨rfl, by have := (HS.out.bad_ false).below HB.out; rw [HT.out, HX.out]; exact this⟩
    · have d4 := empty_F hd
      have d5 : D.toList.isEmpty = false := by cases h : D.toList with | nil => exact absurd h d4 | cons _ _ => rfl
      have HX := Aside0.mk (show secBad (c :: t) = true by
        show (!decide (c.toNat = 45) || !(Lib.trimS t digsL).isEmpty) = true
        rw [H45.out, ← HD.out]
        cases hl : D.data.toList with
        | nil => rw [hl] at HDZ; exact absurd HDZ.out.symm hd
        | cons _ _ => rfl)
      clear hd
      go_enter Tryd.func23, Tryd.ntmps23
      go_wp2_with (first
        | (go_at_call 39; refine (sTrim_d (rest.extract 1 rest.size) ⟨#[48, 49, 50, 51, 52, 53, 54, 55, 56, 57]⟩ D _ HRZ.out (by decide) (by decide) HD2.out).mono ?_; rintro e w1 ⟨rfl, hb⟩; have h1 := HS.out.below hb; clear HS; have HS := Aside0.mk h1; obtain ⟨A, c0, hc0, hc1, hf0, hf1, -, -⟩ := h1.c0; clear hb h1)
        | (go_at_call 40; refine (tokInt_c rest _ hz).mono ?_; rintro e w2 ⟨rfl, hb⟩; have HB := Aside0.mk hb; clear hb))
      go_ret
      exact ⟨rfl, by have := (HS.out.bad_ true).below HB.out; rw [HT.out, HX.out]; exact this⟩
  · have b45 : ((c.toNat : Int) != 45) = true := bne_iff_ne.2 (by omega)
    have H45 := Aside0.mk h45
    clear h45
    obtain ⟨A, c0, hc0, hc1, hf0, hf1, -, -⟩ := HS.out.c0
    go_enter Tryd.func23, Tryd.ntmps23
    go_wp2_with (go_at_call 40; refine (tokInt_c rest _ hz).mono ?_; rintro e w2 ⟨rfl, hb⟩; have HB := Aside0.mk hb; clear hb)
    go_ret
    exact ⟨rfl, by have := (HS.out.bad_ true).below HB.out; rw [HT.out]; simpa [secBad, H45.out] using this⟩
theorem sign_p {ws w : World} {g : Nat} {l : List N51} {bad : Bool} (H : An ws w g l bad) (hb : sgnB 43 l = true) :
    Calls Tryd.prog 41 #[.pointer (some ⟨g, 0, none⟩)] w fun e w' => e = .returned (.int .i64 1) ∧ An ws w' g l.tail bad := by
  have h := sign_c H
  rw [show sgnV l = 1 by unfold sgnV; rw [hb]; rfl, show sgnL l = l.tail by unfold sgnL; rw [hb]; rfl] at h
  exact h
theorem sign_m {ws w : World} {g : Nat} {l : List N51} {bad : Bool} (H : An ws w g l bad) (hb : sgnB 43 l = false) (hb2 : sgnB 45 l = true) :
    Calls Tryd.prog 41 #[.pointer (some ⟨g, 0, none⟩)] w fun e w' => e = .returned (.int .i64 (-1)) ∧ An ws w' g l.tail bad := by
  have h := sign_c H
  rw [show sgnV l = -1 by unfold sgnV; rw [hb, hb2]; rfl, show sgnL l = l.tail by unfold sgnL; rw [hb, hb2]; rfl] at h
  exact h
theorem sign_n {ws w : World} {g : Nat} {l : List N51} {bad : Bool} (H : An ws w g l bad) (hb : sgnB 43 l = false) (hb2 : sgnB 45 l = false) :
    Calls Tryd.prog 41 #[.pointer (some ⟨g, 0, none⟩)] w fun e w' => e = .returned (.int .i64 0) ∧ An ws w' g l bad := by
  have h := sign_c H
  rw [show sgnV l = 0 by unfold sgnV; rw [hb, hb2]; rfl, show sgnL l = l by unfold sgnL; rw [hb, hb2]; rfl] at h
  exact h
def endV (m : List N51) : Int := if sgnB 43 m then nbrV false (trimF m.tail) else if sgnB 45 m then -(nbrV false (trimF m.tail)) else nbrV true m
def endL (m : List N51) : List N51 := if sgnB 43 m || sgnB 45 m then nbrL false (trimF m.tail) else nbrL true m
def endB (m : List N51) : Bool := if sgnB 43 m || sgnB 45 m then !nbrB false (trimF m.tail) else !nbrB true m
set_option maxHeartbeats 4000000 in
set_option maxRecDepth 100000 in
theorem second_end {ws w : World} {g : Nat} {l : List N51} (H : An ws w g l false) :
    Calls Tryd.prog 23 #[.pointer (some ⟨g, 0, none⟩), .string ⟨#[]⟩] w fun e w' => e = .returned (.int .i64 (if trimF l = [] then 0 else endV (trimF l))) ∧ An ws w' g (if trimF l = [] then [] else endL (trimF l)) (if trimF l = [] then false else endB (trimF l)) := by
  have HG := Aside0.mk (good_trim H.text)
  have HS := Aside0.mk H
  obtain ⟨m, hm⟩ : ∃ m, trimF l = m := ⟨_, rfl⟩
  have HM := Aside0.mk hm
  rw [hm] at HG
  rw [hm]
  clear hm H
  cases m with
  | nil =>
    rw [if_pos rfl, if_pos rfl, if_pos rfl]
    go_enter Tryd.func23, Tryd.ntmps23
    go_wp2_with (go_at_call 37; refine (white_c HS.out).mono ?_; rw [HM.out]; rintro e w1 ⟨rfl, hS⟩; clear HS; obtain ⟨A, c0, hc0, hc1, hf0, hf1, -, -⟩ := hS.c0; have HS := Aside0.mk hS; clear hS)
    go_ret
    exact ⟨rfl, HS.out⟩
  | cons x t =>
    rw [if_neg (List.cons_ne_nil x t), if_neg (List.cons_ne_nil x t), if_neg (List.cons_ne_nil x t)]
    have hb := nbr_good (good_trim (good_tail HG.out)) false
    have hb2 := nbr_good HG.out true
    cases h1 : sgnB 43 (x :: t) with
    | true =>
      rw [show endV (x :: t) = nbrV false (trimF (x :: t).tail) by unfold endV; rw [h1]; rfl, show endL (x :: t) = nbrL false (trimF (x :: t).tail) by unfold endL; rw [h1]; rfl, show endB (x :: t) = !nbrB false (trimF (x :: t).tail) by unfold endB; rw [h1]; rfl]
      have H1 := Aside0.mk h1
      obtain ⟨v, hv⟩ : ∃ v, nbrV false (trimF (x :: t).tail) = v := ⟨_, rfl⟩
      rw [hv] at hb ⊢
      obtain ⟨hb3, hb4⟩ := hb
      have HV := Aside0.mk hv
      clear h1 hb2 hv
      go_enter Tryd.func23, Tryd.ntmps23
      go_wp2_with (go_at_call 37; refine (white_c HS.out).mono ?_; rw [HM.out]; rintro e w1 ⟨rfl, hS⟩; clear HS; obtain ⟨ad, n, c, A6, c6, A', c', m, hc0, hc1, hf0, hf1, hn, hnm, -, -, -, -, -, -, -, -, -, -, -, -, -⟩ := hS.hd; have hn0 : ((n : Int) == 0) = false := beq_eq_false_iff_ne.2 (by omega); have HS := Aside0.mk hS; clear hS)
      refine (sign_p HS.out H1.out).mono ?_
      rintro e w2 ⟨rfl, hS⟩
      clear HS
      have HS := Aside0.mk hS
      clear hS
      go_wp2_with (first
        | (go_at_call 37; refine (white_c HS.out).mono ?_; rintro e w1 ⟨rfl, hS⟩; clear HS; have HS := Aside0.mk hS; clear hS)
        | (go_at_call 38; refine (number_c false HS.out).mono ?_; rw [HV.out]; rintro e w2 ⟨rfl, hS⟩; clear HS; have HS := Aside0.mk hS; clear hS))
      go_ret
      exact ⟨rfl, HS.out⟩
    | false =>
      cases h2 : sgnB 45 (x :: t) with
      | true =>
        rw [show endV (x :: t) = -(nbrV false (trimF (x :: t).tail)) by unfold endV; rw [h1, h2]; rfl, show endL (x :: t) = nbrL false (trimF (x :: t).tail) by unfold endL; rw [h1, h2]; rfl, show endB (x :: t) = !nbrB false (trimF (x :: t).tail) by unfold endB; rw [h1, h2]; rfl]
        have H1 := Aside0.mk h1
        have H2 := Aside0.mk h2
        obtain ⟨v, hv⟩ : ∃ v, nbrV false (trimF (x :: t).tail) = v := ⟨_, rfl⟩
        rw [hv] at hb ⊢
        obtain ⟨hb3, hb4⟩ := hb
        have HV := Aside0.mk hv
        clear h1 h2 hb2 hv
        go_enter Tryd.func23, Tryd.ntmps23
        go_wp2_with (go_at_call 37; refine (white_c HS.out).mono ?_; rw [HM.out]; rintro e w1 ⟨rfl, hS⟩; clear HS; obtain ⟨ad, n, c, A6, c6, A', c', m, hc0, hc1, hf0, hf1, hn, hnm, -, -, -, -, -, -, -, -, -, -, -, -, -⟩ := hS.hd; have hn0 : ((n : Int) == 0) = false := beq_eq_false_iff_ne.2 (by omega); have HS := Aside0.mk hS; clear hS)
        refine (sign_m HS.out H1.out H2.out).mono ?_
        rintro e w2 ⟨rfl, hS⟩
        clear HS
        have HS := Aside0.mk hS
        clear hS
        go_wp2_with (first
          | (go_at_call 37; refine (white_c HS.out).mono ?_; rintro e w1 ⟨rfl, hS⟩; clear HS; have HS := Aside0.mk hS; clear hS)
          | (go_at_call 38; refine (number_c false HS.out).mono ?_; rw [HV.out]; rintro e w2 ⟨rfl, hS⟩; clear HS; have HS := Aside0.mk hS; clear hS))
        go_ret
        exact ⟨rfl, HS.out⟩
      | false =>
        rw [show endV (x :: t) = nbrV true (x :: t) by unfold endV; rw [h1, h2]; rfl, show endL (x :: t) = nbrL true (x :: t) by unfold endL; rw [h1, h2]; rfl, show endB (x :: t) = !nbrB true (x :: t) by unfold endB; rw [h1, h2]; rfl]
        have H1 := Aside0.mk h1
        have H2 := Aside0.mk h2
        obtain ⟨v, hv⟩ : ∃ v, nbrV true (x :: t) = v := ⟨_, rfl⟩
        rw [hv] at hb2 ⊢
        obtain ⟨hb3, hb4⟩ := hb2
        have HV := Aside0.mk hv
        clear h1 h2 hb hv
        go_enter Tryd.func23, Tryd.ntmps23
        go_wp2_with (go_at_call 37; refine (white_c HS.out).mono ?_; rw [HM.out]; rintro e w1 ⟨rfl, hS⟩; clear HS; obtain ⟨ad, n, c, A6, c6, A', c', m, hc0, hc1, hf0, hf1, hn, hnm, -, -, -, -, -, -, -, -, -, -, -, -, -⟩ := hS.hd; have hn0 : ((n : Int) == 0) = false := beq_eq_false_iff_ne.2 (by omega); have HS := Aside0.mk hS; clear hS)
        refine (sign_n HS.out H1.out H2.out).mono ?_
        rintro e w2 ⟨rfl, hS⟩
        clear HS
        have HS := Aside0.mk hS
        clear hS
        go_wp2_with (go_at_call 38; refine (number_c true HS.out).mono ?_; rw [HV.out]; rintro e w2 ⟨rfl, hS⟩; clear HS; have HS := Aside0.mk hS; clear hS)
        go_ret
        exact ⟨rfl, HS.out⟩

def preB (p : List UInt8) (s : ByteArray) : Bool := s.data.toList.take p.length == p
theorem pre_f (p : List UInt8) (s : ByteArray) (hp : p.length ≤ 1000) : strings_HasPrefix.f s ⟨p.toArray⟩ = some (preB p s) := by
  have hz : (⟨p.toArray⟩ : ByteArray).size = p.length := by show p.toArray.size = _; simp
  have hs : s.data.toList.length = s.size := by rw [Array.length_toList]; rfl
  unfold strings_HasPrefix.f stringslite_HasPrefix.f preB
  rw [hz]
  by_cases h : p.length ≤ s.size
  · rw [if_pos (by omega), if_pos (by omega), if_pos (by omega)]
    simp only [Option.bind_some, Int.toNat_natCast]
    congr 1
    rw [ByteArray.toList_eq, ByteArray.toList_eq, Lib.extract_data]
    simp
  · rw [if_neg (by omega)]
    simp only [Option.bind_some]
    congr 1
    symm
    rw [beq_eq_false_iff_ne]
    intro e
    have := congrArg List.length e
    rw [List.length_take] at this
    omega
theorem pre_size {p : List UInt8} {s : ByteArray} (h : preB p s = true) : p.length ≤ s.size := by
  have hs : s.data.toList.length = s.size := by rw [Array.length_toList]; rfl
  have := congrArg List.length (beq_iff_eq.1 h)
  rw [List.length_take] at this
  omega
theorem An.drew {ws w : World} {g : Nat} {l : List N51} {bad : Bool} (h : An ws w g l bad) : An ws w.drew g l bad := h.move (KeepBut.refl w g none) (below_drew (Below.refl 0 w)) rfl
def fstP (plus : Bool) : List N51 → Int × ByteArray × List N51 × Bool
  | [] => (0, ⟨#[]⟩, [], true)
  | x :: t =>
    if x.f0.f0 = 12 ∧ plus = false ∧ x.f0.f3 = true ∧ preB [110] (lowerB x.f0.f1) = true then (x.f0.f2, (lowerB x.f0.f1).extract 1 (lowerB x.f0.f1).size, t, false)
    else if x.f0.f0 = 1 ∧ preB [110] (lowerB x.f0.f1) = true then (1, (lowerB x.f0.f1).extract 1 (lowerB x.f0.f1).size, t, false)
    else if x.f0.f0 = 1 ∧ plus = false ∧ preB [45, 110] (lowerB x.f0.f1) = true then (-1, (lowerB x.f0.f1).extract 2 (lowerB x.f0.f1).size, t, false)
    else (0, ⟨#[]⟩, x :: t, true)
def fst5 (l : List N51) : Int × ByteArray × List N51 × Bool := if sgnB 43 l then fstP true l.tail else fstP false l
set_option maxHeartbeats 4000000 in
set_option maxRecDepth 100000 in
theorem first_A {ws w : World} {g : Nat} {x : N51} {t : List N51} (H : An ws w g (x :: t) false) (hk : x.f0.f0 = 12) (h3 : x.f0.f3 = true) (hp : preB [110] (lowerB x.f0.f1) = true) :
    Calls Tryd.prog 22 #[.pointer (some ⟨g, 0, none⟩)] w fun e w' => e = .returned (.tuple #[.int .i64 x.f0.f2, .string ((lowerB x.f0.f1).extract 1 (lowerB x.f0.f1).size)]) ∧ An ws w' g t false := by
  have hfd : ∀ W : World, (Instr.field 49 (.agg #[.int .i64 x.f0.f0, .string x.f0.f1, .int .i64 x.f0.f2, .bool x.f0.f3, .bool x.f0.f4, .bool x.f0.f5]) 2).run Tryd.prog W = .ok (.int .i64 x.f0.f2) W := fun _ => by kernel_rfl
  have h0 : 1 ≤ (lowerB x.f0.f1).size := pre_size hp
  have HP := Aside0.mk ((pre_f [110] (lowerB x.f0.f1) (by decide)).trans (congrArg some hp))
  have k12 : (x.f0.f0 == 12) = true := beq_iff_eq.2 hk
  have k9 : (x.f0.f0 == 9) = false := beq_eq_false_iff_ne.2 (by omega)
  have HS := Aside0.mk H
  have H3 := Aside0.mk h3
  clear H hk h3 hp
  obtain ⟨s, hs⟩ : ∃ s, lowerB x.f0.f1 = s := ⟨_, rfl⟩
  have HLS := Aside0.mk hs
  rw [hs] at h0 HP ⊢
  clear hs
  have hI : (1 : Int) ≤ (s.size : Int) := by omega
  go_enter Tryd.func22, Tryd.ntmps22
  go_wp2_with (first
    | (go_at_call 21; refine (see_h HS.out).mono ?_; rw [HLS.out]; rintro e w1 ⟨rfl, hb⟩; have h1 := (HS.out.below hb); clear HS; obtain ⟨ad, n, c, A6, c6, A', c', m, hc0, hc1, hf0, hf1, hn, hnm, x0, x1, x2, x3, x4, x5, x6, hl6, hi6, hN, hcut, hS, hM⟩ := h1.hd; rw [H3.out] at x3; have hpos : decide (0 < n) = true := decide_eq_true hn; have HS := Aside0.mk h1; clear hb h1 hcut hS hM hl6 hi6 x4 x5 x6)
    | (go_at_call 36; refine (strings_HasPrefix.calls s ⟨[110].toArray⟩ true _ HP.out).mono ?_; rintro e w2 ⟨rfl, hd⟩; have h1 := HS.out.drawn hd; clear HS; have HS := Aside0.mk h1; clear h1 hd))
  go_region_with (first | (go_at_call 35; refine (take_h HS.out.drew).mono ?_; rintro e w3 ⟨rfl, h2⟩; have HS2 := Aside0.mk h2; clear h2))
  all_goals go_wp2
  all_goals (go_ret2; exact ⟨rfl, HS2.out⟩)

set_option maxHeartbeats 4000000 in
set_option maxRecDepth 100000 in
theorem first_2 {ws w : World} {g : Nat} {x : N51} {t : List N51} (H : An ws w g (x :: t) false) (hk : x.f0.f0 = 12) (h3 : x.f0.f3 = true) (hp : preB [110] (lowerB x.f0.f1) = false) :
    Calls Tryd.prog 22 #[.pointer (some ⟨g, 0, none⟩)] w fun e w' => e = .returned (.tuple #[.int .i64 0, .string ⟨#[]⟩]) ∧ An ws w' g (x :: t) true := by
  have tok0 : True := trivial
  have tok1 : True := trivial
  have tok2 : True := trivial
  have tok3 : True := trivial
  have tok4 : True := trivial
  have k12 : (x.f0.f0 == 12) = true := beq_iff_eq.2 (by omega)
  have k9 : (x.f0.f0 == 9) = false := beq_eq_false_iff_ne.2 (by omega)
  have k1 : (x.f0.f0 == 1) = false := beq_eq_false_iff_ne.2 (by omega)
  have HP0 := Aside0.mk ((pre_f [110] (lowerB x.f0.f1) (by decide)).trans (congrArg some hp))
  have H3 := Aside0.mk h3
  have HS := Aside0.mk H
  clear H hk h3 hp
  obtain ⟨s, hs⟩ : ∃ s, lowerB x.f0.f1 = s := ⟨_, rfl⟩
  have HLS := Aside0.mk hs
  rw [hs] at HP0
  clear hs
  go_enter Tryd.func22, Tryd.ntmps22
  go_wp2_with (first
    | (go_at_call 21; have _t := tok1; refine (see_h HS.out).mono ?_; rw [HLS.out]; rintro e w1 ⟨rfl, hb⟩; clear tok1; have h1 := (HS.out.below hb); clear HS; obtain ⟨ad, n, c, A6, c6, A', c', m_, hc0, hc1, hf0, hf1, hn, hnm, x0, x1, x2, x3, x4, x5, x6, hl6, hi6, hN, hcut, hS, hM⟩ := h1.hd; rw [H3.out] at x3; have hpos : decide (0 < n) = true := decide_eq_true hn; have HS := Aside0.mk h1; clear hb h1 hcut hS hM hl6 hi6 x4 x5 x6)
    | (go_at_call 36; have _t := tok3; refine (strings_HasPrefix.calls s ⟨[110].toArray⟩ false _ HP0.out).mono ?_; rintro e w2 ⟨rfl, hd⟩; clear tok3; have h1 := HS.out.drawn hd; clear HS; have HS := Aside0.mk h1; obtain ⟨A9, c9, hq0, hq1, hg0, hg1, -, -⟩ := h1.c0; clear h1 hd))
  go_ret2
  exact ⟨rfl, HS.out.bad_ true⟩
set_option maxHeartbeats 4000000 in
set_option maxRecDepth 100000 in
theorem first_3 {ws w : World} {g : Nat} {x : N51} {t : List N51} (H : An ws w g (x :: t) false) (hk : x.f0.f0 = 12) (h3 : x.f0.f3 = false) :
    Calls Tryd.prog 22 #[.pointer (some ⟨g, 0, none⟩)] w fun e w' => e = .returned (.tuple #[.int .i64 0, .string ⟨#[]⟩]) ∧ An ws w' g (x :: t) true := by
  have tok0 : True := trivial
  have tok1 : True := trivial
  have tok2 : True := trivial
  have tok3 : True := trivial
  have tok4 : True := trivial
  have k12 : (x.f0.f0 == 12) = true := beq_iff_eq.2 (by omega)
  have k9 : (x.f0.f0 == 9) = false := beq_eq_false_iff_ne.2 (by omega)
  have k1 : (x.f0.f0 == 1) = false := beq_eq_false_iff_ne.2 (by omega)
  have H3 := Aside0.mk h3
  have HS := Aside0.mk H
  clear H hk h3
  obtain ⟨s, hs⟩ : ∃ s, lowerB x.f0.f1 = s := ⟨_, rfl⟩
  have HLS := Aside0.mk hs
  clear hs
  go_enter Tryd.func22, Tryd.ntmps22
  go_wp2_with (first
    | (go_at_call 21; have _t := tok1; refine (see_h HS.out).mono ?_; rw [HLS.out]; rintro e w1 ⟨rfl, hb⟩; clear tok1; have h1 := (HS.out.below hb); clear HS; obtain ⟨ad, n, c, A6, c6, A', c', m_, hc0, hc1, hf0, hf1, hn, hnm, x0, x1, x2, x3, x4, x5, x6, hl6, hi6, hN, hcut, hS, hM⟩ := h1.hd; rw [H3.out] at x3; have hpos : decide (0 < n) = true := decide_eq_true hn; have HS := Aside0.mk h1; clear hb h1 hcut hS hM hl6 hi6 x4 x5 x6))
  go_ret2
  exact ⟨rfl, HS.out.bad_ true⟩
set_option maxHeartbeats 4000000 in
set_option maxRecDepth 100000 in
theorem first_4 {ws w : World} {g : Nat} {x : N51} {t : List N51} (H : An ws w g (x :: t) false) (hk : x.f0.f0 = 1) (hp : preB [110] (lowerB x.f0.f1) = true) :
    Calls Tryd.prog 22 #[.pointer (some ⟨g, 0, none⟩)] w fun e w' => e = .returned (.tuple #[.int .i64 1, .string ((lowerB x.f0.f1).extract 1 (lowerB x.f0.f1).size)]) ∧ An ws w' g t false := by
  have tok0 : True := trivial
  have tok1 : True := trivial
  have tok2 : True := trivial
  have tok3 : True := trivial
  have tok4 : True := trivial
  have k12 : (x.f0.f0 == 12) = false := beq_eq_false_iff_ne.2 (by omega)
  have k9 : (x.f0.f0 == 9) = false := beq_eq_false_iff_ne.2 (by omega)
  have k1 : (x.f0.f0 == 1) = true := beq_iff_eq.2 (by omega)
  have HP0 := Aside0.mk ((pre_f [110] (lowerB x.f0.f1) (by decide)).trans (congrArg some hp))
  have hz : 1 ≤ (lowerB x.f0.f1).size := pre_size hp
  have HS := Aside0.mk H
  clear H hk hp
  obtain ⟨s, hs⟩ : ∃ s, lowerB x.f0.f1 = s := ⟨_, rfl⟩
  have HLS := Aside0.mk hs
  rw [hs] at HP0 hz ⊢
  clear hs
  have hI : (1 : Int) ≤ (s.size : Int) := by omega
  go_enter Tryd.func22, Tryd.ntmps22
  go_wp2_with (first
    | (go_at_call 21; have _t := tok1; refine (see_h HS.out).mono ?_; rw [HLS.out]; rintro e w1 ⟨rfl, hb⟩; clear tok1; have h1 := (HS.out.below hb); clear HS; obtain ⟨ad, n, c, A6, c6, A', c', m_, hc0, hc1, hf0, hf1, hn, hnm, x0, x1, x2, x3, x4, x5, x6, hl6, hi6, hN, hcut, hS, hM⟩ := h1.hd; have hpos : decide (0 < n) = true := decide_eq_true hn; have HS := Aside0.mk h1; clear hb h1 hcut hS hM hl6 hi6 x4 x5 x6)
    | (go_at_call 36; have _t := tok3; refine (strings_HasPrefix.calls s ⟨[110].toArray⟩ true _ HP0.out).mono ?_; rintro e w2 ⟨rfl, hd⟩; clear tok3; have h1 := HS.out.drawn hd; clear HS; have HS := Aside0.mk h1; obtain ⟨A9, c9, hq0, hq1, hg0, hg1, -, -⟩ := h1.c0; clear h1 hd)
    | (go_at_call 35; refine (take_h HS.out).mono ?_; rintro e w3 ⟨rfl, h2⟩; clear HS; have HS := Aside0.mk h2; clear h2))
  go_region
  all_goals go_wp2
  all_goals (go_ret2; exact ⟨rfl, HS.out.drew⟩)
set_option maxHeartbeats 4000000 in
set_option maxRecDepth 100000 in
theorem first_5 {ws w : World} {g : Nat} {x : N51} {t : List N51} (H : An ws w g (x :: t) false) (hk : x.f0.f0 = 1) (hp : preB [110] (lowerB x.f0.f1) = false) (hq : preB [45, 110] (lowerB x.f0.f1) = true) :
    Calls Tryd.prog 22 #[.pointer (some ⟨g, 0, none⟩)] w fun e w' => e = .returned (.tuple #[.int .i64 (-1), .string ((lowerB x.f0.f1).extract 2 (lowerB x.f0.f1).size)]) ∧ An ws w' g t false := by
  have tok0 : True := trivial
  have tok1 : True := trivial
  have tok2 : True := trivial
  have tok3 : True := trivial
  have tok4 : True := trivial
  have k12 : (x.f0.f0 == 12) = false := beq_eq_false_iff_ne.2 (by omega)
  have k9 : (x.f0.f0 == 9) = false := beq_eq_false_iff_ne.2 (by omega)
  have k1 : (x.f0.f0 == 1) = true := beq_iff_eq.2 (by omega)
  have HP0 := Aside0.mk ((pre_f [110] (lowerB x.f0.f1) (by decide)).trans (congrArg some hp))
  have HP1 := Aside0.mk ((pre_f [45, 110] (lowerB x.f0.f1) (by decide)).trans (congrArg some hq))
  have hz : 2 ≤ (lowerB x.f0.f1).size := pre_size hq
  have HS := Aside0.mk H
  clear H hk hp hq
  obtain ⟨s, hs⟩ : ∃ s, lowerB x.f0.f1 = s := ⟨_, rfl⟩
  have HLS := Aside0.mk hs
  rw [hs] at HP0 HP1 hz ⊢
  clear hs
  have hI : (2 : Int) ≤ (s.size : Int) := by omega
  go_enter Tryd.func22, Tryd.ntmps22
  go_wp2_with (first
    | (go_at_call 21; have _t := tok1; refine (see_h HS.out).mono ?_; rw [HLS.out]; rintro e w1 ⟨rfl, hb⟩; clear tok1; have h1 := (HS.out.below hb); clear HS; obtain ⟨ad, n, c, A6, c6, A', c', m_, hc0, hc1, hf0, hf1, hn, hnm, x0, x1, x2, x3, x4, x5, x6, hl6, hi6, hN, hcut, hS, hM⟩ := h1.hd; have hpos : decide (0 < n) = true := decide_eq_true hn; have HS := Aside0.mk h1; clear hb h1 hcut hS hM hl6 hi6 x4 x5 x6)
    | (go_at_call 36; have _t := tok3; refine (strings_HasPrefix.calls s ⟨[110].toArray⟩ false _ HP0.out).mono ?_; rintro e w2 ⟨rfl, hd⟩; clear tok3; have h1 := HS.out.drawn hd; clear HS; have HS := Aside0.mk h1; obtain ⟨A9, c9, hq0, hq1, hg0, hg1, -, -⟩ := h1.c0; clear h1 hd)
    | (go_at_call 36; have _t := tok4; refine (strings_HasPrefix.calls s ⟨[45, 110].toArray⟩ true _ HP1.out).mono ?_; rintro e w2 ⟨rfl, hd⟩; clear tok4; have h1 := HS.out.drawn hd; clear HS; have HS := Aside0.mk h1; obtain ⟨A9, c9, hq0, hq1, hg0, hg1, -, -⟩ := h1.c0; clear h1 hd)
    | (go_at_call 35; refine (take_h HS.out).mono ?_; rintro e w3 ⟨rfl, h2⟩; clear HS; have HS := Aside0.mk h2; clear h2))
  go_region
  all_goals go_wp2
  all_goals (go_ret2; exact ⟨rfl, HS.out.drew⟩)
set_option maxHeartbeats 4000000 in
set_option maxRecDepth 100000 in
theorem first_6 {ws w : World} {g : Nat} {x : N51} {t : List N51} (H : An ws w g (x :: t) false) (hk : x.f0.f0 = 1) (hp : preB [110] (lowerB x.f0.f1) = false) (hq : preB [45, 110] (lowerB x.f0.f1) = false) :
    Calls Tryd.prog 22 #[.pointer (some ⟨g, 0, none⟩)] w fun e w' => e = .returned (.tuple #[.int .i64 0, .string ⟨#[]⟩]) ∧ An ws w' g (x :: t) true := by
  have tok0 : True := trivial
  have tok1 : True := trivial
  have tok2 : True := trivial
  have tok3 : True := trivial
  have tok4 : True := trivial
  have k12 : (x.f0.f0 == 12) = false := beq_eq_false_iff_ne.2 (by omega)
  have k9 : (x.f0.f0 == 9) = false := beq_eq_false_iff_ne.2 (by omega)
  have k1 : (x.f0.f0 == 1) = true := beq_iff_eq.2 (by omega)
  have HP0 := Aside0.mk ((pre_f [110] (lowerB x.f0.f1) (by decide)).trans (congrArg some hp))
  have HP1 := Aside0.mk ((pre_f [45, 110] (lowerB x.f0.f1) (by decide)).trans (congrArg some hq))
  have HS := Aside0.mk H
  clear H hk hp hq
  obtain ⟨s, hs⟩ : ∃ s, lowerB x.f0.f1 = s := ⟨_, rfl⟩
  have HLS := Aside0.mk hs
  rw [hs] at HP0 HP1
  clear hs
  go_enter Tryd.func22, Tryd.ntmps22
  go_wp2_with (first
    | (go_at_call 21; have _t := tok1; refine (see_h HS.out).mono ?_; rw [HLS.out]; rintro e w1 ⟨rfl, hb⟩; clear tok1; have h1 := (HS.out.below hb); clear HS; obtain ⟨ad, n, c, A6, c6, A', c', m_, hc0, hc1, hf0, hf1, hn, hnm, x0, x1, x2, x3, x4, x5, x6, hl6, hi6, hN, hcut, hS, hM⟩ := h1.hd; have hpos : decide (0 < n) = true := decide_eq_true hn; have HS := Aside0.mk h1; clear hb h1 hcut hS hM hl6 hi6 x4 x5 x6)
    | (go_at_call 36; have _t := tok3; refine (strings_HasPrefix.calls s ⟨[110].toArray⟩ false _ HP0.out).mono ?_; rintro e w2 ⟨rfl, hd⟩; clear tok3; have h1 := HS.out.drawn hd; clear HS; have HS := Aside0.mk h1; obtain ⟨A9, c9, hq0, hq1, hg0, hg1, -, -⟩ := h1.c0; clear h1 hd)
    | (go_at_call 36; have _t := tok4; refine (strings_HasPrefix.calls s ⟨[45, 110].toArray⟩ false _ HP1.out).mono ?_; rintro e w2 ⟨rfl, hd⟩; clear tok4; have h1 := HS.out.drawn hd; clear HS; have HS := Aside0.mk h1; obtain ⟨A9, c9, hq0, hq1, hg0, hg1, -, -⟩ := h1.c0; clear h1 hd))
  go_ret2
  exact ⟨rfl, HS.out.bad_ true⟩
set_option maxHeartbeats 4000000 in
set_option maxRecDepth 100000 in
theorem first_7 {ws w : World} {g : Nat} {x : N51} {t : List N51} (H : An ws w g (x :: t) false) (hk : x.f0.f0 = 9) (ht43 : ¬ lowerB x.f0.f1 = ⟨#[43]⟩) :
    Calls Tryd.prog 22 #[.pointer (some ⟨g, 0, none⟩)] w fun e w' => e = .returned (.tuple #[.int .i64 0, .string ⟨#[]⟩]) ∧ An ws w' g (x :: t) true := by
  have tok0 : True := trivial
  have tok1 : True := trivial
  have tok2 : True := trivial
  have tok3 : True := trivial
  have tok4 : True := trivial
  have k12 : (x.f0.f0 == 12) = false := beq_eq_false_iff_ne.2 (by omega)
  have k9 : (x.f0.f0 == 9) = true := beq_iff_eq.2 (by omega)
  have k1 : (x.f0.f0 == 1) = false := beq_eq_false_iff_ne.2 (by omega)
  have e43 := str_eqF (show ¬ lowerB x.f0.f1 = ⟨[43].toArray⟩ from ht43)
  have HS := Aside0.mk H
  clear H hk ht43
  obtain ⟨s, hs⟩ : ∃ s, lowerB x.f0.f1 = s := ⟨_, rfl⟩
  have HLS := Aside0.mk hs
  rw [hs] at e43
  clear hs
  go_enter Tryd.func22, Tryd.ntmps22
  go_wp2_with (first
    | (go_at_call 21; have _t := tok1; refine (see_h HS.out).mono ?_; rw [HLS.out]; rintro e w1 ⟨rfl, hb⟩; clear tok1; have h1 := (HS.out.below hb); clear HS; obtain ⟨ad, n, c, A6, c6, A', c', m_, hc0, hc1, hf0, hf1, hn, hnm, x0, x1, x2, x3, x4, x5, x6, hl6, hi6, hN, hcut, hS, hM⟩ := h1.hd; have hpos : decide (0 < n) = true := decide_eq_true hn; have HS := Aside0.mk h1; clear hb h1 hcut hS hM hl6 hi6 x4 x5 x6))
  go_ret2
  exact ⟨rfl, HS.out.bad_ true⟩
set_option maxHeartbeats 4000000 in
set_option maxRecDepth 100000 in
theorem first_8 {ws w : World} {g : Nat} {x : N51} {t : List N51} (H : An ws w g (x :: t) false) (hk : ¬ x.f0.f0 = 9) (hk2 : ¬ x.f0.f0 = 12) (hk3 : ¬ x.f0.f0 = 1) :
    Calls Tryd.prog 22 #[.pointer (some ⟨g, 0, none⟩)] w fun e w' => e = .returned (.tuple #[.int .i64 0, .string ⟨#[]⟩]) ∧ An ws w' g (x :: t) true := by
  have tok0 : True := trivial
  have tok1 : True := trivial
  have tok2 : True := trivial
  have tok3 : True := trivial
  have tok4 : True := trivial
  have k12 : (x.f0.f0 == 12) = false := beq_eq_false_iff_ne.2 (by omega)
  have k9 : (x.f0.f0 == 9) = false := beq_eq_false_iff_ne.2 (by omega)
  have k1 : (x.f0.f0 == 1) = false := beq_eq_false_iff_ne.2 (by omega)
  have HS := Aside0.mk H
  clear H hk hk2 hk3
  obtain ⟨s, hs⟩ : ∃ s, lowerB x.f0.f1 = s := ⟨_, rfl⟩
  have HLS := Aside0.mk hs
  clear hs
  go_enter Tryd.func22, Tryd.ntmps22
  go_wp2_with (first
    | (go_at_call 21; have _t := tok1; refine (see_h HS.out).mono ?_; rw [HLS.out]; rintro e w1 ⟨rfl, hb⟩; clear tok1; have h1 := (HS.out.below hb); clear HS; obtain ⟨ad, n, c, A6, c6, A', c', m_, hc0, hc1, hf0, hf1, hn, hnm, x0, x1, x2, x3, x4, x5, x6, hl6, hi6, hN, hcut, hS, hM⟩ := h1.hd; have hpos : decide (0 < n) = true := decide_eq_true hn; have HS := Aside0.mk h1; clear hb h1 hcut hS hM hl6 hi6 x4 x5 x6))
  go_ret2
  exact ⟨rfl, HS.out.bad_ true⟩
set_option maxHeartbeats 4000000 in
set_option maxRecDepth 100000 in
theorem first_0 {ws w : World} {g : Nat} (H : An ws w g [] false) :
    Calls Tryd.prog 22 #[.pointer (some ⟨g, 0, none⟩)] w fun e w' => e = .returned (.tuple #[.int .i64 0, .string ⟨#[]⟩]) ∧ An ws w' g [] true := by
  have tok0 : True := trivial
  have tok1 : True := trivial
  have tok2 : True := trivial
  have tok3 : True := trivial
  have tok4 : True := trivial
  have HS := Aside0.mk H
  clear H
  go_enter Tryd.func22, Tryd.ntmps22
  go_wp2_with (first
    | (go_at_call 21; have _t := tok1; refine (see_c HS.out).mono ?_; rintro e w1 ⟨rfl, hb⟩; clear tok1; have h1 := (HS.out.below hb); clear HS; obtain ⟨A, c, hc0, hc1, hf0, hf1, -, -⟩ := h1.c0; have HS := Aside0.mk h1; clear hb h1))
  go_ret2
  exact ⟨rfl, HS.out.bad_ true⟩
set_option maxHeartbeats 4000000 in
set_option maxRecDepth 100000 in
theorem first_p1 {ws w : World} {g : Nat} {y : N51} {x : N51} {t : List N51} (H : An ws w g (y :: (x :: t)) false) (hy : y.f0.f0 = 9) (hy2 : lowerB y.f0.f1 = ⟨#[43]⟩) (hk : x.f0.f0 = 12) :
    Calls Tryd.prog 22 #[.pointer (some ⟨g, 0, none⟩)] w fun e w' => e = .returned (.tuple #[.int .i64 0, .string ⟨#[]⟩]) ∧ An ws w' g (x :: t) true := by
  have tok0 : True := trivial
  have tok1 : True := trivial
  have tok2 : True := trivial
  have tok3 : True := trivial
  have tok4 : True := trivial
  have y9 : (y.f0.f0 == 9) = true := beq_iff_eq.2 hy
  have e43 := str_eqT (show lowerB y.f0.f1 = ⟨[43].toArray⟩ from hy2)
  clear hy hy2
  have k12 : (x.f0.f0 == 12) = true := beq_iff_eq.2 (by omega)
  have k9 : (x.f0.f0 == 9) = false := beq_eq_false_iff_ne.2 (by omega)
  have k1 : (x.f0.f0 == 1) = false := beq_eq_false_iff_ne.2 (by omega)
  have HS := Aside0.mk H
  clear H hk
  obtain ⟨s, hs⟩ : ∃ s, lowerB x.f0.f1 = s := ⟨_, rfl⟩
  have HLS := Aside0.mk hs
  clear hs
  go_enter Tryd.func22, Tryd.ntmps22
  go_wp2_with (first
    | (go_at_call 21; have _t := tok0; refine (see_h HS.out).mono ?_; rintro e w1 ⟨rfl, hb⟩; clear tok0; have h1 := (HS.out.below hb); clear HS; have HS := Aside0.mk h1; clear hb h1)
    | (go_at_call 35; have _t := tok2; refine (take_h HS.out).mono ?_; rintro e w3 ⟨rfl, h2⟩; clear tok2; clear HS; have HS := Aside0.mk h2; clear h2))
  go_wp2_with (first
    | (go_at_call 21; have _t := tok1; refine (see_h HS.out).mono ?_; rw [HLS.out]; rintro e w1 ⟨rfl, hb⟩; clear tok1; have h1 := (HS.out.below hb); clear HS; obtain ⟨ad, n, c, A6, c6, A', c', m_, hc0, hc1, hf0, hf1, hn, hnm, x0, x1, x2, x3, x4, x5, x6, hl6, hi6, hN, hcut, hS, hM⟩ := h1.hd; have hpos : decide (0 < n) = true := decide_eq_true hn; have HS := Aside0.mk h1; clear hb h1 hcut hS hM hl6 hi6 x4 x5 x6))
  go_ret2
  exact ⟨rfl, HS.out.bad_ true⟩
set_option maxHeartbeats 4000000 in
set_option maxRecDepth 100000 in
theorem first_p2 {ws w : World} {g : Nat} {y : N51} {x : N51} {t : List N51} (H : An ws w g (y :: (x :: t)) false) (hy : y.f0.f0 = 9) (hy2 : lowerB y.f0.f1 = ⟨#[43]⟩) (hk : x.f0.f0 = 1) (hp : preB [110] (lowerB x.f0.f1) = true) :
    Calls Tryd.prog 22 #[.pointer (some ⟨g, 0, none⟩)] w fun e w' => e = .returned (.tuple #[.int .i64 1, .string ((lowerB x.f0.f1).extract 1 (lowerB x.f0.f1).size)]) ∧ An ws w' g t false := by
  have tok0 : True := trivial
  have tok1 : True := trivial
  have tok2 : True := trivial
  have tok3 : True := trivial
  have tok4 : True := trivial
  have y9 : (y.f0.f0 == 9) = true := beq_iff_eq.2 hy
  have e43 := str_eqT (show lowerB y.f0.f1 = ⟨[43].toArray⟩ from hy2)
  clear hy hy2
  have k12 : (x.f0.f0 == 12) = false := beq_eq_false_iff_ne.2 (by omega)
  have k9 : (x.f0.f0 == 9) = false := beq_eq_false_iff_ne.2 (by omega)
  have k1 : (x.f0.f0 == 1) = true := beq_iff_eq.2 (by omega)
  have HP0 := Aside0.mk ((pre_f [110] (lowerB x.f0.f1) (by decide)).trans (congrArg some hp))
  have hz : 1 ≤ (lowerB x.f0.f1).size := pre_size hp
  have HS := Aside0.mk H
  clear H hk hp
  obtain ⟨s, hs⟩ : ∃ s, lowerB x.f0.f1 = s := ⟨_, rfl⟩
  have HLS := Aside0.mk hs
  rw [hs] at HP0 hz ⊢
  clear hs
  have hI : (1 : Int) ≤ (s.size : Int) := by omega
  go_enter Tryd.func22, Tryd.ntmps22
  go_wp2_with (first
    | (go_at_call 21; have _t := tok0; refine (see_h HS.out).mono ?_; rintro e w1 ⟨rfl, hb⟩; clear tok0; have h1 := (HS.out.below hb); clear HS; have HS := Aside0.mk h1; clear hb h1)
    | (go_at_call 35; have _t := tok2; refine (take_h HS.out).mono ?_; rintro e w3 ⟨rfl, h2⟩; clear tok2; clear HS; have HS := Aside0.mk h2; clear h2))
  go_wp2_with (first
    | (go_at_call 21; have _t := tok1; refine (see_h HS.out).mono ?_; rw [HLS.out]; rintro e w1 ⟨rfl, hb⟩; clear tok1; have h1 := (HS.out.below hb); clear HS; obtain ⟨ad, n, c, A6, c6, A', c', m_, hc0, hc1, hf0, hf1, hn, hnm, x0, x1, x2, x3, x4, x5, x6, hl6, hi6, hN, hcut, hS, hM⟩ := h1.hd; have hpos : decide (0 < n) = true := decide_eq_true hn; have HS := Aside0.mk h1; clear hb h1 hcut hS hM hl6 hi6 x4 x5 x6)
    | (go_at_call 36; have _t := tok3; refine (strings_HasPrefix.calls s ⟨[110].toArray⟩ true _ HP0.out).mono ?_; rintro e w2 ⟨rfl, hd⟩; clear tok3; have h1 := HS.out.drawn hd; clear HS; have HS := Aside0.mk h1; obtain ⟨A9, c9, hq0, hq1, hg0, hg1, -, -⟩ := h1.c0; clear h1 hd)
    | (go_at_call 35; refine (take_h HS.out).mono ?_; rintro e w3 ⟨rfl, h2⟩; clear HS; have HS := Aside0.mk h2; clear h2))
  go_region
  all_goals go_wp2
  all_goals (go_ret2; exact ⟨rfl, HS.out.drew⟩)
set_option maxHeartbeats 4000000 in
set_option maxRecDepth 100000 in
theorem first_p3 {ws w : World} {g : Nat} {y : N51} {x : N51} {t : List N51} (H : An ws w g (y :: (x :: t)) false) (hy : y.f0.f0 = 9) (hy2 : lowerB y.f0.f1 = ⟨#[43]⟩) (hk : x.f0.f0 = 1) (hp : preB [110] (lowerB x.f0.f1) = false) :
    Calls Tryd.prog 22 #[.pointer (some ⟨g, 0, none⟩)] w fun e w' => e = .returned (.tuple #[.int .i64 0, .string ⟨#[]⟩]) ∧ An ws w' g (x :: t) true := by
  have tok0 : True := trivial
  have tok1 : True := trivial
  have tok2 : True := trivial
  have tok3 : True := trivial
  have tok4 : True := trivial
  have y9 : (y.f0.f0 == 9) = true := beq_iff_eq.2 hy
  have e43 := str_eqT (show lowerB y.f0.f1 = ⟨[43].toArray⟩ from hy2)
  clear hy hy2
  have k12 : (x.f0.f0 == 12) = false := beq_eq_false_iff_ne.2 (by omega)
  have k9 : (x.f0.f0 == 9) = false := beq_eq_false_iff_ne.2 (by omega)
  have k1 : (x.f0.f0 == 1) = true := beq_iff_eq.2 (by omega)
  have HP0 := Aside0.mk ((pre_f [110] (lowerB x.f0.f1) (by decide)).trans (congrArg some hp))
  have HS := Aside0.mk H
  clear H hk hp
  obtain ⟨s, hs⟩ : ∃ s, lowerB x.f0.f1 = s := ⟨_, rfl⟩
  have HLS := Aside0.mk hs
  rw [hs] at HP0
  clear hs
  go_enter Tryd.func22, Tryd.ntmps22
  go_wp2_with (first
    | (go_at_call 21; have _t := tok0; refine (see_h HS.out).mono ?_; rintro e w1 ⟨rfl, hb⟩; clear tok0; have h1 := (HS.out.below hb); clear HS; have HS := Aside0.mk h1; clear hb h1)
    | (go_at_call 35; have _t := tok2; refine (take_h HS.out).mono ?_; rintro e w3 ⟨rfl, h2⟩; clear tok2; clear HS; have HS := Aside0.mk h2; clear h2))
  go_wp2_with (first
    | (go_at_call 21; have _t := tok1; refine (see_h HS.out).mono ?_; rw [HLS.out]; rintro e w1 ⟨rfl, hb⟩; clear tok1; have h1 := (HS.out.below hb); clear HS; obtain ⟨ad, n, c, A6, c6, A', c', m_, hc0, hc1, hf0, hf1, hn, hnm, x0, x1, x2, x3, x4, x5, x6, hl6, hi6, hN, hcut, hS, hM⟩ := h1.hd; have hpos : decide (0 < n) = true := decide_eq_true hn; have HS := Aside0.mk h1; clear hb h1 hcut hS hM hl6 hi6 x4 x5 x6)
    | (go_at_call 36; have _t := tok3; refine (strings_HasPrefix.calls s ⟨[110].toArray⟩ false _ HP0.out).mono ?_; rintro e w2 ⟨rfl, hd⟩; clear tok3; have h1 := HS.out.drawn hd; clear HS; have HS := Aside0.mk h1; obtain ⟨A9, c9, hq0, hq1, hg0, hg1, -, -⟩ := h1.c0; clear h1 hd))
  go_ret2
  exact ⟨rfl, HS.out.bad_ true⟩
set_option maxHeartbeats 4000000 in
set_option maxRecDepth 100000 in
theorem first_p4 {ws w : World} {g : Nat} {y : N51} {x : N51} {t : List N51} (H : An ws w g (y :: (x :: t)) false) (hy : y.f0.f0 = 9) (hy2 : lowerB y.f0.f1 = ⟨#[43]⟩) (hk2 : ¬ x.f0.f0 = 12) (hk3 : ¬ x.f0.f0 = 1) :
    Calls Tryd.prog 22 #[.pointer (some ⟨g, 0, none⟩)] w fun e w' => e = .returned (.tuple #[.int .i64 0, .string ⟨#[]⟩]) ∧ An ws w' g (x :: t) true := by
  have tok0 : True := trivial
  have tok1 : True := trivial
  have tok2 : True := trivial
  have tok3 : True := trivial
  have tok4 : True := trivial
  have y9 : (y.f0.f0 == 9) = true := beq_iff_eq.2 hy
  have e43 := str_eqT (show lowerB y.f0.f1 = ⟨[43].toArray⟩ from hy2)
  clear hy hy2
  have k12 : (x.f0.f0 == 12) = false := beq_eq_false_iff_ne.2 (by omega)
  have k1 : (x.f0.f0 == 1) = false := beq_eq_false_iff_ne.2 (by omega)
  have HS := Aside0.mk H
  clear H hk2 hk3
  obtain ⟨s, hs⟩ : ∃ s, lowerB x.f0.f1 = s := ⟨_, rfl⟩
  have HLS := Aside0.mk hs
  clear hs
  go_enter Tryd.func22, Tryd.ntmps22
  go_wp2_with (first
    | (go_at_call 21; have _t := tok0; refine (see_h HS.out).mono ?_; rintro e w1 ⟨rfl, hb⟩; clear tok0; have h1 := (HS.out.below hb); clear HS; have HS := Aside0.mk h1; clear hb h1)
    | (go_at_call 35; have _t := tok2; refine (take_h HS.out).mono ?_; rintro e w3 ⟨rfl, h2⟩; clear tok2; clear HS; have HS := Aside0.mk h2; clear h2))
  go_wp2_with (first
    | (go_at_call 21; have _t := tok1; refine (see_h HS.out).mono ?_; rw [HLS.out]; rintro e w1 ⟨rfl, hb⟩; clear tok1; have h1 := (HS.out.below hb); clear HS; obtain ⟨ad, n, c, A6, c6, A', c', m_, hc0, hc1, hf0, hf1, hn, hnm, x0, x1, x2, x3, x4, x5, x6, hl6, hi6, hN, hcut, hS, hM⟩ := h1.hd; have hpos : decide (0 < n) = true := decide_eq_true hn; have HS := Aside0.mk h1; clear hb h1 hcut hS hM hl6 hi6 x4 x5 x6))
  go_ret2
  exact ⟨rfl, HS.out.bad_ true⟩
set_option maxHeartbeats 4000000 in
set_option maxRecDepth 100000 in
theorem first_p0 {ws w : World} {g : Nat} {y : N51} (H : An ws w g (y :: []) false) (hy : y.f0.f0 = 9) (hy2 : lowerB y.f0.f1 = ⟨#[43]⟩) :
    Calls Tryd.prog 22 #[.pointer (some ⟨g, 0, none⟩)] w fun e w' => e = .returned (.tuple #[.int .i64 0, .string ⟨#[]⟩]) ∧ An ws w' g [] true := by
  have tok0 : True := trivial
  have tok1 : True := trivial
  have tok2 : True := trivial
  have tok3 : True := trivial
  have tok4 : True := trivial
  have y9 : (y.f0.f0 == 9) = true := beq_iff_eq.2 hy
  have e43 := str_eqT (show lowerB y.f0.f1 = ⟨[43].toArray⟩ from hy2)
  clear hy hy2
  have HS := Aside0.mk H
  clear H
  go_enter Tryd.func22, Tryd.ntmps22
  go_wp2_with (first
    | (go_at_call 21; have _t := tok0; refine (see_h HS.out).mono ?_; rintro e w1 ⟨rfl, hb⟩; clear tok0; have h1 := (HS.out.below hb); clear HS; have HS := Aside0.mk h1; clear hb h1)
    | (go_at_call 35; have _t := tok2; refine (take_h HS.out).mono ?_; rintro e w3 ⟨rfl, h2⟩; clear tok2; clear HS; have HS := Aside0.mk h2; clear h2))
  go_wp2_with (first
    | (go_at_call 21; have _t := tok1; refine (see_c HS.out).mono ?_; rintro e w1 ⟨rfl, hb⟩; clear tok1; have h1 := (HS.out.below hb); clear HS; obtain ⟨A, c, hc0, hc1, hf0, hf1, -, -⟩ := h1.c0; have HS := Aside0.mk h1; clear hb h1))
  go_ret2
  exact ⟨rfl, HS.out.bad_ true⟩

theorem sgn_hd {c : UInt8} {x : N51} {t : List N51} (h : sgnB c (x :: t) = true) : x.f0.f0 = 9 ∧ lowerB x.f0.f1 = ⟨#[c]⟩ := by
  unfold sgnB at h
  rw [Bool.and_eq_true, decide_eq_true_iff, decide_eq_true_iff] at h
  exact h
theorem sgn_no {c : UInt8} {x : N51} {t : List N51} (h : sgnB c (x :: t) = false) (hk : x.f0.f0 = 9) : ¬ lowerB x.f0.f1 = ⟨#[c]⟩ := by
  intro e
  have : sgnB c (x :: t) = true := by
    unfold sgnB
    rw [Bool.and_eq_true, decide_eq_true_iff, decide_eq_true_iff]
    exact ⟨hk, e⟩
  rw [h] at this
  cases this
theorem first_c {ws w : World} {g : Nat} {l : List N51} (H : An ws w g l false) :
    Calls Tryd.prog 22 #[.pointer (some ⟨g, 0, none⟩)] w fun e w' => e = .returned (.tuple #[.int .i64 (fst5 l).1, .string (fst5 l).2.1]) ∧ An ws w' g (fst5 l).2.2.1 (fst5 l).2.2.2 := by
  cases l with
  | nil => exact first_0 H
  | cons y m =>
    cases hs : sgnB 43 (y :: m) with
    | true =>
      obtain ⟨hy, hy2⟩ := sgn_hd hs
      have e5 : fst5 (y :: m) = fstP true m := by unfold fst5; rw [hs]; rfl
      rw [e5]
      cases m with
      | nil => exact first_p0 H hy hy2
      | cons x t =>
        by_cases k12 : x.f0.f0 = 12
        · have e : fstP true (x :: t) = (0, ⟨#[]⟩, x :: t, true) := by
            simp [fstP, k12]
          rw [e]
          exact first_p1 H hy hy2 k12
        · by_cases k1 : x.f0.f0 = 1
          · cases hp : preB [110] (lowerB x.f0.f1) with
            | true =>
              have e : fstP true (x :: t) = (1, (lowerB x.f0.f1).extract 1 (lowerB x.f0.f1).size, t, false) := by simp [fstP, k1, hp]
              rw [e]
              exact first_p2 H hy hy2 k1 hp
            | false =>
              have e : fstP true (x :: t) = (0, ⟨#[]⟩, x :: t, true) := by simp [fstP, k1, hp]
              rw [e]
              exact first_p3 H hy hy2 k1 hp
          · have e : fstP true (x :: t) = (0, ⟨#[]⟩, x :: t, true) := by simp [fstP, k12, k1]
            rw [e]
            exact first_p4 H hy hy2 k12 k1
    | false =>
      have e5 : fst5 (y :: m) = fstP false (y :: m) := by unfold fst5; rw [hs]; rfl
      rw [e5]
      by_cases k12 : y.f0.f0 = 12
      · cases h3 : y.f0.f3 with
        | true =>
          cases hp : preB [110] (lowerB y.f0.f1) with
          | true =>
            have e : fstP false (y :: m) = (y.f0.f2, (lowerB y.f0.f1).extract 1 (lowerB y.f0.f1).size, m, false) := by simp [fstP, k12, h3, hp]
            rw [e]
            exact first_A H k12 h3 hp
          | false =>
            have e : fstP false (y :: m) = (0, ⟨#[]⟩, y :: m, true) := by simp [fstP, k12, h3, hp]
            rw [e]
            exact first_2 H k12 h3 hp
        | false =>
          have e : fstP false (y :: m) = (0, ⟨#[]⟩, y :: m, true) := by simp [fstP, k12, h3]
          rw [e]
          exact first_3 H k12 h3
      · by_cases k1 : y.f0.f0 = 1
        · cases hp : preB [110] (lowerB y.f0.f1) with
          | true =>
            have e : fstP false (y :: m) = (1, (lowerB y.f0.f1).extract 1 (lowerB y.f0.f1).size, m, false) := by simp [fstP, k1, hp]
            rw [e]
            exact first_4 H k1 hp
          | false =>
            cases hq : preB [45, 110] (lowerB y.f0.f1) with
            | true =>
              have e : fstP false (y :: m) = (-1, (lowerB y.f0.f1).extract 2 (lowerB y.f0.f1).size, m, false) := by simp [fstP, k1, hp, hq]
              rw [e]
              exact first_5 H k1 hp hq
            | false =>
              have e : fstP false (y :: m) = (0, ⟨#[]⟩, y :: m, true) := by simp [fstP, k1, hp, hq]
              rw [e]
              exact first_6 H k1 hp hq
        · have e : fstP false (y :: m) = (0, ⟨#[]⟩, y :: m, true) := by simp [fstP, k12, k1]
          rw [e]
          by_cases k9 : y.f0.f0 = 9
          · exact first_7 H k9 (sgn_no hs k9)
          · exact first_8 H k9 k12 k1
def secP (rest : ByteArray) (l : List N51) : Int × List N51 × Bool :=
  if rest = ⟨#[45]⟩ then (-(nbrV false (trimF l)), nbrL false (trimF l), !nbrB false (trimF l))
  else if rest = ⟨#[]⟩ then (if trimF l = [] then 0 else endV (trimF l), if trimF l = [] then [] else endL (trimF l), if trimF l = [] then false else endB (trimF l))
  else (tokI rest.data.toList, l, secBad rest.data.toList)
theorem second_c {ws w : World} {g : Nat} {l : List N51} (rest : ByteArray) (hz : rest.size ≤ 1000000000) (H : An ws w g l false) :
    Calls Tryd.prog 23 #[.pointer (some ⟨g, 0, none⟩), .string rest] w fun e w' => e = .returned (.int .i64 (secP rest l).1) ∧ An ws w' g (secP rest l).2.1 (secP rest l).2.2 := by
  unfold secP
  by_cases h1 : rest = ⟨#[45]⟩
  · rw [if_pos h1, h1]
    exact second_dash H
  · rw [if_neg h1]
    by_cases h2 : rest = ⟨#[]⟩
    · rw [if_pos h2, h2]
      exact second_end H
    · rw [if_neg h2]
      exact second_more rest h1 h2 hz H
/-- The reader is made. -/
theorem An.mk0 {w : World} {base : Nat} {ok : Nat → Prop} {A : Option Addr} {n c : Nat} {l : List N51} (h : Kd.N k51 51 w base ok (.slice A n c) l) (hz : l.length ≤ 1000000000) (hg : ∀ x, x ∈ l → GoodN x) :
    An w (w.alloc (.cells #[.slice A l.length c, .bool false] 47)) w.heap.size l false ∧ Kd.F k51 (w.alloc (.cells #[.slice A l.length c, .bool false] 47)) (fun k => k ≠ w.heap.size) A l.length l := by
  have hr := (Kd.N_reads' h).2.1
  have hn := (Kd.N_reads' h).1
  subst hn
  have hF : Kd.F k51 (w.alloc (.cells #[.slice A l.length c, .bool false] 47)) (fun k => k ≠ w.heap.size) A l.length l :=
    Kd.F_mono (Kd.F_alloc (Kd.F_bound (Kd.N_F h)) _) (fun k hk => by have := hk.2; omega)
  exact ⟨⟨KeepBut.of_below (below_alloc (Below.refl _ _) _) _ _, (below_alloc (Below.refl _ _) _).mono (Nat.zero_le _), ⟨A, c, heap_alloc_new w _, hr, hF⟩, hz, hg⟩, hF⟩
def opB (x : N51) : Bool := decide (0 < x.f1.length) || (x.f0.f0 == 19) || (x.f0.f0 == 2)
theorem good_trimB {l : List N51} (h : ∀ x, x ∈ l → GoodN x) : ∀ n, ∀ x, x ∈ trimB n l → GoodN x := by
  intro n
  induction n generalizing l with
  | zero => exact h
  | succ n ih =>
    intro x hx
    unfold trimB at hx
    split at hx
    · exact ih (fun y hy => h y (List.mem_of_mem_take hy)) x hx
    · exact h x hx
theorem trimB_len (l : List N51) : ∀ n, (trimB n l).length ≤ l.length := by
  intro n
  induction n generalizing l with
  | zero => exact Nat.le_refl _
  | succ n ih =>
    unfold trimB
    split
    · exact Nat.le_trans (ih _) (by rw [List.length_take]; omega)
    · exact Nat.le_refl _
theorem good_trimN {l : List N51} (h : ∀ x, x ∈ l → GoodN x) : ∀ x, x ∈ trimN l → GoodN x := good_trimB (good_trim h) _
theorem trimN_len (l : List N51) : (trimN l).length ≤ l.length := Nat.le_trans (trimB_len _ _) (List.dropWhile_sublist whiN).length_le

def closesT (t : S49) : ByteArray :=
  if t.f0 = 2 then ⟨#[41]⟩ else if t.f0 = 19 then (if t.f1 = ⟨#[40]⟩ then ⟨#[41]⟩ else if t.f1 = ⟨#[91]⟩ then ⟨#[93]⟩ else if t.f1 = ⟨#[123]⟩ then ⟨#[125]⟩ else ⟨#[]⟩) else ⟨#[]⟩
theorem toList_lit (s : ByteArray) (l : List UInt8) : s.toList = l ↔ s = ⟨l.toArray⟩ := by
  rw [ByteArray.toList_eq]
  constructor
  · intro e
    rw [← e]
  · rintro rfl
    rfl
theorem beq_lit (s : ByteArray) (l : List UInt8) : (s.toList == l) = decide (s = ⟨l.toArray⟩) := by
  by_cases h : s = ⟨l.toArray⟩
  · rw [decide_eq_true h, beq_iff_eq, toList_lit]; exact h
  · rw [decide_eq_false h, beq_eq_false_iff_ne]
    intro e
    exact h ((toList_lit s l).1 e)
theorem closes_f (k : Nat) (hk : 3 ≤ k) (t : S49) : fleuronref1_closes.f k t.f0 t.f1 t.f2 t.f3 t.f4 t.f5 = some (closesT t) := by
  obtain ⟨k, rfl⟩ : ∃ m, k = m + 2 := ⟨k - 2, by omega⟩
  unfold fleuronref1_closes.f closesT
  by_cases h1 : t.f0 = 2
  · rw [if_pos h1, if_pos h1]; simp [fleuronref1_closes.j0]
  · rw [if_neg h1, if_neg h1]
    by_cases h2 : t.f0 = 19
    · rw [if_pos h2, if_pos h2, beq_lit]
      by_cases h3 : t.f1 = ⟨#[40]⟩
      · rw [if_pos h3]; simp [fleuronref1_closes.j0, h3]
      · have h3' : decide (t.f1 = ⟨[40].toArray⟩) = false := decide_eq_false h3
        rw [if_neg h3, h3']
        simp only [fleuronref1_closes.j0]
        rw [if_neg (by simp), if_pos h2, beq_lit]
        by_cases h4 : t.f1 = ⟨#[91]⟩
        · rw [if_pos h4]; simp [fleuronref1_closes.j1, h4]
        · have h4' : decide (t.f1 = ⟨[91].toArray⟩) = false := decide_eq_false h4
          rw [if_neg h4, h4']
          simp only [fleuronref1_closes.j1]
          rw [if_neg (by simp), if_pos h2]
          by_cases h5 : t.f1 = ⟨#[123]⟩
          · rw [if_pos h5, if_pos ((toList_lit _ _).2 h5)]
          · rw [if_neg h5, if_neg (fun e => h5 ((toList_lit _ _).1 e))]
    · rw [if_neg h2, if_neg h2]
      simp only [fleuronref1_closes.j0, fleuronref1_closes.j1]
      rw [if_neg (by simp), if_neg h2, if_neg (by simp), if_neg h2]
mutual
def nodeP : Nat → List S49 → Int → S51 × List S49
  | 0, _, _ => (z51, [])
  | _ + 1, [], _ => (z51, [])
  | n + 1, t :: ts, d => if closesT t = ⟨#[]⟩ then (⟨t, []⟩, ts) else (⟨t, (kidsP n ts d (closesT t)).1⟩, (kidsP n ts d (closesT t)).2)
def kidsP : Nat → List S49 → Int → ByteArray → List S51 × List S49
  | 0, _, _, _ => ([], [])
  | _ + 1, [], _, _ => ([], [])
  | n + 1, t :: ts, d, c => if t.f0 = 20 ∧ t.f1 = c then ([], ts) else
      ((if d < 32 then [(nodeP n (t :: ts) (d + 1)).1] else []) ++ (kidsP n (nodeP n (t :: ts) (d + 1)).2 d c).1, (kidsP n (nodeP n (t :: ts) (d + 1)).2 d c).2)
end
theorem rd_drop (xs : List S49) (i : Nat) (t : S49) (ts : List S49) (h : xs.drop i = t :: ts) : i < xs.length ∧ rd_T49 xs (i : Int) = t ∧ xs.drop (i + 1) = ts := by
  have hl : i < xs.length := by
    rcases Nat.lt_or_ge i xs.length with h' | h'
    · exact h'
    · rw [List.drop_eq_nil_of_le h'] at h; cases h
  rw [List.drop_eq_getElem_cons hl] at h
  injection h with h1 h2
  refine ⟨hl, ?_, h2⟩
  unfold rd_T49
  rw [Int.toNat_natCast, List.getD_eq_getElem?_getD, List.getElem?_eq_getElem hl]
  exact h1
theorem eta51 (p : S51) : (⟨(⟨p.f0.f0, p.f0.f1, p.f0.f2, p.f0.f3, p.f0.f4, p.f0.f5⟩ : S49), p.f1⟩ : S51) = p := by cases p; rfl
/-- What the printed functions come to. -/
def NodeAt (x0 : List S49) (m : Nat) : Prop := ∀ (t : S49) (ts : List S49) (i : Nat) (d : Int) (k n : Nat), (t :: ts).length = m → x0.drop i = t :: ts → 3 * m + 4 ≤ k → 2 * m ≤ n → 0 ≤ d → d + m ≤ 2000000000 →
  ∃ j : Nat, i < j ∧ j ≤ x0.length ∧ (nodeP n (t :: ts) d).2 = x0.drop j ∧
    fleuronref1_node.f k x0 i d = some ((nodeP n (t :: ts) d).1.f0.f0, (nodeP n (t :: ts) d).1.f0.f1, (nodeP n (t :: ts) d).1.f0.f2, (nodeP n (t :: ts) d).1.f0.f3, (nodeP n (t :: ts) d).1.f0.f4, (nodeP n (t :: ts) d).1.f0.f5, (nodeP n (t :: ts) d).1.f1, (j : Int))
def KidsAt (x0 : List S49) (m : Nat) : Prop := ∀ (l : List S49) (i : Nat) (d : Int) (c : ByteArray) (u : S49) (acc : List S51) (k n : Nat), l.length = m → x0.drop i = l → i ≤ x0.length → 3 * m + 6 ≤ k → 2 * m + 1 ≤ n → 0 ≤ d → d + m ≤ 1999999999 → acc.length + m ≤ 1000000000 →
  ∃ j : Nat, i ≤ j ∧ j ≤ x0.length ∧ (kidsP n l d c).2 = x0.drop j ∧
    fleuronref1_node.l0 k x0 i d c u.f0 u.f1 u.f2 u.f3 u.f4 u.f5 acc = some (u.f0, u.f1, u.f2, u.f3, u.f4, u.f5, acc ++ (kidsP n l d c).1, (j : Int))
theorem node_all (x0 : List S49) (hx : x0.length ≤ 1000000000) : ∀ m, (∀ q, q < m → KidsAt x0 q) → NodeAt x0 m ∧ ((∀ q, q ≤ m → NodeAt x0 q) → KidsAt x0 m) := by
  intro m hK
  refine ⟨?_, ?_⟩
  · intro t ts i d k n hm hd hk hn h0 hdm
    obtain ⟨hi, hr, hd1⟩ := rd_drop x0 i t ts hd
    obtain ⟨k, rfl⟩ : ∃ q, k = q + 1 := ⟨k - 1, by omega⟩
    obtain ⟨n, rfl⟩ : ∃ q, n = q + 1 := ⟨n - 1, by simp at hm; omega⟩
    simp only [List.length_cons] at hm
    have e1 : wrap64 ((i : Int) + 1) = ((i + 1 : Nat) : Int) := by unfold wrap64; omega
    have hlm : (x0.drop i).length = m := by rw [hd]; simp only [List.length_cons]; omega
    rw [List.length_drop] at hlm
    simp only [fleuronref1_node.f]
    rw [if_pos (by omega), if_pos (by omega), hr, closes_f k (by omega) t]
    simp only [Option.bind_some, e1]
    by_cases hc : closesT t = ⟨#[]⟩
    · rw [if_pos ((toList_lit _ _).2 hc)]
      refine ⟨i + 1, by omega, by omega, ?_, ?_⟩
      · simp only [nodeP]; rw [if_pos hc]; exact hd1.symm
      · simp only [nodeP]; rw [if_pos hc]
    · rw [if_neg (fun e => hc ((toList_lit _ _).1 e))]
      obtain ⟨j, h1, h2, h3, h4⟩ := hK ts.length (by omega) ts (i + 1) d (closesT t) t [] k n rfl hd1 (by omega) (by omega) (by omega) h0 (by omega) (by simp; omega)
      refine ⟨j, by omega, h2, ?_, ?_⟩
      · simp only [nodeP]; rw [if_neg hc]; exact h3
      · rw [h4]; simp only [nodeP]; rw [if_neg hc]; simp
  · intro hN l i d c u acc k n hm hd hi hk hn h0 hdm ha
    obtain ⟨k, rfl⟩ : ∃ q, k = q + 2 := ⟨k - 2, by omega⟩
    obtain ⟨n, rfl⟩ : ∃ q, n = q + 1 := ⟨n - 1, by omega⟩
    cases l with
    | nil =>
      have hil : x0.length ≤ i := by
        rcases Nat.lt_or_ge i x0.length with h | h
        · rw [List.drop_eq_getElem_cons h] at hd; cases hd
        · exact h
      refine ⟨i, Nat.le_refl _, hi, ?_, ?_⟩
      · simp only [kidsP]; exact hd.symm
      · simp only [fleuronref1_node.l0]
        rw [if_neg (by omega)]
        simp [kidsP]
    | cons t ts =>
      obtain ⟨hlt, hr, hd1⟩ := rd_drop x0 i t ts hd
      have e1 : wrap64 ((i : Int) + 1) = ((i + 1 : Nat) : Int) := by unfold wrap64; omega
      have e2 : wrap64 (d + 1) = d + 1 := by unfold wrap64; omega
      simp only [List.length_cons] at hm
      simp only [fleuronref1_node.l0]
      rw [if_pos (by omega), if_pos (by omega), hr]
      have hstop : (if t.f0 = 20 then fleuronref1_node.j1 (k + 1) x0 i d c (t.f1.toList == c.toList) u.f0 u.f1 u.f2 u.f3 u.f4 u.f5 acc else fleuronref1_node.j1 (k + 1) x0 i d c false u.f0 u.f1 u.f2 u.f3 u.f4 u.f5 acc) = fleuronref1_node.j1 (k + 1) x0 i d c (decide (t.f0 = 20 ∧ t.f1 = c)) u.f0 u.f1 u.f2 u.f3 u.f4 u.f5 acc := by
        by_cases a : t.f0 = 20
        · rw [if_pos a]
          congr 1
          by_cases b : t.f1 = c
          · rw [b]; simp [a]
          · have : ¬ (t.f0 = 20 ∧ t.f1 = c) := fun h => b h.2
            rw [decide_eq_false this, beq_eq_false_iff_ne, ByteArray.toList_eq, ByteArray.toList_eq]
            intro e
            refine b ?_
            cases h1 : t.f1; cases c; rw [h1] at e; congr 1; exact Array.ext' e
        · rw [if_neg a, decide_eq_false (fun h => a h.1)]
      rw [hstop]
      simp only [fleuronref1_node.j1]
      by_cases hs : t.f0 = 20 ∧ t.f1 = c
      · rw [if_pos (decide_eq_true hs), e1]
        refine ⟨i + 1, by omega, by omega, ?_, ?_⟩
        · simp only [kidsP]; rw [if_pos hs]; exact hd1.symm
        · simp only [kidsP]; rw [if_pos hs]; simp
      · rw [if_neg (by simp [hs]), e2]
        obtain ⟨j, h1, h2, h3, h4⟩ := hN m (Nat.le_refl m) t ts i (d + 1) k n (by simp; omega) hd (by omega) (by omega) (by omega) (by omega)
        rw [h4]
        simp only [Option.bind_some, eta51]
        have hlm : (x0.drop i).length = m := by rw [hd]; simp only [List.length_cons]; omega
        rw [List.length_drop] at hlm
        have hlen : (x0.drop j).length < m := by rw [List.length_drop]; omega
        by_cases h32 : d < 32
        · rw [if_pos h32, if_pos (by omega)]
          obtain ⟨j2, g1, g2, g3, g4⟩ := hK (x0.drop j).length hlen (x0.drop j) j d c u (acc ++ [(nodeP n (t :: ts) (d + 1)).1]) k n rfl rfl h2 (by omega) (by omega) h0 (by omega) (by simp; omega)
          refine ⟨j2, by omega, g2, ?_, ?_⟩
          · simp only [kidsP]; rw [if_neg hs, h3]; exact g3
          · refine Eq.trans g4 ?_
            simp only [kidsP]; rw [if_neg hs, h3, if_pos h32]; simp
        · rw [if_neg h32]
          obtain ⟨j2, g1, g2, g3, g4⟩ := hK (x0.drop j).length hlen (x0.drop j) j d c u acc k n rfl rfl h2 (by omega) (by omega) h0 (by omega) (by omega)
          refine ⟨j2, by omega, g2, ?_, ?_⟩
          · simp only [kidsP]; rw [if_neg hs, h3]; exact g3
          · rw [g4]; simp only [kidsP]; rw [if_neg hs, h3, if_neg h32]; simp
theorem node_kids (x0 : List S49) (hx : x0.length ≤ 1000000000) : ∀ m, NodeAt x0 m ∧ KidsAt x0 m := by
  intro m
  induction m using Nat.strongRecOn with
  | _ m ih =>
    obtain ⟨h1, h2⟩ := node_all x0 hx m (fun q hq => (ih q hq).2)
    refine ⟨h1, h2 (fun q hq => ?_)⟩
    rcases Nat.lt_or_ge q m with h | h
    · exact (ih q h).1
    · rw [show q = m by omega]; exact h1
def nodesP : Nat → List S49 → List S51
  | 0, _ => []
  | _ + 1, [] => []
  | n + 1, t :: ts => (nodeP (2 * ts.length + 2) (t :: ts) 1).1 :: nodesP n (nodeP (2 * ts.length + 2) (t :: ts) 1).2
theorem Nodes_l0 (x0 : List S49) (hx : x0.length ≤ 1000000000) : ∀ (m : Nat) (l : List S49) (i k n : Nat) (acc : List S51), l.length = m → x0.drop i = l → i ≤ x0.length → 4 * m + 8 ≤ k → m ≤ n → acc.length + m ≤ 1000000000 →
    fleuronref1_Nodes.l0 k x0 acc i = some (acc ++ nodesP n l) := by
  intro m
  induction m using Nat.strongRecOn with
  | _ m ih =>
  intro l i k n acc hm hd hi hk hn ha
  obtain ⟨k, rfl⟩ : ∃ q, k = q + 1 := ⟨k - 1, by omega⟩
  cases l with
  | nil =>
    have hil : x0.length ≤ i := by
      rcases Nat.lt_or_ge i x0.length with h | h
      · rw [List.drop_eq_getElem_cons h] at hd; cases hd
      · exact h
    simp only [fleuronref1_Nodes.l0]
    rw [if_neg (by omega)]
    cases n <;> simp [nodesP]
  | cons t ts =>
    obtain ⟨hlt, hr, hd1⟩ := rd_drop x0 i t ts hd
    simp only [List.length_cons] at hm
    obtain ⟨n, rfl⟩ : ∃ q, n = q + 1 := ⟨n - 1, by omega⟩
    have hlm : (x0.drop i).length = m := by rw [hd]; simp only [List.length_cons]; omega
    rw [List.length_drop] at hlm
    obtain ⟨j, h1, h2, h3, h4⟩ := (node_kids x0 hx m).1 t ts i 1 k (2 * ts.length + 2) (by simp; omega) hd (by omega) (by omega) (by omega) (by omega)
    have hlen : (x0.drop j).length < m := by rw [List.length_drop]; omega
    simp only [fleuronref1_Nodes.l0]
    rw [if_pos (by omega), h4]
    simp only [Option.bind_some, eta51]
    rw [if_pos (by omega)]
    refine Eq.trans (ih (x0.drop j).length hlen (x0.drop j) j k n (acc ++ [(nodeP (2 * ts.length + 2) (t :: ts) 1).1]) rfl rfl h2 (by omega) (by omega) (by simp; omega)) ?_
    simp only [nodesP]
    rw [h3]; simp
theorem Nodes_f (x0 : List S49) (hx : x0.length ≤ 1000000000) : ∃ k, fleuronref1_Nodes.f k x0 = some (nodesP x0.length x0) :=
  ⟨4 * x0.length + 8, by
    unfold fleuronref1_Nodes.f
    exact (Nodes_l0 x0 hx x0.length x0 0 _ x0.length [] rfl rfl (Nat.zero_le _) (Nat.le_refl _) (Nat.le_refl _) (by simpa using hx))⟩

theorem redP_len : ∀ (n : Nat) (f cr : Bool) (s : ByteArray) (pos : Nat), (redP n f cr s pos).length ≤ n
  | 0, _, _, _, _ => Nat.le_refl _
  | n + 1, f, cr, s, pos => by
    unfold redP
    split
    · split
      · exact Nat.le_succ_of_le (redP_len n _ _ s _)
      · split
        · exact Nat.le_succ_of_le (redP_len n _ _ s _)
        · simp only [List.length_cons]
          exact Nat.succ_le_succ (redP_len n _ _ s _)
    · exact Nat.zero_le _
theorem reads_len (s : ByteArray) : (reads s).length ≤ s.size := redP_len _ _ _ _ _
theorem tokF_len : ∀ (n : Nat) (l : List Int), (tokF n l).length ≤ l.length
  | 0, _ => Nat.zero_le _
  | n + 1, l => by
    unfold tokF
    split
    · exact Nat.zero_le _
    · rename_i h
      have h1 := (comL_suf l.length l).length_le
      have h2 := tokP_lt (l := comL l.length l) (by omega)
      have h3 := tokF_len n (tokP (comL l.length l)).2
      simp only [List.length_cons]
      omega
theorem tokens_len (l : List Int) : (tokens l).length ≤ l.length := tokF_len _ _
/-- The nodes of a text. -/
def nodesS (s : ByteArray) : List S51 := nodesP (tokens (reads s)).length (tokens (reads s))
theorem rdI_own {w : World} {base n c : Nat} {A : Option Addr} {xs : List Int} (h : w.ownsRow base 21 1 (.slice A n c) n (nums .i32 xs)) : n = xs.length ∧ RdI w A xs := by
  obtain ⟨A', c', e, hr⟩ := own_reads h
  injection e with e1 e2 e3
  subst e1
  refine ⟨hr.1.symm, fun j hj => ?_⟩
  obtain ⟨ad, e, hc⟩ := hr.2.2 (by have := hr.1; omega)
  have h := hc j (by have := hr.1; omega)
  exact ⟨ad, e, by have := World.block_lt_of_cell? w _ h; rwa [add_block] at this, h⟩
set_option maxHeartbeats 4000000 in
set_option maxRecDepth 100000 in
theorem nodes_c (s : ByteArray) (w : World) (hz : s.size ≤ 1000000) :
    Calls Tryd.prog 8 #[.string s] w fun e w' => ∃ v, e = .returned v ∧ Kd.R k51 51 w' w.heap.size (fun _ => True) v (nodesS s) ∧ Below w.heap.size w w' := by
  have hconv : ∀ W : World, (convert 9 43 (.string s)).run Tryd.prog W = _ := fun W => Lib.run_convert_string_bytes W 9 43 5 s Tryd.underlying9 Tryd.underlying43 Tryd.underlying5
  have HB := Aside0.mk (bytesWorld_below w 5 s)
  have HC := Aside0.mk (fun (i : Nat) (hi : i < s.size) => (Lib.bytesWorld_cell w 5 s i hi : (Lib.bytesWorld w 5 s).cell? ⟨w.heap.size, i, none⟩ = some (.int .u8 (byteAt s i))))
  have hl1 := reads_len s
  have hl2 := tokens_len (reads s)
  obtain ⟨k, hk⟩ := Nodes_f (tokens (reads s)) (by omega)
  have HK := Aside0.mk hk
  clear hk
  go_enter Tryd.func8, Tryd.ntmps8
  go_wp2_with (fail)
  refine (Read_c w.heap.size _ s _ HC.out (by omega)).mono ?_
  rintro e w1 ⟨v1, rfl, ho1, hb1⟩
  obtain ⟨A1, c1, rfl⟩ := own_slice ho1
  have HR1 := Aside0.mk (rdI_own ho1).2
  have HB1 := Aside0.mk (HB.out.trans (hb1.mono (by have := HB.out.size; omega)))
  clear ho1 hb1
  go_wp2_with (fail)
  refine (Tokens_c A1 c1 (reads s) w1 HR1.out (by omega)).mono ?_
  rintro e w2 ⟨v2, rfl, ho2, hb2⟩
  obtain ⟨A2, c2, rfl, hc2, hr2⟩ := Kd.R_reads ho2
  have HR2 := Aside0.mk hr2
  have HC2 := Aside0.mk hc2
  have HB2 := Aside0.mk (HB1.out.trans (hb2.mono HB1.out.size))
  clear ho2 hb2 hr2 hc2
  go_wp2_with (fail)
  refine (fleuronref1_Nodes.calls k A2 c2 (tokens (reads s)) (nodesS s) w2 HR2.out HC2.out HK.out).mono ?_
  rintro e w3 ⟨v3, rfl, ho3, hb3⟩
  have HO3 := Aside0.mk (Kd.R_lower ho3 HB2.out.size)
  have HB3 := Aside0.mk (HB2.out.trans (hb3.mono HB2.out.size))
  clear ho3 hb3
  go_wp2
  go_ret
  exact ⟨v3, rfl, HO3.out, HB3.out⟩

end Go.Proofs.YtgdolholioccdaaDoor.PX
