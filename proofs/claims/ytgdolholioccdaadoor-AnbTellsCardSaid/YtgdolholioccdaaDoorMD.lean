/-
  Contracts of the functions that the law reaches, and what they compute, on lists (part D). No condition.
-/
import Derived.Test.YtgdolholioccdaaDoorMB
import Derived.Lib.SliceRun
import Derived.Lib.Builder
import Derived.Shelf.Strings.Builder1
import Derived.Test.YtgdolholioccdaaDoorMC
set_option linter.unusedVariables false
set_option linter.unusedSimpArgs false
namespace Go.Proofs.YtgdolholioccdaaDoor.PX
open Go.RowKit Go.Proofs.YtgdolholioccdaaDoorW.PrintWords Go.Proofs.YtgdolholioccdaaDoorW.PrintLast Go.Proofs.YtgdolholioccdaaDoorW.PrintMore
theorem N_empty51 (W : World) (ok : Nat → Prop) : Kd.N k51 51 (W.alloc (.cells #[] 51)) W.heap.size (fun k => ok k ∨ W.heap.size ≤ k) (.slice (some ⟨W.heap.size, 0, none⟩) 0 0) [] :=
  Kd.R_N ⟨fun k hk => .inr (by simp [Value.ownBlock] at hk; omega), [], World.ownsRow_lit (base := W.heap.size) (e := 51) (size := 7) W #[] 0 (Nat.le_refl _) (by simp) (by simp), ⟨rfl, fun j p hj => by simp at hj⟩⟩
set_option maxRecDepth 100000 in
set_option maxHeartbeats 1000000 in
theorem Clone_c (ok : Nat → Prop) (A : Option Addr) (c : Nat) (xs : List S51) (w : World) (hr : Kd.F k51 w ok A xs.length xs) (hc : xs.length ≤ c) (hz : xs.length ≤ 1000000000) :
    Calls Tryd.prog 56 #[.slice A xs.length c] w fun e w' => ∃ v, e = .returned v ∧ Kd.N k51 51 w' w.heap.size (fun k => ok k ∨ w.heap.size ≤ k) v xs ∧ Below w.heap.size w w' := by
  have HF := Aside0.mk (Kd.F_bound hr)
  replace hr := Kd.F_now hr
  have hq : ∀ (w : World) (a : Option Addr) (n c n' c' : Nat), (binOp .eql 23 (.slice a n c) (.slice none n' c')).run Tryd.prog w = .ok (.bool a.isNone) w := fun w a n c n' c' => Lib.run_eql_slice_nil w _ _ a n c n' c' Tryd.underlying23
  cases hA : A with
  | none =>
    subst hA
    have hx : xs = [] := by
      have h := hr.2.2
      cases xs with
      | nil => rfl
      | cons x xs => exact absurd (h (by simp)) (by rintro ⟨ad, h, _⟩; cases h)
    subst hx
    go_enter Tryd.func56, Tryd.ntmps56
    go_wp2
    go_ret
    exact ⟨_, rfl, Kd.N_nil _ _ _ _ _, by first | exact Below.refl _ _ | skip⟩
  | some ad =>
    subst hA
    go_enter Tryd.func56, Tryd.ntmps56
    have HE := Aside0.mk (N_empty51 w ok)
    go_wp2_with (at_builtin; refine Kd.N_append_rows k51 (w0 := w) w.heap.size rfl (.tmp 5) (.tmp 6) 23 51 (.agg #[(.int .i64 0), (.string ⟨#[]⟩), (.int .i64 0), (.bool false), (.bool false), (.bool false), .slice none 0 0]) 64 rfl Tryd.underlying23 info51 rfl (by decide) (by decide) (.slice (some ⟨w.heap.size, 0, none⟩) 0 0) [] xs (some ad) xs.length c (fun k => ok k ∨ w.heap.size ≤ k) (fun k => ok k ∧ k < w.heap.size) rfl rfl HE.out (Kd.F_alloc HF.out _) ?c1 ?c0 (below_alloc (Below.refl _ _) _) ?c2 ?c3 ?_)
    case c0 => intro k hk; right; simp at hk; omega
    case c1 => intro k hk; exact ⟨.inl hk.1, fun h => by have h := hk.2; simp [Value.ownBlock] at *; omega⟩
    case c2 => simp
    case c3 => simp; omega
    intro v1 w1 hn hb _ _
    have HN := Aside0.mk hn
    have HB := Aside0.mk hb
    clear hn hb
    go_wp2
    go_ret
    exact ⟨_, rfl, by simpa using HN.out, HB.out⟩
/-- Every list in it is short. -/
inductive Ok51 : List S51 → Prop
  | mk (xs : List S51) (hl : xs.length ≤ 1000000000) (hk : ∀ x, x ∈ xs → Ok51 x.f1) : Ok51 xs
theorem set_same {α : Type} (xs : List α) (i : Nat) (z : α) (h : i < xs.length) : xs.set i (xs.getD i z) = xs := by
  rw [List.getD_eq_getElem?_getD, List.getElem?_eq_getElem h]
  exact List.set_getElem_self h
set_option maxRecDepth 100000 in
set_option maxHeartbeats 4000000 in
theorem Copy_c (xs : List S51) (h : Ok51 xs) : ∀ (ok : Nat → Prop) (A : Option Addr) (c : Nat) (w : World) (_ : Kd.F k51 w ok A xs.length xs) (_ : xs.length ≤ c),
    Calls Tryd.prog 33 #[.slice A xs.length c] w fun e w' => ∃ v, e = .returned v ∧ Kd.N k51 51 w' w.heap.size (fun k => ok k ∨ w.heap.size ≤ k) v xs ∧ Below w.heap.size w w' := by
  induction h with
  | mk xs hl hk ih =>
    intro ok A c w hf hc
    have HF := Aside0.mk hf
    have IH := Aside0.mk ih
    clear hf ih hk
    go_enter Tryd.func33, Tryd.ntmps33
    go_wp2_with (fail)
    refine (Clone_c ok A c xs w HF.out hc hl).mono ?_
    rintro e w1 ⟨v1, rfl, hn1, hb1⟩
    obtain ⟨A1, c1, rfl⟩ := Kd.N_slice hn1
    have HN1 := Aside0.mk hn1
    have HB1 := Aside0.mk hb1
    clear hn1 hb1
    go_wp2_with (fail)
    go_loopw [9] (fun v wr => ∃ k : Nat, k ≤ xs.length ∧ v = .int .i64 k ∧ Aside0 (Kd.N k51 51 wr w.heap.size (fun k => ok k ∨ w.heap.size ≤ k) (.slice A1 xs.length c1) xs) ∧ Aside0 (Below w.heap.size w wr)) (fun v _ => xs.length - (intOf v).toNat)
    case atStart => exact ⟨0, Nat.zero_le _, rfl, HN1, HB1⟩
    case round =>
      obtain ⟨k, hk, rfl, HN, HB⟩ := hrel
      clear HN1 HB1
      by_cases hlt : k < xs.length
      · obtain ⟨g, cap, he, hge, hgl, _⟩ := Kd.N_form HN.out (by omega)
        injection he with e1 _ e3
        subst e1 e3
        obtain ⟨cs, hcl, hFK, hcc, hfr⟩ := Kd.N_elem HN.out z51 (k : Int) (by omega) (by omega)
        have hx : xs.getD k z51 ∈ xs := by rw [List.getD_eq_getElem?_getD, List.getElem?_eq_getElem hlt]; exact List.getElem_mem hlt
        have hset := set_same xs k z51 hlt
        have HIH := Aside0.mk (IH.out _ hx)
        simp only [Int.toNat_natCast] at hFK hcc hfr
        obtain ⟨x, hxe⟩ : ∃ x, xs.getD k z51 = x := ⟨_, rfl⟩
        rw [hxe] at hFK HIH hset hx
        obtain ⟨A6, c6, rfl, hl6, hF6⟩ := k51_openF hFK
        have h6 : wr.cell? ⟨g, k * 7 + 6, none⟩ = some (.slice A6 x.f1.length c6) := hcc 6 _ rfl
        have hf6 : wr.frozen? ⟨g, k * 7 + 6, none⟩ = false := hfr 6
        have HF6 := Aside0.mk hF6
        have HFK := Aside0.mk hFK
        have HCC := Aside0.mk hcc
        have HSET := Aside0.mk hset
        clear hcc hfr hFK hF6 hset hxe hcl
        go_wp2_with (go_at_call 33; refine (HIH.out _ A6 c6 wr HF6.out hl6).mono ?_; rintro e w2 ⟨v2, rfl, hn2, hb2⟩; obtain ⟨A2, c2, rfl⟩ := Kd.N_slice hn2; have H6 : w2.cell? ⟨g, k * 7 + 6, none⟩ = some (.slice A6 x.f1.length c6) := (hb2.cell (p := ⟨g, k * 7 + 6, none⟩) hgl).trans h6; have HG6 : w2.frozen? ⟨g, k * 7 + 6, none⟩ = false := (hb2.frozen (p := ⟨g, k * 7 + 6, none⟩) hgl).trans hf6; have HN2 := Aside0.mk hn2; have HB2 := Aside0.mk hb2; clear hn2 hb2 h6 hf6)
        go_roundw
        case rel =>
          have hN := Kd.N_below HN.out HB2.out
          have hcc2 : ∀ (j : Nat) (u : Value), [Value.int .i64 x.f0.f0, .string x.f0.f1, .int .i64 x.f0.f2, .bool x.f0.f3, .bool x.f0.f4, .bool x.f0.f5, .slice A6 x.f1.length c6][j]? = some u → w2.cell? ⟨g, (k : Int).toNat * k51.sz + j, none⟩ = some u := fun j u hj => (HB2.out.cell (p := ⟨g, k * k51.sz + j, none⟩) hgl).trans (HCC.out j u hj)
          have hl2 := (Kd.N_reads' HN2.out).2.1
          have hN2 := Kd.N_F HN2.out
          obtain ⟨hS, -⟩ := Kd.N_seg (d := k51) (okp := fun k => (ok k ∨ w.heap.size ≤ k) ∧ k ≠ g ∨ wr.heap.size ≤ k) (x' := x) (seg := [.slice A2 x.f1.length c2]) (j := 6) hN (k : Int) (by omega) (by omega) rfl hcc2 (Nat.le_refl 7) (k51_mkF w2 _ x hl2 hN2) (fun k' hk' => hk'.elim (fun h => h) (fun h => ⟨.inr (by have := HB.out.size; omega), by omega⟩))
          refine ⟨k + 1, by omega, by go_num, ⟨?_⟩, ⟨?_⟩⟩
          · rw [Int.toNat_natCast, HSET.out] at hS
            exact hS
          · exact (HB.out.trans (HB2.out.mono HB.out.size)).setCell hge _
        case measure => simp [intOf]; omega
      · go_wp2
        go_ret
        exact ⟨_, rfl, HN.out, HB.out⟩

/-- White: the kind alone tells it. -/
def whiN (x : S51) : Bool := x.f0.f0 == 13
def trimF (l : List S51) : List S51 := l.dropWhile whiN
def trimB : Nat → List S51 → List S51
  | 0, l => l
  | n + 1, l => if l.length = n + 1 ∧ whiN (l.getD n z51) = true then trimB n (l.take n) else l
def trimN (l : List S51) : List S51 := trimB (trimF l).length (trimF l)
theorem Ok51.sub {l m : List S51} (h : Ok51 l) (hs : ∀ x, x ∈ m → x ∈ l) (hl : m.length ≤ l.length) : Ok51 m := by
  cases h with
  | mk _ h1 h2 => exact .mk _ (by omega) (fun x hx => h2 x (hs x hx))
theorem wrapm51 {m : Nat} (h : m < 1000000000) : wrap64 (m : Int) = m := by unfold wrap64; omega
theorem Ok51.len {l : List S51} (h : Ok51 l) : l.length ≤ 1000000000 := by
  cases h with
  | mk _ h1 h2 => exact h1
set_option maxRecDepth 100000 in
set_option maxHeartbeats 4000000 in
theorem Trim_c (l0 : List S51) (h : Ok51 l0) (ok : Nat → Prop) (A : Option Addr) (c : Nat) (w : World) (hf : Kd.F k51 w ok A l0.length l0) (hc : l0.length ≤ c) :
    Calls Tryd.prog 20 #[.slice A l0.length c] w fun e w' => ∃ v, e = .returned v ∧ Kd.N k51 51 w' w.heap.size (fun k => ok k ∨ w.heap.size ≤ k) v (trimN l0) ∧ Below w.heap.size w w' := by
  have HF := Aside0.mk hf
  have HOK := Aside0.mk h
  have HB0 := Aside0.mk (Below.refl w.heap.size w)
  clear hf h
  go_enter Tryd.func20, Tryd.ntmps20
  go_upto_block 0 with (fail)
  go_cut [0] (fun v0 wc => ∃ (A : Option Addr) (c : Nat), v0 = .slice A (trimF l0).length c ∧ (trimF l0).length ≤ c ∧ Aside0 (Kd.F k51 wc ok A (trimF l0).length (trimF l0)) ∧ Aside0 (Below w.heap.size w wc))
  case first =>
    go_wp2
    go_loopg [0] l0.length (fun n v wr => ∃ (A : Option Addr) (c : Nat) (l : List S51), v = .slice A l.length c ∧ l.length ≤ c ∧ l.length ≤ n ∧ Aside0 (trimF l = trimF l0) ∧ Aside0 (Kd.F k51 wr ok A l.length l) ∧ Aside0 (Below w.heap.size w wr) ∧ Aside0 (l.length ≤ l0.length))
    case atStart => exact ⟨A, c, l0, rfl, hc, Nat.le_refl _, ⟨rfl⟩, HF, HB0, ⟨Nat.le_refl _⟩⟩
    case round =>
      obtain ⟨A1, c1, l, rfl, hc1, hn, HT, HR, HB, HL⟩ := hrel
      clear HF HB0
      cases hl : l with
      | nil =>
        subst hl
        go_wp2
        go_meet
        case rel => exact ⟨A1, c1, by rw [← HT.out]; rfl, by rw [← HT.out]; exact hc1, by rw [← HT.out]; exact HR, HB⟩
      | cons x t =>
        subst hl
        obtain ⟨ad, A6, c6, rfl, x0, x1, x2, x3, x4, x5, x6, hl6, hi6⟩ := at_T51 (Kd.F_now HR.out) 0 (by omega) (by simp)
        have e0 : rd_T51 (x :: t) 0 = x := rfl
        rw [e0] at x0 x1 x2 x3 x4 x5 x6 hl6 hi6
        rw [show (0 : Int).toNat * 7 = 0 from rfl, Addr.add_zero'] at x0 x1 x2 x3 x4 x5 x6
        have HI6 := Aside0.mk hi6
        obtain ⟨i0, hi0, _, hsz, _⟩ := info_parts info51
        have hcut := cut_from (P := Tryd.prog) 23 51 .i64 Tryd.underlying23 hi0 7 hsz (some ad) (x :: t).length c1 1 (by omega) (by simp only [List.length_cons]; omega)
        have HCUT := Aside0.mk (Kd.F_cut (m := 1) (c := c1) HR.out (by simp) hc1)
        have hpos : decide (0 < (x :: t).length) = true := by simp
        cases hw : whiN x with
        | true =>
          have HW := Aside0.mk hw
          go_wp2_with (go_at_call 32; refine (nest_White.calls _ _ _ _ _ _ A6 c6 x.f1 true wr HI6.out hl6 (congrArg some hw)).mono ?_; rintro e w2 ⟨rfl, hb2⟩; have HB2 := Aside0.mk hb2; clear hb2)
          all_goals
            go_roundg t.length
            case measure => simp at hn ⊢; omega
            case rel => exact ⟨if c1 = 1 then some ad else some ⟨ad.block, ad.off + 7, none⟩, c1 - 1, t, by simp [h], by simp at hc1; omega, Nat.le_refl _, ⟨by rw [← HT.out]; simp [trimF, HW.out]⟩, ⟨Kd.F_below (by have h8 := HCUT.out; first | (rw [if_pos h] at h8 ⊢; exact h8) | (rw [if_neg h] at h8 ⊢; exact h8)) HB2.out⟩, ⟨HB.out.trans (HB2.out.mono HB.out.size)⟩, ⟨by have := HL.out; simp at this; omega⟩⟩
        | false =>
          have HW := Aside0.mk hw
          have HTT := Aside0.mk (show x :: t = trimF l0 by rw [← HT.out]; simp [trimF, hw])
          go_wp2_with (go_at_call 32; refine (nest_White.calls _ _ _ _ _ _ A6 c6 x.f1 false wr HI6.out hl6 (congrArg some hw)).mono ?_; rintro e w2 ⟨rfl, hb2⟩; have HB2 := Aside0.mk hb2; clear hb2)
          go_meet
          case rel => exact ⟨some ad, c1, by rw [← HTT.out]; rfl, by rw [← HTT.out]; exact hc1, by rw [← HTT.out]; exact ⟨Kd.F_below HR.out HB2.out⟩, ⟨HB.out.trans (HB2.out.mono HB.out.size)⟩⟩
  case rest =>
    obtain ⟨A1, c1, rfl, hc1, HR1, HB1⟩ := hcut
    have HOK1 := Aside0.mk (HOK.out.sub (m := trimF l0) (fun x hx => (List.dropWhile_sublist whiN).subset hx) (List.dropWhile_sublist whiN).length_le)
    have HE := Aside0.mk (show trimB (trimF l0).length (trimF l0) = trimN l0 from rfl)
    clear HF HOK HB0
    generalize trimF l0 = l1 at hc1 HR1 HOK1 HE ⊢
    go_wp2
    go_loopg [0] l1.length (fun n v wr => ∃ (A : Option Addr) (c : Nat) (l : List S51), v = .slice A l.length c ∧ l.length ≤ c ∧ l.length ≤ n ∧ Aside0 (trimB l.length l = trimN l0) ∧ Aside0 (Kd.F k51 wr ok A l.length l) ∧ Aside0 (Below w.heap.size w wr) ∧ Aside0 (Ok51 l))
    case atStart => exact ⟨A1, c1, l1, rfl, hc1, Nat.le_refl _, HE, HR1, HB1, HOK1⟩
    case round =>
      obtain ⟨A2, c2, l, rfl, hc2, hn, HE2, HR, HB, HOK2⟩ := hrel
      clear HR1 HB1 HOK1 HE
      by_cases hl0 : l.length = 0
      · have hl : l = [] := List.eq_nil_of_length_eq_zero hl0
        subst hl
        go_wp2_with (go_at_call 33; refine (Copy_c [] HOK2.out ok A2 c2 wr HR.out hc2).mono ?_; rintro e w2 ⟨v2, rfl, hn2, hb2⟩; have HN2 := Aside0.mk hn2; have HB2 := Aside0.mk hb2; clear hn2 hb2)
        go_ret
        have hs := HB.out.size
        exact ⟨v2, rfl, by rw [← HE2.out]; exact Kd.N_lower (Kd.N_mono HN2.out (fun k hk => hk.imp id (fun h => by omega))) hs, HB.out.trans (HB2.out.mono hs)⟩
      · obtain ⟨m, hlm⟩ : ∃ m, l.length = m + 1 := ⟨l.length - 1, by omega⟩
        obtain ⟨ad, A6, c6, rfl, x0, x1, x2, x3, x4, x5, x6, hl6, hi6⟩ := at_T51 (Kd.F_now HR.out) m (by omega) (by omega)
        have e0 : rd_T51 l m = l.getD m z51 := rfl
        rw [e0] at x0 x1 x2 x3 x4 x5 x6 hl6 hi6
        obtain ⟨x, hx⟩ : ∃ x, l.getD m z51 = x := ⟨_, rfl⟩
        rw [hx] at x0 x1 x2 x3 x4 x5 x6 hl6 hi6
        rw [Int.toNat_natCast] at x0 x1 x2 x3 x4 x5 x6
        have HX := Aside0.mk hx
        clear hx e0
        have HI6 := Aside0.mk hi6
        have hmb : m < 1000000000 := by have h9 := HOK2.out.len; omega
        have hwm : wrap64 (m : Int) = m := wrapm51 hmb
        have HLM := Aside0.mk hlm
        have HR2 := Aside0.mk (Kd.F_take (m := m) HR.out (by omega))
        have hlt : (l.take m).length = m := by rw [List.length_take, hlm]; exact Nat.min_eq_left (Nat.le_succ m)
        have HLT := Aside0.mk hlt
        rw [hlt] at HR2
        rw [hlm] at HR HE2 hc2 hn ⊢
        clear hi6 hlt hl0 hlm
        cases hw : whiN x with
        | true =>
          have HW := Aside0.mk hw
          go_wp2_with (go_at_call 32; refine (nest_White.calls _ _ _ _ _ _ A6 c6 x.f1 true wr HI6.out hl6 (congrArg some hw)).mono ?_; rintro e w2 ⟨rfl, hb2⟩; have HB2 := Aside0.mk hb2; clear hb2)
          go_roundg m
          case measure => omega
          case rel => exact ⟨some ad, c2, l.take m, by rw [HLT.out], by rw [HLT.out]; omega, by rw [HLT.out]; exact Nat.le_refl _, ⟨by rw [HLT.out, ← HE2.out]; simp only [trimB]; rw [if_pos ⟨HLM.out, by rw [HX.out]; exact HW.out⟩]⟩, ⟨by rw [HLT.out]; exact Kd.F_below HR2.out HB2.out⟩, ⟨HB.out.trans (HB2.out.mono HB.out.size)⟩, ⟨HOK2.out.sub (fun y hy => List.mem_of_mem_take hy) (by rw [HLT.out, HLM.out]; omega)⟩⟩
        | false =>
          have HW := Aside0.mk hw
          go_wp2_with (first | (go_at_call 32; refine (nest_White.calls _ _ _ _ _ _ A6 c6 x.f1 false wr HI6.out hl6 (congrArg some hw)).mono ?_; rintro e w2 ⟨rfl, hb2⟩; have HB2 := Aside0.mk hb2; clear hb2) | (go_at_call 33; have hco := Copy_c l HOK2.out ok (some ad) c2 w2; rw [HLM.out] at hco; refine (hco (Kd.F_below HR.out HB2.out) hc2).mono ?_; clear hco; rintro e w3 ⟨v2, rfl, hn2, hb2⟩; have HN2 := Aside0.mk hn2; have HB3 := Aside0.mk hb2; clear hn2 hb2))
          go_ret
          have hs := HB.out.size
          have hs2 := HB2.out.size
          have hlr : trimN l0 = l := by rw [← HE2.out]; simp only [trimB]; rw [if_neg (fun h => by have h2 := h.2; rw [HX.out, HW.out] at h2; cases h2)]
          exact ⟨v2, rfl, by rw [hlr]; exact Kd.N_lower (Kd.N_mono HN2.out (fun k hk => hk.imp id (fun h => by omega))) (by omega), HB.out.trans ((HB2.out.trans (HB3.out.mono hs2)).mono hs)⟩

theorem sizeBld : (Tryd.prog.info? 80).map (·.size) = some 2 := by kernel_rfl
theorem liesBld : liesAt Tryd.prog Tryd.prog.depth 80 (2 / Tryd.prog.cellsOf 80) 0 80 1 = true := by kernel_rfl
set_option maxHeartbeats 1000000 in
set_option maxRecDepth 100000 in
theorem copyCheck_used (b : Nat) (w : World) (h0 : w.cell? ⟨b, 0, none⟩ = some (.pointer (some ⟨b, 0, none⟩))) :
    Calls Tryd.prog 74 #[.pointer (some ⟨b, 0, none⟩)] w fun e w' => e = .returned (.tuple #[]) ∧ w' = w := by
  obtain ⟨j, hj, _⟩ := Option.map_eq_some_iff.1 sizeBld
  have t70 := Tryd.underlying78
  go_enter Tryd.func74, Tryd.ntmps74
  go_wp2
  rw [Lib.run_neq_ptr_same w _ t70 hj]
  go_wp2
  go_end0
  exact ⟨rfl, rfl⟩
set_option maxHeartbeats 1000000 in
set_option maxRecDepth 100000 in
theorem copyCheck_fresh (b : Nat) (w : World) (h0 : w.cell? ⟨b, 0, none⟩ = some (.pointer none)) (hsh : w.shape? b = some (80, 2)) (hfz : w.frozen? ⟨b, 0, none⟩ = false) :
    Calls Tryd.prog 74 #[.pointer (some ⟨b, 0, none⟩)] w fun e w' => e = .returned (.tuple #[]) ∧ w' = w.setCell ⟨b, 0, none⟩ (.pointer (some ⟨b, 0, none⟩)) := by
  obtain ⟨j, hj, hjs⟩ := Option.map_eq_some_iff.1 sizeBld
  have t70 := Tryd.underlying78
  have t164 := Tryd.underlying104
  go_enter Tryd.func74, Tryd.ntmps74
  go_wp2
  rw [Lib.run_to_unsafe w ⟨b, 0, none⟩ t70 t164 hj (by rw [hjs]; decide) hsh (Nat.zero_lt_succ 1)]
  simp only [Result.andThen]
  rw [Oper.upon_value]
  go_wp2
  rw [run_callFunc_extern Tryd.func86 (by kernel_rfl) (by kernel_rfl) (by kernel_rfl) (e := Extern.AbiNoEscape.same) (by kernel_rfl)]
  rw [Lib.run_noEscape]
  simp only [Result.andThen]
  rw [Oper.upon_value]
  go_wp2
  rw [Lib.run_from_unsafe w ⟨b, 0, none⟩ t164 t70 hj hsh liesBld]
  simp only [Result.andThen]
  rw [Oper.upon_value]
  go_wp2
  go_end0
  exact ⟨rfl, rfl⟩
theorem copyCheck_c (B b : Nat) (bs : List Value) (w : World) (h : Lib.IsBuilder 80 5 B b bs w) :
    Calls Tryd.prog 74 #[.pointer (some ⟨b, 0, none⟩)] w fun e w' => e = .returned (.tuple #[]) ∧ (Lib.BuilderAt 80 5 B b (.pointer (some ⟨b, 0, none⟩)) bs w' ∧ Below B w w') := by
  rcases h with h | h
  · refine (copyCheck_fresh b w h.cell0 h.shape h.frozen0).mono ?_
    rintro e w' ⟨rfl, rfl⟩
    exact ⟨rfl, h.used _, (Below.refl B w).setCell (p := ⟨b, 0, none⟩) h.1 _⟩
  · refine (copyCheck_used b w h.cell0).mono ?_
    rintro e w' ⟨rfl, rfl⟩
    exact ⟨rfl, h, Below.refl B _⟩
theorem infoByte : (Tryd.prog.info? 5).map (fun i => (i.zero, i.size, i.bytes)) = some (some (.int .u8 0), 1, 1) := by kernel_rfl
set_option maxHeartbeats 2000000 in
set_option maxRecDepth 100000 in
theorem WriteByte_c (B b : Nat) (bs : List Value) (c : Int) (w : World) (h : Lib.IsBuilder 80 5 B b bs w) (hlen : bs.length + 1 ≤ 140737488355328) (hBw : B ≤ w.heap.size) :
    Calls Tryd.prog 57 #[.pointer (some ⟨b, 0, none⟩), .int .u8 c] w fun e w' => e = .returned .nilIface ∧ (Lib.BuilderAt 80 5 B b (.pointer (some ⟨b, 0, none⟩)) (bs ++ [.int .u8 c]) w' ∧ Below B w w') := by
  obtain ⟨i0, hi, hz0, hz1, hz2⟩ := info_parts infoByte
  go_enter Tryd.func57, Tryd.ntmps57
  go_wp2_with (go_at_call 74; refine (copyCheck_c B b bs _ h).mono ?_)
  rintro e w1 ⟨rfl, h1, hb1⟩
  obtain ⟨hB, v, hbk, hown, hne⟩ := h1
  have c0 : w1.cell? ⟨b, 0, none⟩ = some (.pointer (some ⟨b, 0, none⟩)) := by rw [Lib.cell_of_heap hbk]; rfl
  have c1 : w1.cell? ⟨b, 1, none⟩ = some v := by rw [Lib.cell_of_heap hbk]; rfl
  go_wp2_with (at_builtin; refine wpList_append_own _ rfl _ _ 43 rfl B 5 i0 (.int .u8 0) 1 1 Tryd.underlying43 hi hz0 hz1 hz2 rfl (by decide) _ _ _ rfl (hown.alloc _) ⟨w1.heap.size, 0, none⟩ 1 1 [.int .u8 c] rfl rfl ?c1 ?c2 ?c3 ?c4 ?c5 ?_)
  case c1 =>
    intro j u hj
    match j, hj with
    | 0, hj => simp at hj; subst hj; simp [Addr.add]
  case c2 => intro u hu; simp at hu; subst hu; rfl
  case c3 => unfold maxLen; omega
  case c4 => omega
  case c5 => have := hb1.size; simp; omega
  intro v' w2 hown' hgrow _
  have hlt : b < w1.heap.size := by
    rcases Nat.lt_or_ge b w1.heap.size with h' | h'
    · exact h'
    · simp [Array.getElem?_eq_none h'] at hbk
  have hb2 : w2.heap[b]? = some (.cells #[.pointer (some ⟨b, 0, none⟩), v] 80 (0, 0)) := by
    rw [hgrow.block b (by simp; omega) (fun e => hne e.symm), Below.heap_alloc w1 _ b hlt]
    exact hbk
  have d0 : w2.cell? ⟨b, 0, none⟩ = some (.pointer (some ⟨b, 0, none⟩)) := by rw [Lib.cell_of_heap hb2]; rfl
  have d1 : w2.cell? ⟨b, 1, none⟩ = some v := by rw [Lib.cell_of_heap hb2]; rfl
  have f1 : w2.frozen? ⟨b, 1, none⟩ = false := Lib.frozen_of_heap hb2 1
  obtain ⟨g, cap, rfl⟩ : ∃ g cap, v' = .slice (some ⟨g, 0, none⟩) (bs.length + 1) cap := by
    rcases hown'.2 with ⟨_, h0⟩ | ⟨g, cap, cur, hv, _⟩
    · omega
    · exact ⟨g, cap, hv⟩
  go_wp2
  go_ret
  refine ⟨rfl, ?_, ?_⟩
  · exact Lib.BuilderAt.put (T := 80) (e := 5) hB hb2 (bs' := bs ++ [.int .u8 c]) (by simpa using hown') (by decide)
  · exact ((hb1.alloc (by have := hb1.size; omega) _).grown hgrow (by have := hb1.size; simp; omega) (fun k hk => (hown.lt k hk).1)).setCell (p := ⟨b, 1, none⟩) hB _

def lowL (s : ByteArray) : List UInt8 := s.data.toList.map lowB
theorem lowL_len (s : ByteArray) : (lowL s).length = s.size := by
  unfold lowL
  rw [List.length_map, Array.length_toList]
  rfl
theorem byteCells_snoc (s : ByteArray) (k : Nat) (hk : k < s.size) : Lib.byteCells ((lowL s).take (k + 1)) = Lib.byteCells ((lowL s).take k) ++ [.int .u8 (lowAt s k)] := by
  have h : k < (lowL s).length := by rw [lowL_len]; exact hk
  rw [List.take_succ_eq_append_getElem h]
  have h' : k < s.data.toList.length := by rw [Array.length_toList]; exact hk
  simp [Lib.byteCells, lowL, lowAt, List.getD_eq_getElem?_getD, List.getElem?_eq_getElem h']
theorem at_byte (s : ByteArray) (k : Nat) (h : k < s.size) : ((s[k]'h).toNat : Int) = byteAt s k := by
  have h' : k < s.data.toList.length := by rw [Array.length_toList]; exact h
  unfold byteAt
  rw [List.getD_eq_getElem?_getD, List.getElem?_eq_getElem h']
  rfl
set_option maxHeartbeats 4000000 in
set_option maxRecDepth 100000 in
theorem pLower_c (s : ByteArray) (w : World) (hs : s.size ≤ 1000000000) :
    Calls Tryd.prog 34 #[.string s] w fun e w' => e = .returned (.string (lowerB s)) ∧ Below w.heap.size w w' := by
  have HB0 := Aside0.mk (below_alloc (Below.refl w.heap.size w) (.cells #[.pointer none, .slice none 0 0] 80))
  have HI0 : Aside0 (Lib.IsBuilder 80 5 w.heap.size w.heap.size (Lib.byteCells ((lowL s).take 0)) (w.alloc (.cells #[.pointer none, .slice none 0 0] 80))) :=
    ⟨.inl ⟨Nat.le_refl _, .slice none 0 0, heap_alloc_new w _, own_nil _ _ _ _, by simp [Value.ownBlock]⟩⟩
  go_enter Tryd.func34, Tryd.ntmps34
  go_wp2
  obtain ⟨b, hb⟩ : ∃ n, w.heap.size = n := ⟨_, rfl⟩
  generalize w.alloc (.cells #[.pointer none, .slice none 0 0] 80) = w0 at HB0 HI0 ⊢
  rw [hb] at HB0 HI0 ⊢
  have HBB := Aside0.mk hb
  clear hb
  go_loopw [8] (fun v wr => ∃ k : Nat, k ≤ s.size ∧ v = .int .i64 k ∧ Aside0 (Lib.IsBuilder 80 5 b b (Lib.byteCells ((lowL s).take k)) wr) ∧ Aside0 (Below b w wr)) (fun v _ => s.size - (intOf v).toNat)
  case atStart => exact ⟨0, Nat.zero_le _, rfl, HI0, HB0⟩
  case round =>
    obtain ⟨k, hk, rfl, HI, HW⟩ := hrel
    clear HI0 HB0
    have hlen : (Lib.byteCells ((lowL s).take k)).length ≤ s.size := by unfold Lib.byteCells; rw [List.length_map, List.length_take, lowL_len]; omega
    by_cases hlt : k < s.size
    · have hat := at_byte s k hlt
      have hr := byteAt_range s k
      have HSN := Aside0.mk (byteCells_snoc s k hlt)
      have hlo := lowAt_hi s k
      have hls := lowAt_same s k
      obtain ⟨c, hc⟩ : ∃ c, byteAt s k = c := ⟨_, rfl⟩
      rw [hc] at hat hr hlo hls
      clear hc
      obtain ⟨d, hd⟩ : ∃ d, lowAt s k = d := ⟨_, rfl⟩
      rw [hd] at HSN hlo hls
      clear hd
      have hbs : b ≤ wr.heap.size := by have := HW.out.size; have := HBB.out; omega
      obtain ⟨h0, h255⟩ := hr
      by_cases h1 : 65 ≤ c
      · by_cases h2 : c ≤ 90
        · obtain rfl := hlo h1 h2
          clear hls
          go_wp2_with (go_at_call 57; refine (WriteByte_c b b _ (c + 32) wr HI.out (by omega) hbs).mono ?_; rintro e w1 ⟨rfl, hI, hW⟩; have HI1 := Aside0.mk hI; have HW1 := Aside0.mk (HW.out.trans hW); clear hI hW)
          go_roundw
          case rel => exact ⟨k + 1, by omega, by go_num, ⟨by rw [HSN.out]; exact .inr HI1.out⟩, HW1⟩
          case measure => simp [intOf]; omega
        · obtain rfl := hls (.inr (by omega))
          clear hlo
          go_wp2_with (go_at_call 57; refine (WriteByte_c b b _ d wr HI.out (by omega) hbs).mono ?_; rintro e w1 ⟨rfl, hI, hW⟩; have HI1 := Aside0.mk hI; have HW1 := Aside0.mk (HW.out.trans hW); clear hI hW)
          go_roundw
          case rel => exact ⟨k + 1, by omega, by go_num, ⟨by rw [HSN.out]; exact .inr HI1.out⟩, HW1⟩
          case measure => simp [intOf]; omega
      · obtain rfl := hls (.inl (by omega))
        clear hlo
        go_wp2_with (go_at_call 57; refine (WriteByte_c b b _ d wr HI.out (by omega) hbs).mono ?_; rintro e w1 ⟨rfl, hI, hW⟩; have HI1 := Aside0.mk hI; have HW1 := Aside0.mk (HW.out.trans hW); clear hI hW)
        go_roundw
        case rel => exact ⟨k + 1, by omega, by go_num, ⟨by rw [HSN.out]; exact .inr HI1.out⟩, HW1⟩
        case measure => simp [intOf]; omega
    · have hke : k = s.size := by omega
      have HIE : Aside0 (Lib.IsBuilder 80 5 b b (Lib.byteCells (lowL s)) wr) := ⟨by have := HI.out; rwa [hke, ← lowL_len s, List.take_length] at this⟩
      have hbs : b ≤ wr.heap.size := by have := HW.out.size; have := HBB.out; omega
      clear HI hke
      go_wp2_with (go_at_call 58; refine (Tryd.Builder_String_any b b (lowL s) wr HIE.out hbs).mono ?_; rintro e w1 ⟨rfl, hW⟩; have HW1 := Aside0.mk (HW.out.trans hW); clear hW)
      go_ret
      exact ⟨rfl, by rw [HBB.out]; exact HW1.out⟩

/-! The reader of signs of fleuronref1: what its block says, and the functions that only look. -/
def sg (l : List Int) (k : Int) : Int := l.getD k.toNat (-1)
structure Rw (ws w : World) (g : Nat) (r l : List Int) : Prop where
  keep : KeepBut ws w g none
  low : Below 0 ws w
  blk : ∃ A c, w.heap[g]? = some (.cells #[.slice A r.length c, .int .i64 ((r.length : Int) - l.length)] 63 (0, 0)) ∧ (∀ j, j < r.length → ∃ ad, A = some ad ∧ ad.block < g ∧ w.cell? (ad.add j) = some (.int .i32 (r.getD j 0)))
  suf : l <:+ r
  size : r.length ≤ 140737488355328
theorem Rw.move {ws w w' : World} {g : Nat} {r l : List Int} (h : Rw ws w g r l) (hk : KeepBut w w' g none) (hl : Below 0 w w') (hg : w'.heap[g]? = w.heap[g]?) : Rw ws w' g r l := by
  obtain ⟨A, c, hb, hr⟩ := h.blk
  refine ⟨h.keep.trans hk (.inl rfl), h.low.trans hl, ⟨A, c, hg.trans hb, fun j hj => ?_⟩, h.suf, h.size⟩
  obtain ⟨ad, e, hne, hc⟩ := hr j hj
  exact ⟨ad, e, hne, keep_cell hk hc (by rw [add_block]; exact Nat.ne_of_lt hne)⟩
theorem Rw.drewN {ws w : World} {g : Nat} {r l : List Int} (h : Rw ws w g r l) (n : Nat) : Rw ws (w.drewN n) g r l := h.move (KeepBut.refl w g none) (pw_below_drewN (Below.refl 0 w) n) rfl
theorem Rw.drawn {ws w w' : World} {g : Nat} {r l : List Int} (h : Rw ws w g r l) (hd : Drawn0 w w') : Rw ws w' g r l := by
  obtain ⟨n, rfl⟩ := hd
  exact h.drewN n
theorem Rw.lt {ws w : World} {g : Nat} {r l : List Int} (h : Rw ws w g r l) : g < w.heap.size := by
  obtain ⟨A, c, hb, hr⟩ := h.blk
  exact blk_lt hb
theorem Rw.below {ws w w' : World} {g : Nat} {r l : List Int} (h : Rw ws w g r l) (hb : Below w.heap.size w w') : Rw ws w' g r l :=
  h.move (KeepBut.of_below hb g none) (hb.mono (Nat.zero_le _)) (hb.block g h.lt)
theorem Rw.alloc {ws w : World} {g : Nat} {r l : List Int} (h : Rw ws w g r l) (o : Obj) : Rw ws (w.alloc o) g r l := h.below (below_alloc (Below.refl _ _) o)
theorem Rw.len {ws w : World} {g : Nat} {r l : List Int} (h : Rw ws w g r l) : l.length ≤ r.length := h.suf.length_le
/-- The place moves on. -/
theorem Rw.adv {ws w : World} {g : Nat} {r l l' : List Int} (h : Rw ws w g r l) (hs : l' <:+ l) {x : Int} (hx : x = (r.length : Int) - l'.length) : Rw ws (w.setCell ⟨g, 1, none⟩ (.int .i64 x)) g r l' := by
  obtain ⟨A, c, hb, hr⟩ := h.blk
  subst hx
  refine ⟨h.keep.set_ 1 _, h.low.setCell (Nat.zero_le _) _, ⟨A, c, by simpa using blk_set hb 1 (.int .i64 ((r.length : Int) - l'.length)), fun j hj => ?_⟩, hs.trans h.suf, h.size⟩
  obtain ⟨ad, e, hne, hc⟩ := hr j hj
  exact ⟨ad, e, hne, (cell_far (p := ⟨g, 1, none⟩) (by rw [add_block]; exact Nat.ne_of_lt hne) _).trans hc⟩
theorem Rw.c0 {ws w : World} {g : Nat} {r l : List Int} (h : Rw ws w g r l) : ∃ A c, w.cell? ⟨g, 0, none⟩ = some (.slice A r.length c) ∧ w.cell? ⟨g, 1, none⟩ = some (.int .i64 ((r.length : Int) - l.length)) ∧ w.frozen? ⟨g, 1, none⟩ = false ∧ (∀ j, j < r.length → ∃ ad, A = some ad ∧ ad.block < g ∧ w.cell? (ad.add j) = some (.int .i32 (r.getD j 0))) := by
  obtain ⟨A, c, hb, hr⟩ := h.blk
  exact ⟨A, c, (blk_cell hb 0).trans rfl, (blk_cell hb 1).trans rfl, blk_frozen hb 1, hr⟩
/-- The same, told from here on. -/
theorem Rw.self {ws w : World} {g : Nat} {r l : List Int} (h : Rw ws w g r l) : Rw w w g r l := ⟨KeepBut.refl w g none, Below.refl 0 w, h.blk, h.suf, h.size⟩
theorem Rw.trans {ws w w1 : World} {g : Nat} {r l l1 : List Int} (h : Rw ws w g r l) (k : Rw w w1 g r l1) : Rw ws w1 g r l1 := ⟨h.keep.trans k.keep (.inl rfl), h.low.trans k.low, k.blk, k.suf, k.size⟩
/-- A block that was made after g stays as it was made. -/
theorem Rw.made {w w1 : World} {g : Nat} {r l : List Int} {O : Obj} (h : Rw (w.alloc O) w1 g r l) (hg : g < w.heap.size) : w1.heap[w.heap.size]? = some O :=
  (h.keep.2 w.heap.size (by simp) (by omega) (by simp)).trans (heap_alloc_new w O)
/-- A block that was made after g is written. -/
theorem Rw.far {ws w : World} {g : Nat} {r l : List Int} (h : Rw ws w g r l) {p : Addr} (hg : g < p.block) (hs : ws.heap.size ≤ p.block) (u : Value) : Rw ws (w.setCell p u) g r l := by
  obtain ⟨A, c, hb, hr⟩ := h.blk
  refine ⟨keep_far h.keep hs u, h.low.setCell (Nat.zero_le _) u, ⟨A, c, ?_, fun j hj => ?_⟩, h.suf, h.size⟩
  · rw [Below.heap_setCell w p u g (by omega)]
    exact hb
  · obtain ⟨ad, e, hne, hc⟩ := hr j hj
    exact ⟨ad, e, hne, (cell_far (by rw [add_block]; omega) u).trans hc⟩
theorem suf_getD {l r : List Int} (h : l <:+ r) (k : Nat) (hk : k < l.length) : r.getD (r.length - l.length + k) 0 = l.getD k (-1) := by
  obtain ⟨t, rfl⟩ := h
  have e : (t ++ l).length - l.length = t.length := by simp
  rw [e, List.getD_eq_getElem?_getD, List.getD_eq_getElem?_getD, List.getElem?_append_right (by omega)]
  rw [show t.length + k - t.length = k by omega, List.getElem?_eq_getElem hk]
  rfl
set_option maxHeartbeats 1000000 in
set_option maxRecDepth 100000 in
theorem sign_q {ws w : World} {g : Nat} {r l : List Int} (H : Rw ws w g r l) (k : Int) (h0 : 0 ≤ k) (h8 : k ≤ 1000000000000000) :
    Calls Tryd.prog 30 #[.pointer (some ⟨g, 0, none⟩), .int .i64 k] w fun e w' => e = .returned (.int .i32 (sg l k)) ∧ Drawn0 w w' := by
  obtain ⟨A, c, hc0, hc1, hfz, hr⟩ := H.c0
  have hsz := H.size
  have hl := H.len
  by_cases hk : k < l.length
  · obtain ⟨ad, rfl, hne, hc⟩ := hr (r.length - l.length + k.toNat) (by omega)
    have e : sg l k = r.getD (r.length - l.length + k.toNat) 0 := (suf_getD H.suf k.toNat (by omega)).symm
    rw [← e] at hc
    have ei : ((r.length : Int) - l.length + k).toNat = r.length - l.length + k.toNat := by omega
    have hc' : w.cell? (ad.add ((r.length : Int) - l.length + k).toNat) = some (.int .i32 (sg l k)) := by rw [ei]; exact hc
    clear hc ei e hr hne
    have hlo : 0 ≤ (r.length : Int) - l.length + k := by omega
    have hhi : (r.length : Int) - l.length + k < r.length := by omega
    have hd : decide ((r.length : Int) ≤ (r.length : Int) - l.length + k) = false := decide_eq_false (by omega)
    go_enter Tryd.func30, Tryd.ntmps30
    go_wp2
    repeat (go_quiet (fail); try go_wp2)
    go_ret
    exact ⟨rfl, by repeat (first | exact Drawn0.refl _ | apply Drawn0.step)⟩
  · have e : sg l k = -1 := by unfold sg; rw [List.getD_eq_getElem?_getD, List.getElem?_eq_none (by omega)]; rfl
    rw [e]
    clear e hr
    have hd : decide ((r.length : Int) ≤ (r.length : Int) - l.length + k) = true := decide_eq_true (by omega)
    go_enter Tryd.func30, Tryd.ntmps30
    go_wp2
    repeat (go_quiet (fail); try go_wp2)
    go_ret
    exact ⟨rfl, by repeat (first | exact Drawn0.refl _ | apply Drawn0.step)⟩
theorem sgn_r {ws w : World} {g : Nat} {r l : List Int} (H : Rw ws w g r l) (k : Int) (h0 : 0 ≤ k) (h8 : k ≤ 1000000000000000) :
    Calls Tryd.prog 30 #[.pointer (some ⟨g, 0, none⟩), .int .i64 k] w fun e w' => e = .returned (.int .i32 (sg l k)) ∧ Rw ws w' g r l :=
  (sign_q H k h0 h8).mono fun _ _ ⟨e, hd⟩ => ⟨e, H.drawn hd⟩
def digB (c : Int) : Bool := decide (48 ≤ c ∧ c ≤ 57)
def letB (c : Int) : Bool := decide (97 ≤ c ∧ c ≤ 122) || decide (65 ≤ c ∧ c ≤ 90) || decide (c = 95) || decide (128 ≤ c)
def namB (c : Int) : Bool := letB c || digB c || decide (c = 45)
def whiB (c : Int) : Bool := decide (c = 10) || decide (c = 9) || decide (c = 32)
def hexV (c : Int) : Int := if digB c then c - 48 else if decide (97 ≤ c ∧ c ≤ 102) then c - 87 else if decide (65 ≤ c ∧ c ≤ 70) then c - 55 else 0
def hexB (c : Int) : Bool := digB c || decide (97 ≤ c ∧ c ≤ 102) || decide (65 ≤ c ∧ c ≤ 70)
theorem digit_f (c : Int) : fleuronref1_Digit.f c = some (digB c) := by
  unfold fleuronref1_Digit.f digB
  split <;> congr 1 <;> simp <;> omega
theorem letter_f (c : Int) : fleuronref1_Letter.f c = some (letB c) := by
  unfold fleuronref1_Letter.f letB
  repeat' split
  all_goals (congr 1; simp; omega)
theorem name_f (c : Int) : fleuronref1_Name.f c = some (namB c) := by
  unfold fleuronref1_Name.f namB
  rw [letter_f, digit_f]
  cases letB c <;> cases digB c <;> simp
  by_cases h : c = 45 <;> simp [h]
theorem white_f (c : Int) : fleuronref1_White.f c = some (whiB c) := by
  unfold fleuronref1_White.f whiB
  by_cases h : c = 10
  · simp [h]
  · by_cases h2 : c = 9
    · simp [h2]
    · rw [if_neg h, if_neg h2, decide_eq_false h, decide_eq_false h2]
      rfl
theorem digit_r {ws w : World} {g : Nat} {r l : List Int} (H : Rw ws w g r l) (c : Int) : Calls Tryd.prog 51 #[.int .i32 c] w fun e w' => e = .returned (.bool (digB c)) ∧ Rw ws w' g r l :=
  (fleuronref1_Digit.calls c _ w (digit_f c)).mono fun _ _ ⟨e, hd⟩ => ⟨e, H.drawn hd⟩
theorem letter_r {ws w : World} {g : Nat} {r l : List Int} (H : Rw ws w g r l) (c : Int) : Calls Tryd.prog 71 #[.int .i32 c] w fun e w' => e = .returned (.bool (letB c)) ∧ Rw ws w' g r l :=
  (fleuronref1_Letter.calls c _ w (letter_f c)).mono fun _ _ ⟨e, hd⟩ => ⟨e, H.drawn hd⟩
theorem named_r {ws w : World} {g : Nat} {r l : List Int} (H : Rw ws w g r l) (c : Int) : Calls Tryd.prog 47 #[.int .i32 c] w fun e w' => e = .returned (.bool (namB c)) ∧ Rw ws w' g r l :=
  (fleuronref1_Name.calls c _ w (name_f c)).mono fun _ _ ⟨e, hd⟩ => ⟨e, H.drawn hd⟩
theorem white_r {ws w : World} {g : Nat} {r l : List Int} (H : Rw ws w g r l) (c : Int) : Calls Tryd.prog 45 #[.int .i32 c] w fun e w' => e = .returned (.bool (whiB c)) ∧ Rw ws w' g r l :=
  (fleuronref1_White.calls c _ w (white_f c)).mono fun _ _ ⟨e, hd⟩ => ⟨e, H.drawn hd⟩
theorem put_r {ws w : World} {g : Nat} {r l : List Int} (H : Rw ws w g r l) (c : Int) : Calls Tryd.prog 44 #[.int .i32 c] w fun e w' => e = .returned (.string (Utf8.encode c)) ∧ Rw ws w' g r l :=
  (fleuronref1_Put.calls c _ w rfl).mono fun _ _ ⟨e, hd⟩ => ⟨e, H.below hd⟩

theorem hex_f (c : Int) : ∃ k, fleuronref1_Hex.f k c = some (hexV c, hexB c) := by
  refine ⟨5, ?_⟩
  unfold fleuronref1_Hex.f hexV hexB digB
  by_cases h1 : 48 ≤ c
  · by_cases h2 : c ≤ 57
    · have e : wrap64 (wrap32 (c - 48)) = c - 48 := by unfold wrap64 wrap32; omega
      simp [fleuronref1_Hex.j0, h1, h2, e]
    · by_cases h3 : 97 ≤ c
      · by_cases h4 : c ≤ 102
        · have e : wrap64 (wrap64 (wrap32 (c - 97)) + 10) = c - 87 := by unfold wrap64 wrap32; omega
          simp [fleuronref1_Hex.j0, fleuronref1_Hex.j1, h1, h2, h3, h4, e]
        · have h5 : ¬ c ≤ 70 := by omega
          simp [fleuronref1_Hex.j0, fleuronref1_Hex.j1, h1, h2, h3, h4, h5]
      · by_cases h4 : 65 ≤ c ∧ c ≤ 70
        · have e : wrap64 (wrap64 (wrap32 (c - 65)) + 10) = c - 55 := by unfold wrap64 wrap32; omega
          simp [fleuronref1_Hex.j0, fleuronref1_Hex.j1, h1, h2, h3, h4, e]
        · by_cases h5 : 65 ≤ c
          · have h6 : ¬ c ≤ 70 := by omega
            simp [fleuronref1_Hex.j0, fleuronref1_Hex.j1, h1, h2, h3, h5, h6]
          · simp [fleuronref1_Hex.j0, fleuronref1_Hex.j1, h1, h2, h3, h5]
  · have h3 : ¬ 97 ≤ c := by omega
    have h5 : ¬ 65 ≤ c := by omega
    simp [fleuronref1_Hex.j0, fleuronref1_Hex.j1, h1, h3, h5]
theorem hex_r {ws w : World} {g : Nat} {r l : List Int} (H : Rw ws w g r l) (c : Int) : Calls Tryd.prog 83 #[.int .i32 c] w fun e w' => e = .returned (.tuple #[.int .i64 (hexV c), .bool (hexB c)]) ∧ Rw ws w' g r l := by
  obtain ⟨k, hk⟩ := hex_f c
  exact (fleuronref1_Hex.calls k c _ _ w hk).mono fun _ _ ⟨e, hd⟩ => ⟨e, H.drawn hd⟩
def escB (l : List Int) (k : Int) : Bool := decide (sg l k = 92) && !decide (sg l (k + 1) = 10)
def nmsB (l : List Int) (k : Int) : Bool := if sg l k = 45 then letB (sg l (k + 1)) || decide (sg l (k + 1) = 45) || escB l (k + 1) else letB (sg l k) || escB l k
set_option maxHeartbeats 1000000 in
set_option maxRecDepth 100000 in
theorem escape_r {ws w : World} {g : Nat} {r l : List Int} (H : Rw ws w g r l) (k : Int) (h0 : 0 ≤ k) (h8 : k ≤ 1000) :
    Calls Tryd.prog 48 #[.pointer (some ⟨g, 0, none⟩), .int .i64 k] w fun e w' => e = .returned (.bool (escB l k)) ∧ Rw ws w' g r l := by
  have HS := Aside0.mk H
  clear H
  go_enter Tryd.func48, Tryd.ntmps48
  go_wp2_with (go_at_call 30; refine (sgn_r HS.out _ (by omega) (by omega)).mono ?_; rintro e w1 ⟨rfl, hS⟩; clear HS; have HS := Aside0.mk hS; clear hS)
  all_goals (go_ret; exact ⟨by clear HS; simp_all [escB]; try rfl, HS.out⟩)
set_option maxHeartbeats 1000000 in
set_option maxRecDepth 100000 in
theorem names_r {ws w : World} {g : Nat} {r l : List Int} (H : Rw ws w g r l) (k : Int) (h0 : 0 ≤ k) (h8 : k ≤ 999) :
    Calls Tryd.prog 49 #[.pointer (some ⟨g, 0, none⟩), .int .i64 k] w fun e w' => e = .returned (.bool (nmsB l k)) ∧ Rw ws w' g r l := by
  have HS := Aside0.mk H
  clear H
  go_enter Tryd.func49, Tryd.ntmps49
  go_wp2_with (first
    | (go_at_call 30; refine (sgn_r HS.out _ (by omega) (by omega)).mono ?_; rintro e w1 ⟨rfl, hS⟩; clear HS; have HS := Aside0.mk hS; clear hS)
    | (go_at_call 48; refine (escape_r HS.out _ (by omega) (by omega)).mono ?_; rintro e w1 ⟨rfl, hS⟩; clear HS; have HS := Aside0.mk hS; clear hS)
    | (go_at_call 71; refine (letter_r HS.out _).mono ?_; rintro e w1 ⟨rfl, hS⟩; clear HS; have HS := Aside0.mk hS; clear hS))
  all_goals (go_ret; exact ⟨by clear HS; simp_all [nmsB], HS.out⟩)
def numB (l : List Int) : Bool := if sg l 0 = 43 ∨ sg l 0 = 45 then digB (sg l 1) || (decide (sg l 1 = 46) && digB (sg l 2)) else digB (sg l 0) || (decide (sg l 0 = 46) && digB (sg l 1))
set_option maxHeartbeats 1000000 in
set_option maxRecDepth 100000 in
theorem numbers_r {ws w : World} {g : Nat} {r l : List Int} (H : Rw ws w g r l) :
    Calls Tryd.prog 52 #[.pointer (some ⟨g, 0, none⟩)] w fun e w' => e = .returned (.bool (numB l)) ∧ Rw ws w' g r l := by
  have HS := Aside0.mk H
  clear H
  go_enter Tryd.func52, Tryd.ntmps52
  go_wp2_with (first
    | (go_at_call 30; refine (sgn_r HS.out _ (by omega) (by omega)).mono ?_; rintro e w1 ⟨rfl, hS⟩; clear HS; have HS := Aside0.mk hS; clear hS)
    | (go_at_call 51; refine (digit_r HS.out _).mono ?_; rintro e w1 ⟨rfl, hS⟩; clear HS; have HS := Aside0.mk hS; clear hS))
  all_goals (go_ret; exact ⟨by clear HS; simp_all [numB, digB], HS.out⟩)

def hexRun : Nat → Int → List Int → Int × List Int
  | 0, v, l => (v, l)
  | n + 1, v, l => if hexB (sg l 0) then hexRun n (v * 16 + hexV (sg l 0)) l.tail else (v, l)
def unw (l : List Int) : List Int := if whiB (sg l 0) then l.tail else l
def escV (v : Int) : Int := if v = 0 ∨ 55296 ≤ v ∧ v ≤ 57343 ∨ 1114111 < v then 65533 else v
def escP (l : List Int) : Int × List Int :=
  if sg l 0 < 0 then (65533, l) else if hexB (sg l 0) then (escV (hexRun 6 0 l).1, unw (hexRun 6 0 l).2) else (sg l 0, l.tail)
def bd16 : Nat → Int
  | 0 => 1
  | k + 1 => 16 * bd16 k
theorem bd16_le : ∀ k, k ≤ 6 → bd16 k ≤ 16777216
  | 0, _ => by simp [bd16]
  | 1, _ => by simp [bd16]
  | 2, _ => by simp [bd16]
  | 3, _ => by simp [bd16]
  | 4, _ => by simp [bd16]
  | 5, _ => by simp [bd16]
  | 6, _ => by simp [bd16]
  | n + 7, h => by omega
theorem hexV_range (c : Int) : 0 ≤ hexV c ∧ hexV c ≤ 15 := by
  unfold hexV digB
  split
  · rename_i h
    have := of_decide_eq_true h
    omega
  · split
    · rename_i h
      have := of_decide_eq_true h
      omega
    · split
      · rename_i h
        have := of_decide_eq_true h
        omega
      · omega
theorem sg_tail_suf (l : List Int) : l.tail <:+ l := List.tail_suffix l
theorem sg_len {l : List Int} (h : sg l 0 ≠ -1) : (l.tail.length : Int) = l.length - 1 := by
  cases l with
  | nil => exact absurd rfl h
  | cons a t => simp
theorem hexB_ne {c : Int} (h : hexB c = true) : c ≠ -1 := by rintro rfl; simp [hexB, digB] at h
theorem whiB_ne {c : Int} (h : whiB c = true) : c ≠ -1 := by rintro rfl; simp [whiB] at h
theorem namB_ne {c : Int} (h : namB c = true) : c ≠ -1 := by rintro rfl; simp [namB, letB, digB] at h
theorem Rw.tail {ws w : World} {g : Nat} {r l : List Int} (h : Rw ws w g r l) (hne : sg l 0 ≠ -1) {x : Int} (hx : x = (r.length : Int) - l.length + 1) : Rw ws (w.setCell ⟨g, 1, none⟩ (.int .i64 x)) g r l.tail :=
  h.adv (sg_tail_suf l) (by have := sg_len hne; omega)
set_option maxHeartbeats 2000000 in
set_option maxRecDepth 100000 in
theorem escaped_r {ws w : World} {g : Nat} {r l : List Int} (H : Rw ws w g r l) :
    Calls Tryd.prog 70 #[.pointer (some ⟨g, 0, none⟩)] w fun e w' => e = .returned (.int .i32 (escP l).1) ∧ Rw ws w' g r (escP l).2 := by
  have HS := Aside0.mk H
  have hsz := H.size
  have hln := H.len
  clear H
  by_cases h1 : sg l 0 < 0
  · have HP := Aside0.mk (show escP l = (65533, l) by unfold escP; rw [if_pos h1])
    rw [HP.out]
    clear HP
    go_enter Tryd.func70, Tryd.ntmps70
    go_wp2_with (go_at_call 30; refine (sgn_r HS.out _ (by omega) (by omega)).mono ?_; rintro e w1 ⟨rfl, hS⟩; clear HS; have HS := Aside0.mk hS; clear hS)
    go_ret
    exact ⟨rfl, HS.out⟩
  · have hne : sg l 0 ≠ -1 := by omega
    have HN := Aside0.mk hne
    clear hne
    cases hx : hexB (sg l 0) with
    | false =>
      have HP := Aside0.mk (show escP l = (sg l 0, l.tail) by unfold escP; rw [if_neg h1, hx]; rfl)
      rw [HP.out]
      clear HP
      go_enter Tryd.func70, Tryd.ntmps70
      go_wp2_with (first
        | (go_at_call 30; refine (sgn_r HS.out _ (by omega) (by omega)).mono ?_; rintro e w1 ⟨rfl, hS⟩; clear HS; have HS := Aside0.mk hS; clear hS)
        | (go_at_call 83; refine (hex_r HS.out _).mono ?_; rintro e w1 ⟨rfl, hS⟩; clear HS; have HS := Aside0.mk hS; obtain ⟨A, c, hc0, hc1, hfz, hr⟩ := hS.c0; clear hS hr))
      go_ret
      exact ⟨rfl, HS.out.tail HN.out (by omega)⟩
    | true =>
      have HP := Aside0.mk (show escP l = (escV (hexRun 6 0 l).1, unw (hexRun 6 0 l).2) by unfold escP; rw [if_neg h1, hx]; rfl)
      rw [HP.out]
      clear HP
      have HX := Aside0.mk hx
      go_enter Tryd.func70, Tryd.ntmps70
      go_wp2_with (first
        | (go_at_call 30; refine (sgn_r HS.out _ (by omega) (by omega)).mono ?_; rintro e w1 ⟨rfl, hS⟩; clear HS; have HS := Aside0.mk hS; clear hS)
        | (go_at_call 83; refine (hex_r HS.out _).mono ?_; rintro e w1 ⟨rfl, hS⟩; clear HS; have HS := Aside0.mk hS; clear hS))
      clear hx h1 HN HX
      go_loopw [6, 7] (fun n i wr => ∃ (k : Nat) (v : Int) (t : List Int), k ≤ 6 ∧ n = .int .i64 v ∧ i = .int .i64 k ∧ Aside0 (Rw ws wr g r t) ∧ Aside0 (hexRun (6 - k) v t = hexRun 6 0 l) ∧ 0 ≤ v ∧ Aside0 (v < bd16 k)) (fun _ i _ => 6 - (intOf i).toNat)
      case atStart => exact ⟨0, 0, l, by omega, rfl, rfl, HS, ⟨rfl⟩, by omega, ⟨by simp [bd16]⟩⟩
      case round =>
        obtain ⟨k, v, t, hk, rfl, rfl, HR, HE, hv, HV⟩ := hrel
        clear HS
        have HS := HR
        clear HR
        have hv2 : v < 16777216 := Int.lt_of_lt_of_le HV.out (bd16_le k hk)
        have htl := HS.out.len
        have hEnd : k = 6 ∨ hexB (sg t 0) = false → hexRun 6 0 l = (v, t) := by
          intro h
          rw [← HE.out]
          rcases h with rfl | h
          · rfl
          · cases hk6 : 6 - k with
            | zero => rfl
            | succ m => unfold hexRun; rw [h]; rfl
        have HEnd := Aside0.mk hEnd
        clear hEnd
        by_cases h6 : k < 6
        · cases hx : hexB (sg t 0) with
          | true =>
            clear HEnd
            have hhr := hexV_range (sg t 0)
            go_wp2_with (first
              | (go_at_call 30; refine (sgn_r HS.out _ (by omega) (by omega)).mono ?_; rintro e w1 ⟨rfl, hS⟩; clear HS; have HS := Aside0.mk hS; clear hS)
              | (go_at_call 83; refine (hex_r HS.out _).mono ?_; rintro e w1 ⟨rfl, hS⟩; clear HS; have HS := Aside0.mk hS; obtain ⟨A, c, hc0, hc1, hfz, hr⟩ := hS.c0; clear hS hr))
            have HT := Aside0.mk (HS.out.tail (hexB_ne hx) (x := (r.length : Int) - t.length + 1) rfl)
            have HE2 := Aside0.mk (show hexRun (6 - (k + 1)) (v * 16 + hexV (sg t 0)) t.tail = hexRun 6 0 l by
              rw [← HE.out, show 6 - k = 6 - (k + 1) + 1 by omega]
              conv => rhs; unfold hexRun
              rw [hx]; rfl)
            have HV2 := Aside0.mk (show v * 16 + hexV (sg t 0) < bd16 (k + 1) by
              have := HV.out
              simp only [bd16]; omega)
            go_roundw
            case rel => exact ⟨k + 1, _, t.tail, by omega, rfl, by go_num, HT, HE2, by omega, HV2⟩
            case measure => simp [intOf]; omega
          | false =>
            have HQ := Aside0.mk (HEnd.out (.inr hx))
            clear HEnd
            cases hw : whiB (sg t 0)
            all_goals
              have HW := Aside0.mk hw
              go_wp2_with (first
                | (go_at_call 30; refine (sgn_r HS.out _ (by omega) (by omega)).mono ?_; rintro e w1 ⟨rfl, hS⟩; clear HS; have HS := Aside0.mk hS; obtain ⟨A, c, hc0, hc1, hfz, hr⟩ := hS.c0; clear hS hr)
                | (go_at_call 83; refine (hex_r HS.out _).mono ?_; rintro e w1 ⟨rfl, hS⟩; clear HS; have HS := Aside0.mk hS; clear hS)
                | (go_at_call 45; refine (white_r HS.out _).mono ?_; rintro e w1 ⟨rfl, hS⟩; clear HS; have HS := Aside0.mk hS; obtain ⟨A, c, hc0, hc1, hfz, hr⟩ := hS.c0; clear hS hr))
              all_goals
                go_ret
                rw [HQ.out]
                exact ⟨congrArg (fun x => Ending.returned (.int .i32 x)) (by show _ = escV v; (try simp only [beq_iff_eq, beq_eq_false_iff_ne, ne_eq] at *); unfold escV; first | rw [if_pos (by omega)] | rw [if_neg (by omega)]), by show Rw ws _ g r (unw t); unfold unw; rw [HW.out]; first | exact HS.out | exact HS.out.tail (whiB_ne HW.out) (by omega)⟩
        · have HQ := Aside0.mk (HEnd.out (.inl (by omega)))
          clear HEnd
          cases hw : whiB (sg t 0)
          all_goals
            have HW := Aside0.mk hw
            go_wp2_with (first
              | (go_at_call 30; refine (sgn_r HS.out _ (by omega) (by omega)).mono ?_; rintro e w1 ⟨rfl, hS⟩; clear HS; have HS := Aside0.mk hS; obtain ⟨A, c, hc0, hc1, hfz, hr⟩ := hS.c0; clear hS hr)
              | (go_at_call 45; refine (white_r HS.out _).mono ?_; rintro e w1 ⟨rfl, hS⟩; clear HS; have HS := Aside0.mk hS; obtain ⟨A, c, hc0, hc1, hfz, hr⟩ := hS.c0; clear hS hr))
            all_goals
              go_ret
              rw [HQ.out]
              exact ⟨congrArg (fun x => Ending.returned (.int .i32 x)) (by show _ = escV v; (try simp only [beq_iff_eq, beq_eq_false_iff_ne, ne_eq] at *); unfold escV; first | rw [if_pos (by omega)] | rw [if_neg (by omega)]), by show Rw ws _ g r (unw t); unfold unw; rw [HW.out]; first | exact HS.out | exact HS.out.tail (whiB_ne HW.out) (by omega)⟩

theorem hexRun_suf : ∀ (n : Nat) (v : Int) (l : List Int), (hexRun n v l).2 <:+ l
  | 0, _, l => List.suffix_refl l
  | n + 1, v, l => by
    unfold hexRun
    split
    · exact (hexRun_suf n _ l.tail).trans (List.tail_suffix l)
    · exact List.suffix_refl l
theorem unw_suf (l : List Int) : unw l <:+ l := by
  unfold unw
  split
  · exact List.tail_suffix l
  · exact List.suffix_refl l
theorem escP_suf (l : List Int) : (escP l).2 <:+ l := by
  unfold escP
  split
  · exact List.suffix_refl l
  · split
    · exact (unw_suf _).trans (hexRun_suf 6 0 l)
    · exact List.tail_suffix l
theorem escB_ne {l : List Int} (h : escB l 0 = true) : sg l 0 ≠ -1 := by
  intro e
  simp [escB, e] at h
theorem tail_lt {l : List Int} (h : sg l 0 ≠ -1) : l.tail.length < l.length := by
  have := sg_len h
  omega
theorem encode_le (c : Int) : (Utf8.encode c).size ≤ 4 := by
  have := runesBytes_size_le [c]
  rwa [runesBytes_one] at this
def nameP : Nat → ByteArray → List Int → ByteArray × List Int
  | 0, s, l => (s, l)
  | n + 1, s, l => if namB (sg l 0) then nameP n (s ++ Utf8.encode (sg l 0)) l.tail else if escB l 0 then nameP n (s ++ Utf8.encode (escP l.tail).1) (escP l.tail).2 else (s, l)
def nameL (l : List Int) : ByteArray × List Int := nameP l.length ⟨#[]⟩ l
theorem nameP_nam (n : Nat) (s : ByteArray) {l : List Int} (h : namB (sg l 0) = true) : nameP (n + 1) s l = nameP n (s ++ Utf8.encode (sg l 0)) l.tail := by
  conv => lhs; unfold nameP
  rw [h]; rfl
theorem nameP_esc (n : Nat) (s : ByteArray) {l : List Int} (h : namB (sg l 0) = false) (h2 : escB l 0 = true) : nameP (n + 1) s l = nameP n (s ++ Utf8.encode (escP l.tail).1) (escP l.tail).2 := by
  conv => lhs; unfold nameP
  rw [h, h2]; rfl
theorem nameP_end (n : Nat) (s : ByteArray) {l : List Int} (h : namB (sg l 0) = false) (h2 : escB l 0 = false) : nameP n s l = (s, l) := by
  cases n with
  | zero => rfl
  | succ n => unfold nameP; rw [h, h2]; rfl
theorem nameP_suf : ∀ (n : Nat) (s : ByteArray) (l : List Int), (nameP n s l).2 <:+ l
  | 0, _, l => List.suffix_refl l
  | n + 1, s, l => by
    unfold nameP
    split
    · exact (nameP_suf n _ _).trans (List.tail_suffix l)
    · split
      · exact (nameP_suf n _ _).trans ((escP_suf _).trans (List.tail_suffix l))
      · exact List.suffix_refl l
theorem size_app (a b : ByteArray) : (a ++ b).size = a.size + b.size := ByteArray.size_append
set_option maxHeartbeats 2000000 in
set_option maxRecDepth 100000 in
theorem name_r {ws w : World} {g : Nat} {r l : List Int} (H : Rw ws w g r l) :
    Calls Tryd.prog 50 #[.pointer (some ⟨g, 0, none⟩)] w fun e w' => (e = .returned (.string (nameL l).1) ∧ (nameL l).1.size ≤ 4 * r.length) ∧ Rw ws w' g r (nameL l).2 := by
  have HS := Aside0.mk H
  have hsz := H.size
  have hln := H.len
  clear H
  go_enter Tryd.func50, Tryd.ntmps50
  go_wp2
  go_loopg [3] l.length (fun n v wr => ∃ (s : ByteArray) (t : List Int), v = .string s ∧ Aside0 (Rw ws wr g r t) ∧ Aside0 (nameP n s t = nameL l) ∧ t.length ≤ n ∧ s.size + 4 * t.length ≤ 4 * r.length)
  case atStart => exact ⟨⟨#[]⟩, l, rfl, HS, ⟨rfl⟩, Nat.le_refl _, by show 0 + _ ≤ _; omega⟩
  case round =>
    obtain ⟨s, t, rfl, HR, HE, hn, hs⟩ := hrel
    clear HS
    have HS := HR
    clear HR
    have htl := HS.out.len
    cases h1 : namB (sg t 0) with
    | true =>
      have hen := encode_le (sg t 0)
      have hlt := tail_lt (namB_ne h1)
      cases gk with
      | zero => omega
      | succ gk =>
      have HE2 := Aside0.mk ((nameP_nam gk s h1).symm.trans HE.out)
      have HZ := Aside0.mk (size_app s (Utf8.encode (sg t 0)))
      have HN := Aside0.mk (namB_ne h1)
      go_wp2_with (first | (go_at_call 30; refine (sgn_r HS.out _ (by omega) (by omega)).mono ?_; rintro e w1 ⟨rfl, hS⟩; clear HS; have HS := Aside0.mk hS; obtain ⟨A, c, hc0, hc1, hfz, hr⟩ := hS.c0; clear hS hr) | (go_at_call 47; refine (named_r HS.out _).mono ?_; rintro e w1 ⟨rfl, hS⟩; clear HS; have HS := Aside0.mk hS; obtain ⟨A, c, hc0, hc1, hfz, hr⟩ := hS.c0; clear hS hr) | (go_at_call 44; refine (put_r HS.out _).mono ?_; rintro e w1 ⟨rfl, hS⟩; clear HS; have HS := Aside0.mk hS; obtain ⟨A, c, hc0, hc1, hfz, hr⟩ := hS.c0; clear hS hr))
      have HT := Aside0.mk (HS.out.tail HN.out rfl)
      have := HZ.out
      go_roundg gk
      case rel => exact ⟨_, _, rfl, HT, HE2, by omega, by omega⟩
      case measure => omega
    | false =>
      have H1 := Aside0.mk h1
      cases h2 : escB t 0 with
      | true =>
        have hen := encode_le (escP t.tail).1
        have hlt := tail_lt (escB_ne h2)
        have hsf := (escP_suf t.tail).length_le
        cases gk with
        | zero => omega
        | succ gk =>
        have HE2 := Aside0.mk ((nameP_esc gk s h1 h2).symm.trans HE.out)
        have HZ := Aside0.mk (size_app s (Utf8.encode (escP t.tail).1))
        have HN := Aside0.mk (escB_ne h2)
        go_wp2_with (first | (go_at_call 30; refine (sgn_r HS.out _ (by omega) (by omega)).mono ?_; rintro e w1 ⟨rfl, hS⟩; clear HS; have HS := Aside0.mk hS; obtain ⟨A, c, hc0, hc1, hfz, hr⟩ := hS.c0; clear hS hr) | (go_at_call 47; refine (named_r HS.out _).mono ?_; rintro e w1 ⟨rfl, hS⟩; clear HS; have HS := Aside0.mk hS; obtain ⟨A, c, hc0, hc1, hfz, hr⟩ := hS.c0; clear hS hr) | (go_at_call 48; refine (escape_r HS.out _ (by omega) (by omega)).mono ?_; rintro e w1 ⟨rfl, hS⟩; clear HS; have HS := Aside0.mk hS; obtain ⟨A, c, hc0, hc1, hfz, hr⟩ := hS.c0; clear hS hr) | (go_at_call 70; refine (escaped_r (HS.out.tail HN.out (by omega))).mono ?_; rintro e w1 ⟨rfl, hS⟩; clear HS; have HS := Aside0.mk hS; obtain ⟨A, c, hc0, hc1, hfz, hr⟩ := hS.c0; clear hS hr) | (go_at_call 44; refine (put_r HS.out _).mono ?_; rintro e w1 ⟨rfl, hS⟩; clear HS; have HS := Aside0.mk hS; obtain ⟨A, c, hc0, hc1, hfz, hr⟩ := hS.c0; clear hS hr))
        have := HZ.out
        go_roundg gk
        case rel => exact ⟨_, _, rfl, HS, HE2, by omega, by omega⟩
        case measure => omega
      | false =>
        have HE2 := Aside0.mk (HE.out.symm.trans (nameP_end gk s h1 h2))
        go_wp2_with (first | (go_at_call 30; refine (sgn_r HS.out _ (by omega) (by omega)).mono ?_; rintro e w1 ⟨rfl, hS⟩; clear HS; have HS := Aside0.mk hS; obtain ⟨A, c, hc0, hc1, hfz, hr⟩ := hS.c0; clear hS hr) | (go_at_call 47; refine (named_r HS.out _).mono ?_; rintro e w1 ⟨rfl, hS⟩; clear HS; have HS := Aside0.mk hS; obtain ⟨A, c, hc0, hc1, hfz, hr⟩ := hS.c0; clear hS hr) | (go_at_call 48; refine (escape_r HS.out _ (by omega) (by omega)).mono ?_; rintro e w1 ⟨rfl, hS⟩; clear HS; have HS := Aside0.mk hS; obtain ⟨A, c, hc0, hc1, hfz, hr⟩ := hS.c0; clear hS hr))
        go_ret
        rw [HE2.out]
        exact ⟨⟨rfl, by show s.size ≤ _; omega⟩, HS.out⟩

def badP : Nat → List Int → List Int
  | 0, l => l
  | n + 1, l => if sg l 0 < 0 then l else if sg l 0 = 41 then l else if escB l 0 then badP n (escP l.tail).2 else badP n l.tail
def badL (l : List Int) : List Int := if sg (badP l.length l) 0 = 41 then (badP l.length l).tail else badP l.length l
theorem badP_suf : ∀ (n : Nat) (l : List Int), badP n l <:+ l
  | 0, l => List.suffix_refl l
  | n + 1, l => by
    unfold badP
    split
    · exact List.suffix_refl l
    · split
      · exact List.suffix_refl l
      · split
        · exact (badP_suf n _).trans ((escP_suf _).trans (List.tail_suffix l))
        · exact (badP_suf n _).trans (List.tail_suffix l)
theorem badL_suf (l : List Int) : badL l <:+ l := by
  unfold badL
  split
  · exact (List.tail_suffix _).trans (badP_suf _ _)
  · exact badP_suf _ _
theorem badP_end (n : Nat) {l : List Int} (h : sg l 0 < 0 ∨ sg l 0 = 41) : badP n l = l := by
  cases n with
  | zero => rfl
  | succ n =>
    unfold badP
    rcases h with h | h
    · rw [if_pos h]
    · rw [if_neg (by omega), if_pos h]
theorem badP_esc (n : Nat) {l : List Int} (h : ¬ sg l 0 < 0) (h1 : ¬ sg l 0 = 41) (h2 : escB l 0 = true) : badP (n + 1) l = badP n (escP l.tail).2 := by
  conv => lhs; unfold badP
  rw [if_neg h, if_neg h1, h2]; rfl
theorem badP_skip (n : Nat) {l : List Int} (h : ¬ sg l 0 < 0) (h1 : ¬ sg l 0 = 41) (h2 : escB l 0 = false) : badP (n + 1) l = badP n l.tail := by
  conv => lhs; unfold badP
  rw [if_neg h, if_neg h1, h2]; rfl
/-- A token as a value; a token of a kind and a text. -/
def tokV (t : S49) : Value := .agg #[.int .i64 t.f0, .string t.f1, .int .i64 t.f2, .bool t.f3, .bool t.f4, .bool t.f5]
def mkT (k : Int) (s : ByteArray) : S49 := ⟨k, s, 0, false, false, false⟩
def tokZ : Obj := .cells #[.int .i64 0, .string ⟨#[]⟩, .int .i64 0, .bool false, .bool false, .bool false] 49
theorem res6 {w w1 : World} {g : Nat} {r l : List Int} (h : Rw (w.alloc tokZ) w1 g r l) (hg : g < w.heap.size) :
    w1.cell? ⟨w.heap.size, 0, none⟩ = some (.int .i64 0) ∧ w1.cell? ⟨w.heap.size, 1, none⟩ = some (.string ⟨#[]⟩) ∧ w1.cell? ⟨w.heap.size, 2, none⟩ = some (.int .i64 0) ∧ w1.cell? ⟨w.heap.size, 3, none⟩ = some (.bool false) ∧ w1.cell? ⟨w.heap.size, 4, none⟩ = some (.bool false) ∧ w1.cell? ⟨w.heap.size, 5, none⟩ = some (.bool false) ∧
    w1.frozen? ⟨w.heap.size, 0, none⟩ = false ∧ w1.frozen? ⟨w.heap.size, 1, none⟩ = false ∧ w1.frozen? ⟨w.heap.size, 2, none⟩ = false ∧ w1.frozen? ⟨w.heap.size, 3, none⟩ = false ∧ w1.frozen? ⟨w.heap.size, 4, none⟩ = false ∧ w1.frozen? ⟨w.heap.size, 5, none⟩ = false := by
  have hb := h.made hg
  unfold tokZ at hb
  exact ⟨(blk_cell hb 0).trans rfl, (blk_cell hb 1).trans rfl, (blk_cell hb 2).trans rfl, (blk_cell hb 3).trans rfl, (blk_cell hb 4).trans rfl, (blk_cell hb 5).trans rfl, blk_frozen hb 0, blk_frozen hb 1, blk_frozen hb 2, blk_frozen hb 3, blk_frozen hb 4, blk_frozen hb 5⟩
set_option maxHeartbeats 2000000 in
set_option maxRecDepth 100000 in
theorem badURL_r {ws w : World} {g : Nat} {r l : List Int} (H : Rw ws w g r l) :
    Calls Tryd.prog 84 #[.pointer (some ⟨g, 0, none⟩)] w fun e w' => e = .returned (tokV (mkT 8 ⟨#[]⟩)) ∧ Rw ws w' g r (badL l) := by
  have H0 := Aside0.mk H
  have HS := Aside0.mk (H.alloc tokZ).self
  have HL := Aside0.mk H.lt
  have HG := Aside0.mk H.keep.1
  have hd1 : ¬ w.heap.size = g := by have := H.lt; omega
  have hd2 : ¬ g = w.heap.size := by have := H.lt; omega
  have hsz := H.size
  have hln := H.len
  have hu := Tryd.underlying49
  clear H
  unfold tokZ at HS
  go_enter Tryd.func84, Tryd.ntmps84
  go_wp2
  go_loopg [] l.length (fun n wr => ∃ (t : List Int), Aside0 (Rw (w.alloc tokZ) wr g r t) ∧ Aside0 (badP n t = badP l.length l) ∧ t.length ≤ n)
  case atStart => exact ⟨l, HS, ⟨rfl⟩, Nat.le_refl _⟩
  case round =>
    obtain ⟨t, HR, HE, hn⟩ := hrel
    clear HS
    have HS := HR
    clear HR
    have htl := HS.out.len
    by_cases h1 : sg t 0 < 0 ∨ sg t 0 = 41
    · have HQ := Aside0.mk ((badP_end gk h1).symm.trans HE.out)
      have hL : badL l = if sg t 0 = 41 then t.tail else t := by unfold badL; rw [← HQ.out]
      have HLL := Aside0.mk hL
      clear hL
      rcases h1 with h1 | h1
      · have h2 : ¬ (0 ≤ sg t 0) := by omega
        have h3 : (sg t 0 == 41) = false := by rw [beq_eq_false_iff_ne]; omega
        go_wp2_with (first | (go_at_call 30; refine (sgn_r HS.out _ (by omega) (by omega)).mono ?_; rintro e w1 ⟨rfl, hS⟩; clear HS; have HS := Aside0.mk hS; obtain ⟨A, c, hc0, hc1, hfz, hr⟩ := hS.c0; clear hS hr; obtain ⟨y0, y1, y2, y3, y4, y5, z0, z1, z2, z3, z4, z5⟩ := res6 HS.out HL.out))
        rw [show badL l = t from HLL.out.trans (if_neg (by omega))]
        (refine bodyPost_ret (v := tokV (mkT 8 ⟨#[]⟩)) ?_ rfl ⟨rfl, (Rw.far (p := ⟨w.heap.size, 5, none⟩) (Rw.far (p := ⟨w.heap.size, 4, none⟩) (Rw.far (p := ⟨w.heap.size, 3, none⟩) (Rw.far (p := ⟨w.heap.size, 2, none⟩) (Rw.far (p := ⟨w.heap.size, 1, none⟩) (Rw.far (p := ⟨w.heap.size, 0, none⟩) (Rw.trans (H0.out.alloc tokZ) (HS.out)) HL.out HG.out _) HL.out HG.out _) HL.out HG.out _) HL.out HG.out _) HL.out HG.out _) HL.out HG.out _)⟩; simp [results, Tryd.results84, go_sem, tokV, mkT, y0, y1, y2, y3, y4, y5, hd1, hd2])
      · have HN := Aside0.mk (show sg t 0 ≠ -1 by omega)
        have h2 : 0 ≤ sg t 0 := by omega
        have h3 : (sg t 0 == 41) = true := by rw [beq_iff_eq]; omega
        have h4 : (sg t 0 != 41) = false := by rw [bne_eq_false_iff_eq]; omega
        have H1 := Aside0.mk h1
        clear h1
        go_wp2_with (first | (go_at_call 30; refine (sgn_r HS.out _ (by omega) (by omega)).mono ?_; rintro e w1 ⟨rfl, hS⟩; clear HS; have HS := Aside0.mk hS; obtain ⟨A, c, hc0, hc1, hfz, hr⟩ := hS.c0; clear hS hr; obtain ⟨y0, y1, y2, y3, y4, y5, z0, z1, z2, z3, z4, z5⟩ := res6 HS.out HL.out))
        rw [show badL l = t.tail from HLL.out.trans (if_pos H1.out)]
        (refine bodyPost_ret (v := tokV (mkT 8 ⟨#[]⟩)) ?_ rfl ⟨rfl, (Rw.far (p := ⟨w.heap.size, 5, none⟩) (Rw.far (p := ⟨w.heap.size, 4, none⟩) (Rw.far (p := ⟨w.heap.size, 3, none⟩) (Rw.far (p := ⟨w.heap.size, 2, none⟩) (Rw.far (p := ⟨w.heap.size, 1, none⟩) (Rw.far (p := ⟨w.heap.size, 0, none⟩) (Rw.trans (H0.out.alloc tokZ) (HS.out.tail HN.out (by omega))) HL.out HG.out _) HL.out HG.out _) HL.out HG.out _) HL.out HG.out _) HL.out HG.out _) HL.out HG.out _)⟩; simp [results, Tryd.results84, go_sem, tokV, mkT, y0, y1, y2, y3, y4, y5, hd1, hd2])
    · have g1 : ¬ sg t 0 < 0 := by omega
      have g2 : ¬ sg t 0 = 41 := by omega
      have G1 := Aside0.mk g1
      have G2 := Aside0.mk g2
      have HN := Aside0.mk (show sg t 0 ≠ -1 by omega)
      have h2 : 0 ≤ sg t 0 := by omega
      have h4 : (sg t 0 != 41) = true := by rw [bne_iff_ne]; omega
      have hlt := tail_lt HN.out
      have hsf := (escP_suf t.tail).length_le
      clear h1 g1 g2
      cases gk with
      | zero => omega
      | succ gk =>
      cases h5 : escB t 0 with
      | true =>
        have HE2 := Aside0.mk ((badP_esc gk G1.out G2.out h5).symm.trans HE.out)
        go_wp2_with (first | (go_at_call 30; refine (sgn_r HS.out _ (by omega) (by omega)).mono ?_; rintro e w1 ⟨rfl, hS⟩; clear HS; have HS := Aside0.mk hS; obtain ⟨A, c, hc0, hc1, hfz, hr⟩ := hS.c0; clear hS hr) | (go_at_call 48; refine (escape_r HS.out _ (by omega) (by omega)).mono ?_; rintro e w1 ⟨rfl, hS⟩; clear HS; have HS := Aside0.mk hS; obtain ⟨A, c, hc0, hc1, hfz, hr⟩ := hS.c0; clear hS hr) | (go_at_call 70; refine (escaped_r (HS.out.tail HN.out (by omega))).mono ?_; rintro e w1 ⟨rfl, hS⟩; clear HS; have HS := Aside0.mk hS; obtain ⟨A, c, hc0, hc1, hfz, hr⟩ := hS.c0; clear hS hr))
        go_roundg gk
        case rel => exact ⟨_, HS, HE2, by omega⟩
        case measure => omega
      | false =>
        have HE2 := Aside0.mk ((badP_skip gk G1.out G2.out h5).symm.trans HE.out)
        go_wp2_with (first | (go_at_call 30; refine (sgn_r HS.out _ (by omega) (by omega)).mono ?_; rintro e w1 ⟨rfl, hS⟩; clear HS; have HS := Aside0.mk hS; obtain ⟨A, c, hc0, hc1, hfz, hr⟩ := hS.c0; clear hS hr) | (go_at_call 48; refine (escape_r HS.out _ (by omega) (by omega)).mono ?_; rintro e w1 ⟨rfl, hS⟩; clear HS; have HS := Aside0.mk hS; obtain ⟨A, c, hc0, hc1, hfz, hr⟩ := hS.c0; clear hS hr))
        have HT := Aside0.mk (HS.out.tail HN.out rfl)
        go_roundg gk
        case rel => exact ⟨_, HT, HE2, by omega⟩
        case measure => omega

def digP : ByteArray → List Int → ByteArray × List Int
  | s, [] => (s, [])
  | s, c :: t => if digB c then digP (s ++ Utf8.encode c) t else (s, c :: t)
def digL (l : List Int) : ByteArray × List Int := digP ⟨#[]⟩ l
theorem digP_yes (s : ByteArray) {l : List Int} (h : digB (sg l 0) = true) : digP s l = digP (s ++ Utf8.encode (sg l 0)) l.tail := by
  cases l with
  | nil => exact absurd h (by simp [sg, digB])
  | cons c t =>
    have h' : digB c = true := h
    conv => lhs; unfold digP
    rw [h']; rfl
theorem digP_no (s : ByteArray) {l : List Int} (h : digB (sg l 0) = false) : digP s l = (s, l) := by
  cases l with
  | nil => rfl
  | cons c t =>
    have h' : digB c = false := h
    unfold digP
    rw [h']; rfl
theorem digP_suf : ∀ (s : ByteArray) (l : List Int), (digP s l).2 <:+ l
  | s, [] => List.suffix_refl _
  | s, c :: t => by
    unfold digP
    split
    · exact (digP_suf _ t).trans (List.suffix_cons c t)
    · exact List.suffix_refl _
theorem digB_ne {c : Int} (h : digB c = true) : c ≠ -1 := by rintro rfl; simp [digB] at h
set_option maxHeartbeats 2000000 in
set_option maxRecDepth 100000 in
theorem digits_r {ws w : World} {g : Nat} {r l : List Int} (H : Rw ws w g r l) :
    Calls Tryd.prog 72 #[.pointer (some ⟨g, 0, none⟩)] w fun e w' => (e = .returned (.string (digL l).1) ∧ (digL l).1.size ≤ 4 * r.length) ∧ Rw ws w' g r (digL l).2 := by
  have HS := Aside0.mk H
  have hsz := H.size
  have hln := H.len
  clear H
  go_enter Tryd.func72, Tryd.ntmps72
  go_wp2
  go_loopg [3] l.length (fun n v wr => ∃ (s : ByteArray) (t : List Int), v = .string s ∧ Aside0 (Rw ws wr g r t) ∧ Aside0 (digP s t = digL l) ∧ t.length ≤ n ∧ s.size + 4 * t.length ≤ 4 * r.length)
  case atStart => exact ⟨⟨#[]⟩, l, rfl, HS, ⟨rfl⟩, Nat.le_refl _, by show 0 + _ ≤ _; omega⟩
  case round =>
    obtain ⟨s, t, rfl, HR, HE, hn, hs⟩ := hrel
    clear HS
    have HS := HR
    clear HR
    have htl := HS.out.len
    cases h1 : digB (sg t 0) with
    | true =>
      have hen := encode_le (sg t 0)
      have hlt := tail_lt (digB_ne h1)
      have HE2 := Aside0.mk ((digP_yes s h1).symm.trans HE.out)
      have HZ := Aside0.mk (size_app s (Utf8.encode (sg t 0)))
      have HN := Aside0.mk (digB_ne h1)
      go_wp2_with (first | (go_at_call 30; refine (sgn_r HS.out _ (by omega) (by omega)).mono ?_; rintro e w1 ⟨rfl, hS⟩; clear HS; have HS := Aside0.mk hS; obtain ⟨A, c, hc0, hc1, hfz, hr⟩ := hS.c0; clear hS hr) | (go_at_call 51; refine (digit_r HS.out _).mono ?_; rintro e w1 ⟨rfl, hS⟩; clear HS; have HS := Aside0.mk hS; obtain ⟨A, c, hc0, hc1, hfz, hr⟩ := hS.c0; clear hS hr) | (go_at_call 44; refine (put_r HS.out _).mono ?_; rintro e w1 ⟨rfl, hS⟩; clear HS; have HS := Aside0.mk hS; obtain ⟨A, c, hc0, hc1, hfz, hr⟩ := hS.c0; clear hS hr))
      have HT := Aside0.mk (HS.out.tail HN.out rfl)
      have := HZ.out
      go_roundg t.tail.length
      case rel => exact ⟨_, _, rfl, HT, HE2, by omega, by omega⟩
      case measure => omega
    | false =>
      have HE2 := Aside0.mk (HE.out.symm.trans (digP_no s h1))
      go_wp2_with (first | (go_at_call 30; refine (sgn_r HS.out _ (by omega) (by omega)).mono ?_; rintro e w1 ⟨rfl, hS⟩; clear HS; have HS := Aside0.mk hS; obtain ⟨A, c, hc0, hc1, hfz, hr⟩ := hS.c0; clear hS hr) | (go_at_call 51; refine (digit_r HS.out _).mono ?_; rintro e w1 ⟨rfl, hS⟩; clear HS; have HS := Aside0.mk hS; obtain ⟨A, c, hc0, hc1, hfz, hr⟩ := hS.c0; clear hS hr))
      go_ret
      rw [HE2.out]
      exact ⟨⟨rfl, by show s.size ≤ _; omega⟩, HS.out⟩
def quoP (q : Int) : Nat → ByteArray → List Int → S49 × List Int
  | 0, s, l => (mkT 5 s, l)
  | n + 1, s, l => if sg l 0 < 0 then (mkT 5 s, l) else if sg l 0 = q then (mkT 5 s, l.tail) else if sg l 0 = 10 then (mkT 6 ⟨#[]⟩, l) else
    if sg l 0 = 92 then (if sg l 1 < 0 then quoP q n s l.tail else if sg l 1 = 10 then quoP q n s l.tail.tail else quoP q n (s ++ Utf8.encode (escP l.tail).1) (escP l.tail).2)
    else quoP q n (s ++ Utf8.encode (sg l 0)) l.tail
def quoL (q : Int) (l : List Int) : S49 × List Int := quoP q l.length ⟨#[]⟩ l
theorem quoP_end (q : Int) (n : Nat) (s : ByteArray) {l : List Int} (h : sg l 0 < 0) : quoP q n s l = (mkT 5 s, l) := by
  cases n with
  | zero => rfl
  | succ n => unfold quoP; rw [if_pos h]
theorem quoP_q (q : Int) (n : Nat) (s : ByteArray) {l : List Int} (h : ¬ sg l 0 < 0) (h1 : sg l 0 = q) : quoP q (n + 1) s l = (mkT 5 s, l.tail) := by
  unfold quoP; rw [if_neg h, if_pos h1]
theorem quoP_nl (q : Int) (n : Nat) (s : ByteArray) {l : List Int} (h : ¬ sg l 0 < 0) (h1 : ¬ sg l 0 = q) (h2 : sg l 0 = 10) : quoP q (n + 1) s l = (mkT 6 ⟨#[]⟩, l) := by
  unfold quoP; rw [if_neg h, if_neg h1, if_pos h2]
theorem quoP_b1 (q : Int) (n : Nat) (s : ByteArray) {l : List Int} (h : ¬ sg l 0 < 0) (h1 : ¬ sg l 0 = q) (h2 : ¬ sg l 0 = 10) (h3 : sg l 0 = 92) (h4 : sg l 1 < 0) : quoP q (n + 1) s l = quoP q n s l.tail := by
  conv => lhs; unfold quoP
  rw [if_neg h, if_neg h1, if_neg h2, if_pos h3, if_pos h4]
theorem quoP_b2 (q : Int) (n : Nat) (s : ByteArray) {l : List Int} (h : ¬ sg l 0 < 0) (h1 : ¬ sg l 0 = q) (h2 : ¬ sg l 0 = 10) (h3 : sg l 0 = 92) (h4 : ¬ sg l 1 < 0) (h5 : sg l 1 = 10) : quoP q (n + 1) s l = quoP q n s l.tail.tail := by
  conv => lhs; unfold quoP
  rw [if_neg h, if_neg h1, if_neg h2, if_pos h3, if_neg h4, if_pos h5]
theorem quoP_b3 (q : Int) (n : Nat) (s : ByteArray) {l : List Int} (h : ¬ sg l 0 < 0) (h1 : ¬ sg l 0 = q) (h2 : ¬ sg l 0 = 10) (h3 : sg l 0 = 92) (h4 : ¬ sg l 1 < 0) (h5 : ¬ sg l 1 = 10) : quoP q (n + 1) s l = quoP q n (s ++ Utf8.encode (escP l.tail).1) (escP l.tail).2 := by
  conv => lhs; unfold quoP
  rw [if_neg h, if_neg h1, if_neg h2, if_pos h3, if_neg h4, if_neg h5]
theorem quoP_go (q : Int) (n : Nat) (s : ByteArray) {l : List Int} (h : ¬ sg l 0 < 0) (h1 : ¬ sg l 0 = q) (h2 : ¬ sg l 0 = 10) (h3 : ¬ sg l 0 = 92) : quoP q (n + 1) s l = quoP q n (s ++ Utf8.encode (sg l 0)) l.tail := by
  conv => lhs; unfold quoP
  rw [if_neg h, if_neg h1, if_neg h2, if_neg h3]
theorem sg_one (l : List Int) : sg l 1 = sg l.tail 0 := by
  cases l with
  | nil => rfl
  | cons a t => rfl

theorem beqF {a b : Int} (h : ¬ a = b) : (a == b) = false := beq_eq_false_iff_ne.2 h
theorem beqT {a b : Int} (h : a = b) : (a == b) = true := beq_iff_eq.2 h
set_option maxHeartbeats 4000000 in
set_option maxRecDepth 100000 in
theorem quoted_r {ws w : World} {g : Nat} {r l : List Int} (H : Rw ws w g r l) (q : Int) :
    Calls Tryd.prog 46 #[.pointer (some ⟨g, 0, none⟩), .int .i32 q] w fun e w' => e = .returned (tokV (quoL q l).1) ∧ Rw ws w' g r (quoL q l).2 := by
  have H0 := Aside0.mk H
  have HS := Aside0.mk (H.alloc tokZ).self
  have HL := Aside0.mk H.lt
  have HG := Aside0.mk H.keep.1
  have hd1 : ¬ w.heap.size = g := by have := H.lt; omega
  have hd2 : ¬ g = w.heap.size := by have := H.lt; omega
  have hsz := H.size
  have hln := H.len
  have hu := Tryd.underlying49
  clear H
  unfold tokZ at HS
  go_enter Tryd.func46, Tryd.ntmps46
  go_wp2
  go_loopg [5] l.length (fun n v wr => ∃ (s : ByteArray) (t : List Int), v = .string s ∧ Aside0 (Rw (w.alloc tokZ) wr g r t) ∧ Aside0 (quoP q n s t = quoL q l) ∧ t.length ≤ n ∧ s.size + 4 * t.length ≤ 4 * r.length)
  case atStart => exact ⟨⟨#[]⟩, l, rfl, HS, ⟨rfl⟩, Nat.le_refl _, by show 0 + _ ≤ _; omega⟩
  case round =>
    obtain ⟨s, t, rfl, HR, HE, hn, hs⟩ := hrel
    clear HS
    have HS := HR
    clear HR
    have htl := HS.out.len
    by_cases h1 : sg t 0 < 0
    · have HQ := Aside0.mk (HE.out.symm.trans (quoP_end q gk s h1))
      go_wp2_with (first | (go_at_call 30; refine (sgn_r HS.out _ (by omega) (by omega)).mono ?_; rintro e w1 ⟨rfl, hS⟩; clear HS; have HS := Aside0.mk hS; obtain ⟨A, c, hc0, hc1, hfz, hr⟩ := hS.c0; clear hS hr; obtain ⟨y0, y1, y2, y3, y4, y5, z0, z1, z2, z3, z4, z5⟩ := res6 HS.out HL.out))
      rw [HQ.out]
      (refine bodyPost_ret (v := tokV (mkT 5 s)) ?_ rfl ⟨rfl, (Rw.far (p := ⟨w.heap.size, 5, none⟩) (Rw.far (p := ⟨w.heap.size, 4, none⟩) (Rw.far (p := ⟨w.heap.size, 3, none⟩) (Rw.far (p := ⟨w.heap.size, 2, none⟩) (Rw.far (p := ⟨w.heap.size, 1, none⟩) (Rw.far (p := ⟨w.heap.size, 0, none⟩) (Rw.trans (H0.out.alloc tokZ) (HS.out)) HL.out HG.out _) HL.out HG.out _) HL.out HG.out _) HL.out HG.out _) HL.out HG.out _) HL.out HG.out _)⟩; simp [results, Tryd.results46, go_sem, tokV, mkT, y0, y1, y2, y3, y4, y5, hd1, hd2])
    · have h1' : 0 ≤ sg t 0 := by omega
      have HN := Aside0.mk (show sg t 0 ≠ -1 by omega)
      have hlt := tail_lt HN.out
      cases gk with
      | zero => omega
      | succ gk =>
      by_cases h2 : sg t 0 = q
      · have HQ := Aside0.mk (HE.out.symm.trans (quoP_q q gk s h1 h2))
        have b2 := beqT h2
        clear h2
        go_wp2_with (first | (go_at_call 30; refine (sgn_r HS.out _ (by omega) (by omega)).mono ?_; rintro e w1 ⟨rfl, hS⟩; clear HS; have HS := Aside0.mk hS; obtain ⟨A, c, hc0, hc1, hfz, hr⟩ := hS.c0; clear hS hr; obtain ⟨y0, y1, y2, y3, y4, y5, z0, z1, z2, z3, z4, z5⟩ := res6 HS.out HL.out))
        rw [HQ.out]
        (refine bodyPost_ret (v := tokV (mkT 5 s)) ?_ rfl ⟨rfl, (Rw.far (p := ⟨w.heap.size, 5, none⟩) (Rw.far (p := ⟨w.heap.size, 4, none⟩) (Rw.far (p := ⟨w.heap.size, 3, none⟩) (Rw.far (p := ⟨w.heap.size, 2, none⟩) (Rw.far (p := ⟨w.heap.size, 1, none⟩) (Rw.far (p := ⟨w.heap.size, 0, none⟩) (Rw.trans (H0.out.alloc tokZ) (HS.out.tail HN.out (by omega))) HL.out HG.out _) HL.out HG.out _) HL.out HG.out _) HL.out HG.out _) HL.out HG.out _) HL.out HG.out _)⟩; simp [results, Tryd.results46, go_sem, tokV, mkT, y0, y1, y2, y3, y4, y5, hd1, hd2])
      · have b2 := beqF h2
        by_cases h3 : sg t 0 = 10
        · have HQ := Aside0.mk (HE.out.symm.trans (quoP_nl q gk s h1 h2 h3))
          have b3 := beqT h3
          clear h2 h3
          go_wp2_with (first | (go_at_call 30; refine (sgn_r HS.out _ (by omega) (by omega)).mono ?_; rintro e w1 ⟨rfl, hS⟩; clear HS; have HS := Aside0.mk hS; obtain ⟨A, c, hc0, hc1, hfz, hr⟩ := hS.c0; clear hS hr; obtain ⟨y0, y1, y2, y3, y4, y5, z0, z1, z2, z3, z4, z5⟩ := res6 HS.out HL.out))
          rw [HQ.out]
          (refine bodyPost_ret (v := tokV (mkT 6 ⟨#[]⟩)) ?_ rfl ⟨rfl, (Rw.far (p := ⟨w.heap.size, 5, none⟩) (Rw.far (p := ⟨w.heap.size, 4, none⟩) (Rw.far (p := ⟨w.heap.size, 3, none⟩) (Rw.far (p := ⟨w.heap.size, 2, none⟩) (Rw.far (p := ⟨w.heap.size, 1, none⟩) (Rw.far (p := ⟨w.heap.size, 0, none⟩) (Rw.trans (H0.out.alloc tokZ) (HS.out)) HL.out HG.out _) HL.out HG.out _) HL.out HG.out _) HL.out HG.out _) HL.out HG.out _) HL.out HG.out _)⟩; simp [results, Tryd.results46, go_sem, tokV, mkT, y0, y1, y2, y3, y4, y5, hd1, hd2])
        · have b3 := beqF h3
          by_cases h4 : sg t 0 = 92
          · have b4 := beqT h4
            by_cases h5 : sg t 1 < 0
            · have HE2 := Aside0.mk ((quoP_b1 q gk s h1 h2 h3 h4 h5).symm.trans HE.out)
              clear h2 h3 h4
              go_wp2_with (first | (go_at_call 30; refine (sgn_r HS.out _ (by omega) (by omega)).mono ?_; rintro e w1 ⟨rfl, hS⟩; clear HS; have HS := Aside0.mk hS; obtain ⟨A, c, hc0, hc1, hfz, hr⟩ := hS.c0; clear hS hr; obtain ⟨y0, y1, y2, y3, y4, y5, z0, z1, z2, z3, z4, z5⟩ := res6 HS.out HL.out))
              have HT := Aside0.mk (HS.out.tail HN.out rfl)
              go_roundg gk
              case rel => exact ⟨_, _, rfl, HT, HE2, by omega, by omega⟩
              case measure => omega
            · have h5' : 0 ≤ sg t 1 := by omega
              have HN2 := Aside0.mk (show sg t.tail 0 ≠ -1 by rw [← sg_one]; omega)
              have hlt2 := tail_lt HN2.out
              by_cases h6 : sg t 1 = 10
              · have b6 := beqT h6
                have HE2 := Aside0.mk ((quoP_b2 q gk s h1 h2 h3 h4 h5 h6).symm.trans HE.out)
                clear h2 h3 h4 h6
                go_wp2_with (first | (go_at_call 30; refine (sgn_r HS.out _ (by omega) (by omega)).mono ?_; rintro e w1 ⟨rfl, hS⟩; clear HS; have HS := Aside0.mk hS; obtain ⟨A, c, hc0, hc1, hfz, hr⟩ := hS.c0; clear hS hr; obtain ⟨y0, y1, y2, y3, y4, y5, z0, z1, z2, z3, z4, z5⟩ := res6 HS.out HL.out))
                have HT := Aside0.mk (HS.out.adv (l' := t.tail.tail) ((List.tail_suffix _).trans (List.tail_suffix t)) (x := (r.length : Int) - t.length + 2) (by have := sg_len HN.out; have := sg_len HN2.out; omega))
                go_roundg gk
                case rel => exact ⟨_, _, rfl, HT, HE2, by omega, by omega⟩
                case measure => omega
              · have b6 := beqF h6
                have hen := encode_le (escP t.tail).1
                have hsf := (escP_suf t.tail).length_le
                have HZ := Aside0.mk (size_app s (Utf8.encode (escP t.tail).1))
                have HE2 := Aside0.mk ((quoP_b3 q gk s h1 h2 h3 h4 h5 h6).symm.trans HE.out)
                clear h2 h3 h4 h6
                go_wp2_with (first | (go_at_call 30; refine (sgn_r HS.out _ (by omega) (by omega)).mono ?_; rintro e w1 ⟨rfl, hS⟩; clear HS; have HS := Aside0.mk hS; obtain ⟨A, c, hc0, hc1, hfz, hr⟩ := hS.c0; clear hS hr; obtain ⟨y0, y1, y2, y3, y4, y5, z0, z1, z2, z3, z4, z5⟩ := res6 HS.out HL.out) | (go_at_call 70; refine (escaped_r (HS.out.tail HN.out (by omega))).mono ?_; rintro e w1 ⟨rfl, hS⟩; clear HS; have HS := Aside0.mk hS; obtain ⟨A, c, hc0, hc1, hfz, hr⟩ := hS.c0; clear hS hr; obtain ⟨y0, y1, y2, y3, y4, y5, z0, z1, z2, z3, z4, z5⟩ := res6 HS.out HL.out) | (go_at_call 44; refine (put_r HS.out _).mono ?_; rintro e w1 ⟨rfl, hS⟩; clear HS; have HS := Aside0.mk hS; obtain ⟨A, c, hc0, hc1, hfz, hr⟩ := hS.c0; clear hS hr; obtain ⟨y0, y1, y2, y3, y4, y5, z0, z1, z2, z3, z4, z5⟩ := res6 HS.out HL.out))
                have := HZ.out
                go_roundg gk
                case rel => exact ⟨_, _, rfl, HS, HE2, by omega, by omega⟩
                case measure => omega
          · have b4 := beqF h4
            have hen := encode_le (sg t 0)
            have HZ := Aside0.mk (size_app s (Utf8.encode (sg t 0)))
            have HE2 := Aside0.mk ((quoP_go q gk s h1 h2 h3 h4).symm.trans HE.out)
            clear h2 h3 h4
            go_wp2_with (first | (go_at_call 30; refine (sgn_r HS.out _ (by omega) (by omega)).mono ?_; rintro e w1 ⟨rfl, hS⟩; clear HS; have HS := Aside0.mk hS; obtain ⟨A, c, hc0, hc1, hfz, hr⟩ := hS.c0; clear hS hr; obtain ⟨y0, y1, y2, y3, y4, y5, z0, z1, z2, z3, z4, z5⟩ := res6 HS.out HL.out) | (go_at_call 44; refine (put_r HS.out _).mono ?_; rintro e w1 ⟨rfl, hS⟩; clear HS; have HS := Aside0.mk hS; obtain ⟨A, c, hc0, hc1, hfz, hr⟩ := hS.c0; clear hS hr; obtain ⟨y0, y1, y2, y3, y4, y5, z0, z1, z2, z3, z4, z5⟩ := res6 HS.out HL.out))
            have HT := Aside0.mk (HS.out.tail HN.out rfl)
            have := HZ.out
            go_roundg gk
            case rel => exact ⟨_, _, rfl, HT, HE2, by omega, by omega⟩
            case measure => omega

def badC (c : Int) : Bool := decide (c = 34) || decide (c = 39) || decide (c = 40) || decide (0 ≤ c ∧ c ≤ 8) || decide (c = 11) || decide (14 ≤ c ∧ c ≤ 31) || decide (c = 127)
theorem bad_f (c : Int) : fleuronref1_bad.f c = some (badC c) := by
  unfold fleuronref1_bad.f badC
  by_cases h1 : c = 34
  · simp [h1]
  · by_cases h2 : c = 39
    · simp [h2]
    · by_cases h3 : c = 40
      · simp [h3]
      · by_cases h4 : 0 ≤ c ∧ c ≤ 8
        · have e1 : c ≥ 0 := h4.1
          simp [h1, h2, h3, h4]
        · by_cases h5 : c = 11
          · simp [h5]
          · by_cases h6 : 14 ≤ c ∧ c ≤ 31
            · have e1 : c ≥ 0 := by omega
              have e2 : ¬ c ≤ 8 := by omega
              simp [h1, h2, h3, h5, h6, e1, e2]
            · by_cases e1 : c ≥ 0
              · have e2 : ¬ c ≤ 8 := by omega
                by_cases e3 : c ≥ 14
                · have e4 : ¬ c ≤ 31 := by omega
                  simp [h1, h2, h3, h5, e1, e2, e3, e4]; rfl
                · have e5 : ¬ 14 ≤ c := by omega
                  simp [h1, h2, h3, h5, e1, e2, e5]; rfl
              · have e3 : ¬ c ≥ 14 := by omega
                have e5 : ¬ 14 ≤ c := by omega
                have e6 : ¬ 0 ≤ c := by omega
                simp [h1, h2, h3, h5, e5, e6]; rfl
theorem bad_r {ws w : World} {g : Nat} {r l : List Int} (H : Rw ws w g r l) (c : Int) : Calls Tryd.prog 85 #[.int .i32 c] w fun e w' => e = .returned (.bool (badC c)) ∧ Rw ws w' g r l :=
  (fleuronref1_bad.calls c _ w (bad_f c)).mono fun _ _ ⟨e, hd⟩ => ⟨e, H.drawn hd⟩
def skipW : List Int → List Int
  | [] => []
  | c :: t => if whiB c then skipW t else c :: t
theorem skipW_suf : ∀ l : List Int, skipW l <:+ l
  | [] => List.suffix_refl _
  | c :: t => by
    unfold skipW
    split
    · exact (skipW_suf t).trans (List.suffix_cons c t)
    · exact List.suffix_refl _
theorem skipW_yes {l : List Int} (h : whiB (sg l 0) = true) : skipW l = skipW l.tail := by
  cases l with
  | nil => rfl
  | cons c t =>
    have h' : whiB c = true := h
    conv => lhs; unfold skipW
    rw [h']; rfl
theorem skipW_no {l : List Int} (h : whiB (sg l 0) = false) : skipW l = l := by
  cases l with
  | nil => rfl
  | cons c t =>
    have h' : whiB c = false := h
    unfold skipW
    rw [h']; rfl
def urlP : Nat → ByteArray → List Int → S49 × List Int
  | 0, s, l => (mkT 7 s, l)
  | n + 1, s, l => if sg l 0 < 0 then (mkT 7 s, l) else if sg l 0 = 41 then (mkT 7 s, l.tail) else
    if whiB (sg l 0) then (if sg (skipW l) 0 < 0 ∨ sg (skipW l) 0 = 41 then urlP n s (skipW l) else (mkT 8 ⟨#[]⟩, badL (skipW l))) else
    if badC (sg l 0) then (mkT 8 ⟨#[]⟩, badL l) else
    if sg l 0 = 92 then (if escB l 0 then urlP n (s ++ Utf8.encode (escP l.tail).1) (escP l.tail).2 else (mkT 8 ⟨#[]⟩, badL l)) else
    urlP n (s ++ Utf8.encode (sg l 0)) l.tail
def urlL (l : List Int) : S49 × List Int := urlP (skipW l).length ⟨#[]⟩ (skipW l)
theorem urlP_end (n : Nat) (s : ByteArray) {l : List Int} (h : sg l 0 < 0) : urlP n s l = (mkT 7 s, l) := by
  cases n with
  | zero => rfl
  | succ n => unfold urlP; rw [if_pos h]
theorem urlP_shut (n : Nat) (s : ByteArray) {l : List Int} (h : ¬ sg l 0 < 0) (h1 : sg l 0 = 41) : urlP (n + 1) s l = (mkT 7 s, l.tail) := by
  unfold urlP; rw [if_neg h, if_pos h1]
theorem urlP_w1 (n : Nat) (s : ByteArray) {l : List Int} (h : ¬ sg l 0 < 0) (h1 : ¬ sg l 0 = 41) (h2 : whiB (sg l 0) = true) (h3 : sg (skipW l) 0 < 0 ∨ sg (skipW l) 0 = 41) : urlP (n + 1) s l = urlP n s (skipW l) := by
  conv => lhs; unfold urlP
  rw [if_neg h, if_neg h1, if_pos h2, if_pos h3]
theorem urlP_w2 (n : Nat) (s : ByteArray) {l : List Int} (h : ¬ sg l 0 < 0) (h1 : ¬ sg l 0 = 41) (h2 : whiB (sg l 0) = true) (h3 : ¬ (sg (skipW l) 0 < 0 ∨ sg (skipW l) 0 = 41)) : urlP (n + 1) s l = (mkT 8 ⟨#[]⟩, badL (skipW l)) := by
  unfold urlP
  rw [if_neg h, if_neg h1, if_pos h2, if_neg h3]
theorem urlP_bad (n : Nat) (s : ByteArray) {l : List Int} (h : ¬ sg l 0 < 0) (h1 : ¬ sg l 0 = 41) (h2 : whiB (sg l 0) = false) (h3 : badC (sg l 0) = true) : urlP (n + 1) s l = (mkT 8 ⟨#[]⟩, badL l) := by
  unfold urlP
  rw [if_neg h, if_neg h1, if_neg (by rw [h2]; simp), if_pos h3]
theorem urlP_nesc (n : Nat) (s : ByteArray) {l : List Int} (h : ¬ sg l 0 < 0) (h1 : ¬ sg l 0 = 41) (h2 : whiB (sg l 0) = false) (h3 : badC (sg l 0) = false) (h4 : sg l 0 = 92) (h5 : escB l 0 = false) : urlP (n + 1) s l = (mkT 8 ⟨#[]⟩, badL l) := by
  unfold urlP
  rw [if_neg h, if_neg h1, if_neg (by rw [h2]; simp), if_neg (by rw [h3]; simp), if_pos h4, if_neg (by rw [h5]; simp)]
theorem urlP_esc (n : Nat) (s : ByteArray) {l : List Int} (h : ¬ sg l 0 < 0) (h1 : ¬ sg l 0 = 41) (h2 : whiB (sg l 0) = false) (h3 : badC (sg l 0) = false) (h4 : sg l 0 = 92) (h5 : escB l 0 = true) : urlP (n + 1) s l = urlP n (s ++ Utf8.encode (escP l.tail).1) (escP l.tail).2 := by
  conv => lhs; unfold urlP
  rw [if_neg h, if_neg h1, if_neg (by rw [h2]; simp), if_neg (by rw [h3]; simp), if_pos h4, if_pos h5]
theorem urlP_go (n : Nat) (s : ByteArray) {l : List Int} (h : ¬ sg l 0 < 0) (h1 : ¬ sg l 0 = 41) (h2 : whiB (sg l 0) = false) (h3 : badC (sg l 0) = false) (h4 : ¬ sg l 0 = 92) : urlP (n + 1) s l = urlP n (s ++ Utf8.encode (sg l 0)) l.tail := by
  conv => lhs; unfold urlP
  rw [if_neg h, if_neg h1, if_neg (by rw [h2]; simp), if_neg (by rw [h3]; simp), if_neg h4]
theorem skipW_lt {l : List Int} (h : whiB (sg l 0) = true) : (skipW l).length < l.length := by
  rw [skipW_yes h]
  have := tail_lt (whiB_ne h)
  have := (skipW_suf l.tail).length_le
  omega

theorem badURL_a {ws w : World} {g : Nat} {r l : List Int} (H : Rw ws w g r l) :
    Calls Tryd.prog 84 #[.pointer (some ⟨g, 0, none⟩)] w fun e w' => e = .returned (.agg #[.int .i64 8, .string ⟨#[]⟩, .int .i64 0, .bool false, .bool false, .bool false]) ∧ Rw ws w' g r (badL l) := badURL_r H
set_option maxHeartbeats 8000000 in
set_option maxRecDepth 100000 in
theorem url_r {ws w : World} {g : Nat} {r l : List Int} (H : Rw ws w g r l) :
    Calls Tryd.prog 73 #[.pointer (some ⟨g, 0, none⟩)] w fun e w' => e = .returned (tokV (urlL l).1) ∧ Rw ws w' g r (urlL l).2 := by
  have H0 := Aside0.mk H
  have HS := Aside0.mk (H.alloc tokZ).self
  have HL := Aside0.mk H.lt
  have HG := Aside0.mk H.keep.1
  have hd1 : ¬ w.heap.size = g := by have := H.lt; omega
  have hd2 : ¬ g = w.heap.size := by have := H.lt; omega
  have hsz := H.size
  have hln := H.len
  have hu := Tryd.underlying49
  clear H
  unfold tokZ at HS
  go_enter Tryd.func73, Tryd.ntmps73
  go_wp2
  go_loopg [] l.length (fun n wr => ∃ (t : List Int), Aside0 (Rw (w.alloc tokZ) wr g r t) ∧ Aside0 (skipW t = skipW l) ∧ t.length ≤ n)
  case atStart => exact ⟨l, HS, ⟨rfl⟩, Nat.le_refl _⟩
  case round =>
    obtain ⟨t, HR, HE, hn⟩ := hrel
    clear HS
    have HS := HR
    clear HR
    have htl := HS.out.len
    cases hw : whiB (sg t 0) with
    | true =>
      have HN := Aside0.mk (whiB_ne hw)
      have hlt := tail_lt (whiB_ne hw)
      have HE2 := Aside0.mk ((skipW_yes hw).symm.trans HE.out)
      go_wp2_with (first | (go_at_call 30; refine (sgn_r HS.out _ (by omega) (by omega)).mono ?_; rintro e w1 ⟨rfl, hS⟩; clear HS; have HS := Aside0.mk hS; obtain ⟨A, c, hc0, hc1, hfz, hr⟩ := hS.c0; clear hS hr) | (go_at_call 45; refine (white_r HS.out _).mono ?_; rintro e w1 ⟨rfl, hS⟩; clear HS; have HS := Aside0.mk hS; obtain ⟨A, c, hc0, hc1, hfz, hr⟩ := hS.c0; clear hS hr))
      have HT := Aside0.mk (HS.out.tail HN.out rfl)
      go_roundg t.tail.length
      case rel => exact ⟨_, HT, HE2, by omega⟩
      case measure => omega
    | false =>
      have HU := Aside0.mk (show urlL l = urlP t.length ⟨#[]⟩ t by unfold urlL; rw [← HE.out, skipW_no hw])
      go_wp2_with (first | (go_at_call 30; refine (sgn_r HS.out _ (by omega) (by omega)).mono ?_; rintro e w1 ⟨rfl, hS⟩; clear HS; have HS := Aside0.mk hS; obtain ⟨A, c, hc0, hc1, hfz, hr⟩ := hS.c0; clear hS hr) | (go_at_call 45; refine (white_r HS.out _).mono ?_; rintro e w1 ⟨rfl, hS⟩; clear HS; have HS := Aside0.mk hS; obtain ⟨A, c, hc0, hc1, hfz, hr⟩ := hS.c0; clear hS hr))
      clear hw hn HE
      obtain ⟨wo, HO, rfl⟩ : ∃ wo : World, Aside0 (Rw (w.alloc tokZ) wo g r t) ∧ wo = w1 := ⟨w1, HS, rfl⟩
      clear HS hc0 hc1 hfz
      go_loopg [3] t.length (fun n v wr => ∃ (s : ByteArray) (u : List Int), v = .string s ∧ Aside0 (Rw (w.alloc tokZ) wr g r u) ∧ Aside0 (urlP n s u = urlL l) ∧ u.length ≤ n ∧ s.size + 4 * u.length ≤ 4 * r.length)
      case atStart => exact ⟨⟨#[]⟩, t, rfl, HO, ⟨HU.out.symm⟩, Nat.le_refl _, by show 0 + _ ≤ _; omega⟩
      case round =>
        obtain ⟨s, u, rfl, HR, HE, hn, hs⟩ := hrel
        clear HO HU
        have HS := HR
        clear HR htl
        have htl := HS.out.len
        by_cases h1 : sg u 0 < 0
        · have HQ := Aside0.mk (HE.out.symm.trans (urlP_end gk s h1))
          have b1 := beqF (show ¬ sg u 0 = 41 by omega)
          go_wp2_with (first | (go_at_call 30; refine (sgn_r HS.out _ (by omega) (by omega)).mono ?_; rintro e w1 ⟨rfl, hS⟩; clear HS; have HS := Aside0.mk hS; obtain ⟨A, c, hc0, hc1, hfz, hr⟩ := hS.c0; clear hS hr; obtain ⟨y0, y1, y2, y3, y4, y5, z0, z1, z2, z3, z4, z5⟩ := res6 HS.out HL.out))
          rw [HQ.out]
          (refine bodyPost_ret (v := tokV (mkT 7 s)) ?_ rfl ⟨rfl, (Rw.far (p := ⟨w.heap.size, 5, none⟩) (Rw.far (p := ⟨w.heap.size, 4, none⟩) (Rw.far (p := ⟨w.heap.size, 3, none⟩) (Rw.far (p := ⟨w.heap.size, 2, none⟩) (Rw.far (p := ⟨w.heap.size, 1, none⟩) (Rw.far (p := ⟨w.heap.size, 0, none⟩) (Rw.trans (H0.out.alloc tokZ) (HS.out)) HL.out HG.out _) HL.out HG.out _) HL.out HG.out _) HL.out HG.out _) HL.out HG.out _) HL.out HG.out _)⟩; simp [results, Tryd.results73, go_sem, tokV, mkT, y0, y1, y2, y3, y4, y5, hd1, hd2])
        · have h1' : 0 ≤ sg u 0 := by omega
          have HN := Aside0.mk (show sg u 0 ≠ -1 by omega)
          have hlt := tail_lt HN.out
          have H1 := Aside0.mk h1
          cases gk with
          | zero => omega
          | succ gm =>
          by_cases h2 : sg u 0 = 41
          · have HQ := Aside0.mk (HE.out.symm.trans (urlP_shut gm s h1 h2))
            have b2 := beqT h2
            clear h2
            go_wp2_with (first | (go_at_call 30; refine (sgn_r HS.out _ (by omega) (by omega)).mono ?_; rintro e w1 ⟨rfl, hS⟩; clear HS; have HS := Aside0.mk hS; obtain ⟨A, c, hc0, hc1, hfz, hr⟩ := hS.c0; clear hS hr; obtain ⟨y0, y1, y2, y3, y4, y5, z0, z1, z2, z3, z4, z5⟩ := res6 HS.out HL.out))
            rw [HQ.out]
            (refine bodyPost_ret (v := tokV (mkT 7 s)) ?_ rfl ⟨rfl, (Rw.far (p := ⟨w.heap.size, 5, none⟩) (Rw.far (p := ⟨w.heap.size, 4, none⟩) (Rw.far (p := ⟨w.heap.size, 3, none⟩) (Rw.far (p := ⟨w.heap.size, 2, none⟩) (Rw.far (p := ⟨w.heap.size, 1, none⟩) (Rw.far (p := ⟨w.heap.size, 0, none⟩) (Rw.trans (H0.out.alloc tokZ) (HS.out.tail HN.out (by omega))) HL.out HG.out _) HL.out HG.out _) HL.out HG.out _) HL.out HG.out _) HL.out HG.out _) HL.out HG.out _)⟩; simp [results, Tryd.results73, go_sem, tokV, mkT, y0, y1, y2, y3, y4, y5, hd1, hd2])
          · have b2 := beqF h2
            have H2 := Aside0.mk h2
            clear h2
            cases h3 : whiB (sg u 0) with
            | true =>
              have hsl := skipW_lt h3
              have H3 := Aside0.mk h3
              go_wp2_with (first | (go_at_call 30; refine (sgn_r HS.out _ (by omega) (by omega)).mono ?_; rintro e w1 ⟨rfl, hS⟩; clear HS; have HS := Aside0.mk hS; obtain ⟨A, c, hc0, hc1, hfz, hr⟩ := hS.c0; clear hS hr) | (go_at_call 45; refine (white_r HS.out _).mono ?_; rintro e w1 ⟨rfl, hS⟩; clear HS; have HS := Aside0.mk hS; obtain ⟨A, c, hc0, hc1, hfz, hr⟩ := hS.c0; clear hS hr))
              obtain ⟨wp, HO, rfl⟩ : ∃ wp : World, Aside0 (Rw (w.alloc tokZ) wp g r u) ∧ wp = w1 := ⟨w1, HS, rfl⟩
              clear HS hc0 hc1 hfz h3
              go_loopg [] u.length (fun n wr => ∃ (v : List Int), Aside0 (Rw (w.alloc tokZ) wr g r v) ∧ Aside0 (skipW v = skipW u) ∧ v.length ≤ n)
              case atStart => exact ⟨u, HO, ⟨rfl⟩, Nat.le_refl _⟩
              case round =>
                obtain ⟨v, HR, HV, hv⟩ := hrel
                clear HO
                have HS := HR
                clear HR htl
                have htl := HS.out.len
                cases h4 : whiB (sg v 0) with
                | true =>
                  have HN3 := Aside0.mk (whiB_ne h4)
                  have hlt3 := tail_lt (whiB_ne h4)
                  have HV2 := Aside0.mk ((skipW_yes h4).symm.trans HV.out)
                  go_wp2_with (first | (go_at_call 30; refine (sgn_r HS.out _ (by omega) (by omega)).mono ?_; rintro e w1 ⟨rfl, hS⟩; clear HS; have HS := Aside0.mk hS; obtain ⟨A, c, hc0, hc1, hfz, hr⟩ := hS.c0; clear hS hr) | (go_at_call 45; refine (white_r HS.out _).mono ?_; rintro e w1 ⟨rfl, hS⟩; clear HS; have HS := Aside0.mk hS; obtain ⟨A, c, hc0, hc1, hfz, hr⟩ := hS.c0; clear hS hr))
                  have HT := Aside0.mk (HS.out.tail HN3.out rfl)
                  go_roundg v.tail.length
                  case rel => exact ⟨_, HT, HV2, by omega⟩
                  case measure => omega
                | false =>
                  have hsv : skipW u = v := HV.out.symm.trans (skipW_no h4)
                  have HSV := Aside0.mk hsv
                  have hvl : v.length < u.length := by rw [← hsv]; exact hsl
                  clear hsv hsl hv HV
                  by_cases h5 : sg v 0 < 0 ∨ sg v 0 = 41
                  · have HE2 := Aside0.mk ((urlP_w1 gm s (by have := H1.out; omega) H2.out H3.out (by rw [HSV.out]; exact h5)).symm.trans HE.out)
                    rw [HSV.out] at HE2
                    rcases h5 with h5 | h5
                    · have b5 := beqF (show ¬ sg v 0 = 41 by omega)
                      go_wp2_with (first | (go_at_call 30; refine (sgn_r HS.out _ (by omega) (by omega)).mono ?_; rintro e w1 ⟨rfl, hS⟩; clear HS; have HS := Aside0.mk hS; obtain ⟨A, c, hc0, hc1, hfz, hr⟩ := hS.c0; clear hS hr) | (go_at_call 45; refine (white_r HS.out _).mono ?_; rintro e w1 ⟨rfl, hS⟩; clear HS; have HS := Aside0.mk hS; obtain ⟨A, c, hc0, hc1, hfz, hr⟩ := hS.c0; clear hS hr))
                      go_roundg gm
                      case rel => exact ⟨_, _, rfl, HS, HE2, by omega, by omega⟩
                      case measure => omega
                    · have b5 := beqT h5
                      have n5 : ¬ sg v 0 < 0 := by omega
                      clear h5
                      go_wp2_with (first | (go_at_call 30; refine (sgn_r HS.out _ (by omega) (by omega)).mono ?_; rintro e w1 ⟨rfl, hS⟩; clear HS; have HS := Aside0.mk hS; obtain ⟨A, c, hc0, hc1, hfz, hr⟩ := hS.c0; clear hS hr) | (go_at_call 45; refine (white_r HS.out _).mono ?_; rintro e w1 ⟨rfl, hS⟩; clear HS; have HS := Aside0.mk hS; obtain ⟨A, c, hc0, hc1, hfz, hr⟩ := hS.c0; clear hS hr))
                      go_roundg gm
                      case rel => exact ⟨_, _, rfl, HS, HE2, by omega, by omega⟩
                      case measure => omega
                  · have HQ := Aside0.mk (HE.out.symm.trans (urlP_w2 gm s (by have := H1.out; omega) H2.out H3.out (by rw [HSV.out]; exact h5)))
                    rw [HSV.out] at HQ
                    have b5 := beqF (show ¬ sg v 0 = 41 by omega)
                    have n5 : ¬ sg v 0 < 0 := by omega
                    clear h5
                    go_wp2_with (first | (go_at_call 30; refine (sgn_r HS.out _ (by omega) (by omega)).mono ?_; rintro e w1 ⟨rfl, hS⟩; clear HS; have HS := Aside0.mk hS; obtain ⟨A, c, hc0, hc1, hfz, hr⟩ := hS.c0; clear hS hr) | (go_at_call 45; refine (white_r HS.out _).mono ?_; rintro e w1 ⟨rfl, hS⟩; clear HS; have HS := Aside0.mk hS; obtain ⟨A, c, hc0, hc1, hfz, hr⟩ := hS.c0; clear hS hr) | (go_at_call 84; refine (badURL_a HS.out).mono ?_; rintro e w1 ⟨rfl, hS⟩; clear HS; have HS := Aside0.mk hS; obtain ⟨A, c, hc0, hc1, hfz, hr⟩ := hS.c0; clear hS hr; obtain ⟨y0, y1, y2, y3, y4, y5, z0, z1, z2, z3, z4, z5⟩ := res6 HS.out HL.out))
                    rw [HQ.out]
                    (refine bodyPost_ret (v := tokV (mkT 8 ⟨#[]⟩)) ?_ rfl ⟨rfl, (Rw.far (p := ⟨w.heap.size, 5, none⟩) (Rw.far (p := ⟨w.heap.size, 4, none⟩) (Rw.far (p := ⟨w.heap.size, 3, none⟩) (Rw.far (p := ⟨w.heap.size, 2, none⟩) (Rw.far (p := ⟨w.heap.size, 1, none⟩) (Rw.far (p := ⟨w.heap.size, 0, none⟩) (Rw.trans (H0.out.alloc tokZ) (HS.out)) HL.out HG.out _) HL.out HG.out _) HL.out HG.out _) HL.out HG.out _) HL.out HG.out _) HL.out HG.out _)⟩; simp [results, Tryd.results73, go_sem, tokV, mkT, y0, y1, y2, y3, y4, y5, hd1, hd2])
            | false =>
              have H3 := Aside0.mk h3
              cases h4 : badC (sg u 0) with
              | true =>
                have HQ := Aside0.mk (HE.out.symm.trans (urlP_bad gm s H1.out H2.out h3 h4))
                go_wp2_with (first | (go_at_call 30; refine (sgn_r HS.out _ (by omega) (by omega)).mono ?_; rintro e w1 ⟨rfl, hS⟩; clear HS; have HS := Aside0.mk hS; obtain ⟨A, c, hc0, hc1, hfz, hr⟩ := hS.c0; clear hS hr) | (go_at_call 45; refine (white_r HS.out _).mono ?_; rintro e w1 ⟨rfl, hS⟩; clear HS; have HS := Aside0.mk hS; obtain ⟨A, c, hc0, hc1, hfz, hr⟩ := hS.c0; clear hS hr) | (go_at_call 85; refine (bad_r HS.out _).mono ?_; rintro e w1 ⟨rfl, hS⟩; clear HS; have HS := Aside0.mk hS; obtain ⟨A, c, hc0, hc1, hfz, hr⟩ := hS.c0; clear hS hr) | (go_at_call 84; refine (badURL_a HS.out).mono ?_; rintro e w1 ⟨rfl, hS⟩; clear HS; have HS := Aside0.mk hS; obtain ⟨A, c, hc0, hc1, hfz, hr⟩ := hS.c0; clear hS hr; obtain ⟨y0, y1, y2, y3, y4, y5, z0, z1, z2, z3, z4, z5⟩ := res6 HS.out HL.out))
                rw [HQ.out]
                (refine bodyPost_ret (v := tokV (mkT 8 ⟨#[]⟩)) ?_ rfl ⟨rfl, (Rw.far (p := ⟨w.heap.size, 5, none⟩) (Rw.far (p := ⟨w.heap.size, 4, none⟩) (Rw.far (p := ⟨w.heap.size, 3, none⟩) (Rw.far (p := ⟨w.heap.size, 2, none⟩) (Rw.far (p := ⟨w.heap.size, 1, none⟩) (Rw.far (p := ⟨w.heap.size, 0, none⟩) (Rw.trans (H0.out.alloc tokZ) (HS.out)) HL.out HG.out _) HL.out HG.out _) HL.out HG.out _) HL.out HG.out _) HL.out HG.out _) HL.out HG.out _)⟩; simp [results, Tryd.results73, go_sem, tokV, mkT, y0, y1, y2, y3, y4, y5, hd1, hd2])
              | false =>
                have H4 := Aside0.mk h4
                by_cases h5 : sg u 0 = 92
                · have b5 := beqT h5
                  have H5 := Aside0.mk h5
                  clear h5
                  cases h6 : escB u 0 with
                  | true =>
                    have hen := encode_le (escP u.tail).1
                    have hsf := (escP_suf u.tail).length_le
                    have HZ := Aside0.mk (size_app s (Utf8.encode (escP u.tail).1))
                    have HE2 := Aside0.mk ((urlP_esc gm s H1.out H2.out h3 h4 H5.out h6).symm.trans HE.out)
                    go_wp2_with (first | (go_at_call 30; refine (sgn_r HS.out _ (by omega) (by omega)).mono ?_; rintro e w1 ⟨rfl, hS⟩; clear HS; have HS := Aside0.mk hS; obtain ⟨A, c, hc0, hc1, hfz, hr⟩ := hS.c0; clear hS hr) | (go_at_call 45; refine (white_r HS.out _).mono ?_; rintro e w1 ⟨rfl, hS⟩; clear HS; have HS := Aside0.mk hS; obtain ⟨A, c, hc0, hc1, hfz, hr⟩ := hS.c0; clear hS hr) | (go_at_call 85; refine (bad_r HS.out _).mono ?_; rintro e w1 ⟨rfl, hS⟩; clear HS; have HS := Aside0.mk hS; obtain ⟨A, c, hc0, hc1, hfz, hr⟩ := hS.c0; clear hS hr) | (go_at_call 48; refine (escape_r HS.out _ (by omega) (by omega)).mono ?_; rintro e w1 ⟨rfl, hS⟩; clear HS; have HS := Aside0.mk hS; obtain ⟨A, c, hc0, hc1, hfz, hr⟩ := hS.c0; clear hS hr) | (go_at_call 70; refine (escaped_r (HS.out.tail HN.out (by omega))).mono ?_; rintro e w1 ⟨rfl, hS⟩; clear HS; have HS := Aside0.mk hS; obtain ⟨A, c, hc0, hc1, hfz, hr⟩ := hS.c0; clear hS hr) | (go_at_call 44; refine (put_r HS.out _).mono ?_; rintro e w1 ⟨rfl, hS⟩; clear HS; have HS := Aside0.mk hS; obtain ⟨A, c, hc0, hc1, hfz, hr⟩ := hS.c0; clear hS hr))
                    have := HZ.out
                    go_roundg gm
                    case rel => exact ⟨_, _, rfl, HS, HE2, by omega, by omega⟩
                    case measure => omega
                  | false =>
                    have HQ := Aside0.mk (HE.out.symm.trans (urlP_nesc gm s H1.out H2.out h3 h4 H5.out h6))
                    go_wp2_with (first | (go_at_call 30; refine (sgn_r HS.out _ (by omega) (by omega)).mono ?_; rintro e w1 ⟨rfl, hS⟩; clear HS; have HS := Aside0.mk hS; obtain ⟨A, c, hc0, hc1, hfz, hr⟩ := hS.c0; clear hS hr) | (go_at_call 45; refine (white_r HS.out _).mono ?_; rintro e w1 ⟨rfl, hS⟩; clear HS; have HS := Aside0.mk hS; obtain ⟨A, c, hc0, hc1, hfz, hr⟩ := hS.c0; clear hS hr) | (go_at_call 85; refine (bad_r HS.out _).mono ?_; rintro e w1 ⟨rfl, hS⟩; clear HS; have HS := Aside0.mk hS; obtain ⟨A, c, hc0, hc1, hfz, hr⟩ := hS.c0; clear hS hr) | (go_at_call 48; refine (escape_r HS.out _ (by omega) (by omega)).mono ?_; rintro e w1 ⟨rfl, hS⟩; clear HS; have HS := Aside0.mk hS; obtain ⟨A, c, hc0, hc1, hfz, hr⟩ := hS.c0; clear hS hr) | (go_at_call 84; refine (badURL_a HS.out).mono ?_; rintro e w1 ⟨rfl, hS⟩; clear HS; have HS := Aside0.mk hS; obtain ⟨A, c, hc0, hc1, hfz, hr⟩ := hS.c0; clear hS hr; obtain ⟨y0, y1, y2, y3, y4, y5, z0, z1, z2, z3, z4, z5⟩ := res6 HS.out HL.out))
                    rw [HQ.out]
                    (refine bodyPost_ret (v := tokV (mkT 8 ⟨#[]⟩)) ?_ rfl ⟨rfl, (Rw.far (p := ⟨w.heap.size, 5, none⟩) (Rw.far (p := ⟨w.heap.size, 4, none⟩) (Rw.far (p := ⟨w.heap.size, 3, none⟩) (Rw.far (p := ⟨w.heap.size, 2, none⟩) (Rw.far (p := ⟨w.heap.size, 1, none⟩) (Rw.far (p := ⟨w.heap.size, 0, none⟩) (Rw.trans (H0.out.alloc tokZ) (HS.out)) HL.out HG.out _) HL.out HG.out _) HL.out HG.out _) HL.out HG.out _) HL.out HG.out _) HL.out HG.out _)⟩; simp [results, Tryd.results73, go_sem, tokV, mkT, y0, y1, y2, y3, y4, y5, hd1, hd2])
                · have b5 := beqF h5
                  have hen := encode_le (sg u 0)
                  have HZ := Aside0.mk (size_app s (Utf8.encode (sg u 0)))
                  have HE2 := Aside0.mk ((urlP_go gm s H1.out H2.out h3 h4 h5).symm.trans HE.out)
                  clear h5
                  go_wp2_with (first | (go_at_call 30; refine (sgn_r HS.out _ (by omega) (by omega)).mono ?_; rintro e w1 ⟨rfl, hS⟩; clear HS; have HS := Aside0.mk hS; obtain ⟨A, c, hc0, hc1, hfz, hr⟩ := hS.c0; clear hS hr) | (go_at_call 45; refine (white_r HS.out _).mono ?_; rintro e w1 ⟨rfl, hS⟩; clear HS; have HS := Aside0.mk hS; obtain ⟨A, c, hc0, hc1, hfz, hr⟩ := hS.c0; clear hS hr) | (go_at_call 85; refine (bad_r HS.out _).mono ?_; rintro e w1 ⟨rfl, hS⟩; clear HS; have HS := Aside0.mk hS; obtain ⟨A, c, hc0, hc1, hfz, hr⟩ := hS.c0; clear hS hr) | (go_at_call 44; refine (put_r HS.out _).mono ?_; rintro e w1 ⟨rfl, hS⟩; clear HS; have HS := Aside0.mk hS; obtain ⟨A, c, hc0, hc1, hfz, hr⟩ := hS.c0; clear hS hr))
                  have HT := Aside0.mk (HS.out.tail HN.out rfl)
                  have := HZ.out
                  go_roundg gm
                  case rel => exact ⟨_, _, rfl, HT, HE2, by omega, by omega⟩
                  case measure => omega

theorem Rw.kept {ws w : World} {g : Nat} {r l : List Int} (h : Rw ws w g r l) {b : Nat} {o : Obj} (hb : ws.heap[b]? = some o) (hne : b ≠ g) : w.heap[b]? = some o :=
  (h.keep.2 b (Array.getElem?_eq_some_iff.1 hb).1 hne (by simp)).trans hb
theorem blk6 {w : World} {b : Nat} {v0 v1 v2 v3 v4 v5 : Value} {T : TypeId} (hb : w.heap[b]? = some (.cells #[v0, v1, v2, v3, v4, v5] T (0, 0))) :
    (w.cell? ⟨b, 0, none⟩ = some v0 ∧ w.cell? ⟨b, 1, none⟩ = some v1 ∧ w.cell? ⟨b, 2, none⟩ = some v2 ∧ w.cell? ⟨b, 3, none⟩ = some v3 ∧ w.cell? ⟨b, 4, none⟩ = some v4 ∧ w.cell? ⟨b, 5, none⟩ = some v5) ∧
    (w.frozen? ⟨b, 0, none⟩ = false ∧ w.frozen? ⟨b, 1, none⟩ = false ∧ w.frozen? ⟨b, 2, none⟩ = false ∧ w.frozen? ⟨b, 3, none⟩ = false ∧ w.frozen? ⟨b, 4, none⟩ = false ∧ w.frozen? ⟨b, 5, none⟩ = false) :=
  ⟨⟨(blk_cell hb 0).trans rfl, (blk_cell hb 1).trans rfl, (blk_cell hb 2).trans rfl, (blk_cell hb 3).trans rfl, (blk_cell hb 4).trans rfl, (blk_cell hb 5).trans rfl⟩, blk_frozen hb 0, blk_frozen hb 1, blk_frozen hb 2, blk_frozen hb 3, blk_frozen hb 4, blk_frozen hb 5⟩
set_option maxHeartbeats 8000000 in
set_option maxRecDepth 100000 in
theorem delim_r {ws w : World} {g : Nat} {r l : List Int} (H : Rw ws w g r l) (hne : sg l 0 ≠ -1) :
    Calls Tryd.prog 55 #[.pointer (some ⟨g, 0, none⟩)] w fun e w' => e = .returned (tokV (mkT 9 (Utf8.encode (sg l 0)))) ∧ Rw ws w' g r l.tail := by
  have H0 := Aside0.mk H
  have HN := Aside0.mk hne
  have HS := Aside0.mk (H.alloc tokZ).self
  have HL := Aside0.mk H.lt
  have HG := Aside0.mk H.keep.1
  have hd1 : ¬ w.heap.size = g := by have := H.lt; omega
  have hd2 : ¬ g = w.heap.size := by have := H.lt; omega
  have hsz := H.size
  have hln := H.len
  have hu := Tryd.underlying49
  clear H hne
  unfold tokZ at HS
  go_enter Tryd.func55, Tryd.ntmps55
  go_upto_region 2 with (first | (go_at_call 30; refine (sgn_r HS.out _ (by omega) (by omega)).mono ?_; rintro e w1 ⟨rfl, hS⟩; clear HS; have HS := Aside0.mk hS; obtain ⟨A, c, hc0, hc1, hfz, hr⟩ := hS.c0; clear hS hr; obtain ⟨y0, y1, y2, y3, y4, y5, z0, z1, z2, z3, z4, z5⟩ := res6 HS.out HL.out) | (go_at_call 44; refine (put_r HS.out _).mono ?_; rintro e w1 ⟨rfl, hS⟩; clear HS; have HS := Aside0.mk hS; obtain ⟨A, c, hc0, hc1, hfz, hr⟩ := hS.c0; clear hS hr; obtain ⟨y0, y1, y2, y3, y4, y5, z0, z1, z2, z3, z4, z5⟩ := res6 HS.out HL.out))
  have hq : w.heap.size < w1.heap.size := by have := HS.out.keep.1; simp at this; omega
  have hd3 : ¬ w1.heap.size = g := by have := HL.out; omega
  have hd4 : ¬ g = w1.heap.size := by have := HL.out; omega
  have hd5 : ¬ w1.heap.size = w.heap.size := by omega
  have hd6 : ¬ w.heap.size = w1.heap.size := by omega
  have hg1 := HS.out.lt
  go_wp2
  (refine bodyPost_ret (v := tokV (mkT 9 (Utf8.encode (sg l 0)))) ?_ rfl ⟨rfl, ((Rw.far (p := ⟨w.heap.size, 5, none⟩) (Rw.far (p := ⟨w.heap.size, 4, none⟩) (Rw.far (p := ⟨w.heap.size, 3, none⟩) (Rw.far (p := ⟨w.heap.size, 2, none⟩) (Rw.far (p := ⟨w.heap.size, 1, none⟩) (Rw.far (p := ⟨w.heap.size, 0, none⟩) (Rw.trans (H0.out.alloc tokZ) (HS.out.tail HN.out (by omega))) HL.out HG.out _) HL.out HG.out _) HL.out HG.out _) HL.out HG.out _) HL.out HG.out _) HL.out HG.out _).alloc _)⟩; simp [results, Tryd.results55, go_sem, tokV, mkT, y0, y1, y2, y3, y4, y5, hd1, hd2, hq, hd3, hd4, hd5, hd6])

end Go.Proofs.YtgdolholioccdaaDoor.PX
