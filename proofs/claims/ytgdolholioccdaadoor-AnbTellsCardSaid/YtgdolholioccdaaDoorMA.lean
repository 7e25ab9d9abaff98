/-
  Contracts of the functions that the law reaches, and what they compute, on lists (part A). No condition.
-/
import Derived.Test.YtgdolholioccdaaDoorProg
import Derived.Below
import Derived.Deep.Draws
import Derived.Deep.AppendLies
import Derived.Maps.AppendAt
import Derived.OwnWalk
import Derived.Laws.BytesArg
import Derived.Laws.MakeOwn
import Derived.Laws.OwnMore
import Derived.Deep.OwnRows
import Derived.Tactics
import Derived.Lib.ConvBytes
import Derived.Laws.Slices
import Derived.WalkKit
import Derived.KernelRfl
import Derived.RowKit3
import Derived.Deep.LoopGhost
import Derived.Deep.QuietTactic
import Derived.BigQuiet
import Derived.WideLaws
import Derived.Deep.DeepCutAuto
import Derived.Deep.CutBlock
import Derived.Deep.RegionHeld3
import Derived.Laws.Rows
import Derived.Lib.AppendStr
import Derived.ArgAppend
import Derived.Laws.IdiomCopy
import Derived.OrdersHeld
import Derived.Laws.BitsLemmas
import Derived.RowKit
import Derived.Laws.Cover4
import Derived.Test.YtgdolholioccdaaDoorWWords
import Derived.Test.YtgdolholioccdaaDoorWLast
import Derived.Test.YtgdolholioccdaaDoorWQPut
import Derived.Test.YtgdolholioccdaaDoorWApart
import Derived.Test.YtgdolholioccdaaDoorWArr
import Derived.Test.YtgdolholioccdaaDoorWZeros
import Derived.Test.YtgdolholioccdaaDoorWFoot
import Derived.Test.YtgdolholioccdaaDoorWKept
import Derived.Test.YtgdolholioccdaaDoorWShare
import Derived.Test.YtgdolholioccdaaDoorWN
import Derived.Test.YtgdolholioccdaaDoorWNEv
import Derived.Test.YtgdolholioccdaaDoorWMore
namespace Go.Proofs.YtgdolholioccdaaDoor.PX
open Go.RowKit Go.Proofs.YtgdolholioccdaaDoorW.PrintWords Go.Proofs.YtgdolholioccdaaDoorW.PrintLast Go.Proofs.YtgdolholioccdaaDoorW.PrintMore
attribute [local go_sem] max2_int min2_int max_two min_two max_three min_three max_four min_four   -- for this text's walks alone
set_option linter.unusedVariables false
set_option linter.unusedSimpArgs false
theorem info51 : (Tryd.prog.info? 51).map (fun i => (i.zero, i.size, i.bytes)) = some (some (.agg #[(.int .i64 0), (.string ⟨#[]⟩), (.int .i64 0), (.bool false), (.bool false), (.bool false), (.slice none 0 0)]), 7, 64) := by kernel_rfl
-- the values' own types
/-! #### struct type 49 -/
structure S49 where
  f0 : Int
  f1 : ByteArray
  f2 : Int
  f3 : Bool
  f4 : Bool
  f5 : Bool
def z49 : S49 := ⟨(0 : Int), (⟨#[]⟩ : ByteArray), (0 : Int), false, false, false⟩
def k49 : Kd S49 := Kd.iso (Kd.pair (Kd.int .i64) (Kd.pair Kd.string (Kd.pair (Kd.int .i64) (Kd.pair Kd.bool (Kd.pair Kd.bool Kd.bool))))) (fun x : S49 => (x.f0, x.f1, x.f2, x.f3, x.f4, x.f5))
theorem k49_open {w : World} {x : S49} {cs : List Value} (h : k49.K w x cs) : cs = [.int .i64 x.f0, .string x.f1, .int .i64 x.f2, .bool x.f3, .bool x.f4, .bool x.f5] := by
  obtain ⟨_, _, rfl, rfl, ⟨_, _, rfl, rfl, ⟨_, _, rfl, rfl, ⟨_, _, rfl, rfl, ⟨_, _, rfl, rfl, rfl⟩⟩⟩⟩⟩ := h
  exact rfl
theorem k49_mk (w : World) (x : S49)  : k49.K w x [.int .i64 x.f0, .string x.f1, .int .i64 x.f2, .bool x.f3, .bool x.f4, .bool x.f5] := ⟨[.int .i64 x.f0], [.string x.f1, .int .i64 x.f2, .bool x.f3, .bool x.f4, .bool x.f5], rfl, rfl, ⟨[.string x.f1], [.int .i64 x.f2, .bool x.f3, .bool x.f4, .bool x.f5], rfl, rfl, ⟨[.int .i64 x.f2], [.bool x.f3, .bool x.f4, .bool x.f5], rfl, rfl, ⟨[.bool x.f3], [.bool x.f4, .bool x.f5], rfl, rfl, ⟨[.bool x.f4], [.bool x.f5], rfl, rfl, rfl⟩⟩⟩⟩⟩
theorem k49_mkM (w : World) (base : Nat) (ok : Nat → Prop) (x : S49)  : k49.M w base ok x [.int .i64 x.f0, .string x.f1, .int .i64 x.f2, .bool x.f3, .bool x.f4, .bool x.f5] := ⟨[.int .i64 x.f0], [.string x.f1, .int .i64 x.f2, .bool x.f3, .bool x.f4, .bool x.f5], rfl, rfl, ⟨[.string x.f1], [.int .i64 x.f2, .bool x.f3, .bool x.f4, .bool x.f5], rfl, rfl, ⟨[.int .i64 x.f2], [.bool x.f3, .bool x.f4, .bool x.f5], rfl, rfl, ⟨[.bool x.f3], [.bool x.f4, .bool x.f5], rfl, rfl, ⟨[.bool x.f4], [.bool x.f5], rfl, rfl, rfl⟩⟩⟩⟩⟩
def rd_T49 (xs : List S49) (i : Int) : S49 := xs.getD i.toNat z49
theorem at_T49 {w : World} {A : Option Addr} {n : Nat} {xs : List S49} (h : Kd.C k49 w A n xs) (i : Int) (h0 : 0 ≤ i) (h1 : i < n) : ∃ ad , A = some ad ∧ w.cell? (ad.add (i.toNat * 6)) = some (.int .i64 (rd_T49 xs i).f0) ∧ w.cell? ⟨(ad.add (i.toNat * 6)).block, (ad.add (i.toNat * 6)).off + 1, none⟩ = some (.string (rd_T49 xs i).f1) ∧ w.cell? ⟨(ad.add (i.toNat * 6)).block, (ad.add (i.toNat * 6)).off + 2, none⟩ = some (.int .i64 (rd_T49 xs i).f2) ∧ w.cell? ⟨(ad.add (i.toNat * 6)).block, (ad.add (i.toNat * 6)).off + 3, none⟩ = some (.bool (rd_T49 xs i).f3) ∧ w.cell? ⟨(ad.add (i.toNat * 6)).block, (ad.add (i.toNat * 6)).off + 4, none⟩ = some (.bool (rd_T49 xs i).f4) ∧ w.cell? ⟨(ad.add (i.toNat * 6)).block, (ad.add (i.toNat * 6)).off + 5, none⟩ = some (.bool (rd_T49 xs i).f5) := by
  obtain ⟨ad, c, e, _, hK, hc0⟩ := Kd.C_get h z49 i h0 h1
  have hc : ∀ j u, c[j]? = some u → w.cell? (ad.add (i.toNat * 6 + j)) = some u := hc0
  obtain rfl := k49_open hK
  exact ⟨ad, e, hc 0 _ rfl, by rw [← add_field _ _ 1 (by omega)]; exact hc 1 _ rfl, by rw [← add_field _ _ 2 (by omega)]; exact hc 2 _ rfl, by rw [← add_field _ _ 3 (by omega)]; exact hc 3 _ rfl, by rw [← add_field _ _ 4 (by omega)]; exact hc 4 _ rfl, by rw [← add_field _ _ 5 (by omega)]; exact hc 5 _ rfl⟩

/-! #### struct type 51, nested in itself -/
structure S51 where
  f0 : S49
  f1 : (List S51)
def z51 : S51 := ⟨z49, ([] : List S51)⟩
def F51 (d : Kd S51) : Kd S51 := Kd.iso (Kd.pair k49 (Kd.slice 51 d)) (fun x : S51 => (x.f0, x.f1))
theorem mono51 : Kd.Mono F51 := Kd.mono_iso _ (Kd.mono_pair (Kd.mono_const _) (Kd.mono_slice 51 Kd.mono_id))
theorem sub51 : Kd.Sub F51 [51] := Kd.sub_iso _ (Kd.sub_pair (Kd.sub_const _ (by decide)) (Kd.sub_slice 51 (by decide) Kd.sub_id))
theorem sz51 : ∀ n, (Kd.upto F51 7 [51] n).sz = 7 := Kd.upto_sz (fun _ => rfl)
def k51 : Kd S51 := Kd.fix F51 7 [51] sz51 (Kd.upto_E sub51)
theorem k51_open {w : World} {x : S51} {cs : List Value} (h : k51.K w x cs) : ∃ A6 c6, cs = [.int .i64 x.f0.f0, .string x.f0.f1, .int .i64 x.f0.f2, .bool x.f0.f3, .bool x.f0.f4, .bool x.f0.f5, .slice A6 x.f1.length c6] ∧ x.f1.length ≤ c6 ∧ k51.C w A6 x.f1.length x.f1 := by
  obtain ⟨n, h⟩ := h
  cases n with
  | zero => exact h.elim
  | succ n =>
    obtain ⟨_, _, rfl, s0, ⟨A6, c6, rfl, l6, g6⟩⟩ := h
    obtain rfl := k49_open s0
    exact ⟨A6, c6, rfl, l6, Kd.fix_C g6⟩
theorem k51_mk (w : World) (x : S51) {A6 : Option Addr} {c6 : Nat} (l6 : x.f1.length ≤ c6) (g6 : k51.C w A6 x.f1.length x.f1) : k51.K w x [.int .i64 x.f0.f0, .string x.f0.f1, .int .i64 x.f0.f2, .bool x.f0.f3, .bool x.f0.f4, .bool x.f0.f5, .slice A6 x.f1.length c6] := by
  obtain ⟨n6, q6⟩ := Kd.fix_C_back mono51 g6
  have r6 := Kd.upto_C_le mono51 sz51 (show n6 ≤ n6 by omega) q6
  exact ⟨n6 + 1, ⟨[.int .i64 x.f0.f0, .string x.f0.f1, .int .i64 x.f0.f2, .bool x.f0.f3, .bool x.f0.f4, .bool x.f0.f5], [.slice A6 x.f1.length c6], rfl, (k49_mk w x.f0 ), ⟨A6, c6, rfl, l6, r6⟩⟩⟩
theorem k51_mkM (w : World) (base : Nat) (ok : Nat → Prop) (x : S51) {v6 : Value} (g6 : k51.R 51 w base ok v6 x.f1) : k51.M w base ok x [.int .i64 x.f0.f0, .string x.f0.f1, .int .i64 x.f0.f2, .bool x.f0.f3, .bool x.f0.f4, .bool x.f0.f5, v6] := by
  obtain ⟨n6, q6⟩ := Kd.fix_R_back mono51 g6
  have r6 := Kd.upto_R_le mono51 sz51 (show n6 ≤ n6 by omega) q6
  exact ⟨n6 + 1, ⟨[.int .i64 x.f0.f0, .string x.f0.f1, .int .i64 x.f0.f2, .bool x.f0.f3, .bool x.f0.f4, .bool x.f0.f5], [v6], rfl, (k49_mkM w base ok x.f0 ), ⟨v6, rfl, r6⟩⟩⟩
theorem k51_openF {W : World} {ok : Nat → Prop} {x : S51} {cs : List Value} (h : Kd.FK k51 W ok x cs) : ∃ A6 c6, cs = [.int .i64 x.f0.f0, .string x.f0.f1, .int .i64 x.f0.f2, .bool x.f0.f3, .bool x.f0.f4, .bool x.f0.f5, .slice A6 x.f1.length c6] ∧ x.f1.length ≤ c6 ∧ Kd.F k51 W ok A6 x.f1.length x.f1 := by
  obtain ⟨A6, c6, rfl, l6, _⟩ := k51_open (Kd.FK_now h)
  exact ⟨A6, c6, rfl, l6, (fun W' hW => by obtain ⟨A6_, c6_, he, l6_, g6_⟩ := k51_open (h W' hW); injection (Option.some.inj (show some (Value.slice A6 x.f1.length c6) = some (Value.slice A6_ x.f1.length c6_) from congrArg (fun l => l[6]?) he)) with ha_ _ _; rw [ha_]; exact g6_)⟩
theorem k51_mkF (W : World) (ok : Nat → Prop) (x : S51) {A6 : Option Addr} {c6 : Nat} (l6 : x.f1.length ≤ c6) (g6 : Kd.F k51 W ok A6 x.f1.length x.f1) : Kd.FK k51 W ok x [.int .i64 x.f0.f0, .string x.f0.f1, .int .i64 x.f0.f2, .bool x.f0.f3, .bool x.f0.f4, .bool x.f0.f5, .slice A6 x.f1.length c6] := fun W2 hW => k51_mk W2 x l6 (g6 W2 hW)
def rd_T51 (xs : List S51) (i : Int) : S51 := xs.getD i.toNat z51
theorem at_T51 {w : World} {A : Option Addr} {n : Nat} {xs : List S51} (h : Kd.C k51 w A n xs) (i : Int) (h0 : 0 ≤ i) (h1 : i < n) : ∃ ad A6 c6, A = some ad ∧ w.cell? (ad.add (i.toNat * 7)) = some (.int .i64 (rd_T51 xs i).f0.f0) ∧ w.cell? ⟨(ad.add (i.toNat * 7)).block, (ad.add (i.toNat * 7)).off + 1, none⟩ = some (.string (rd_T51 xs i).f0.f1) ∧ w.cell? ⟨(ad.add (i.toNat * 7)).block, (ad.add (i.toNat * 7)).off + 2, none⟩ = some (.int .i64 (rd_T51 xs i).f0.f2) ∧ w.cell? ⟨(ad.add (i.toNat * 7)).block, (ad.add (i.toNat * 7)).off + 3, none⟩ = some (.bool (rd_T51 xs i).f0.f3) ∧ w.cell? ⟨(ad.add (i.toNat * 7)).block, (ad.add (i.toNat * 7)).off + 4, none⟩ = some (.bool (rd_T51 xs i).f0.f4) ∧ w.cell? ⟨(ad.add (i.toNat * 7)).block, (ad.add (i.toNat * 7)).off + 5, none⟩ = some (.bool (rd_T51 xs i).f0.f5) ∧ w.cell? ⟨(ad.add (i.toNat * 7)).block, (ad.add (i.toNat * 7)).off + 6, none⟩ = some (.slice A6 (rd_T51 xs i).f1.length c6) ∧ (rd_T51 xs i).f1.length ≤ c6 ∧ k51.C w A6 (rd_T51 xs i).f1.length (rd_T51 xs i).f1 := by
  obtain ⟨ad, c, e, _, hK, hc0⟩ := Kd.C_get h z51 i h0 h1
  have hc : ∀ j u, c[j]? = some u → w.cell? (ad.add (i.toNat * 7 + j)) = some u := hc0
  obtain ⟨A6, c6, rfl, l6, g6⟩ := k51_open hK
  exact ⟨ad, A6, c6, e, hc 0 _ rfl, by rw [← add_field _ _ 1 (by omega)]; exact hc 1 _ rfl, by rw [← add_field _ _ 2 (by omega)]; exact hc 2 _ rfl, by rw [← add_field _ _ 3 (by omega)]; exact hc 3 _ rfl, by rw [← add_field _ _ 4 (by omega)]; exact hc 4 _ rfl, by rw [← add_field _ _ 5 (by omega)]; exact hc 5 _ rfl, by rw [← add_field _ _ 6 (by omega)]; exact hc 6 _ rfl, l6, g6⟩

/-! ### fleuronref1_Put: function 44 -/
def fleuronref1_Put.f (a0 : Int) : Option ByteArray := some (Utf8.encode a0)
theorem runesBytes_one (n : Int) : runesBytes [n] = Utf8.encode n := by
  simp [runesBytes, ByteArray.empty_append]
set_option maxRecDepth 100000 in
theorem fleuronref1_Put.calls (a0 : Int) (r : ByteArray) (w : World) (h : fleuronref1_Put.f a0 = some r) :
    Calls Tryd.prog 44 #[.int .i32 a0] w fun e w' => e = .returned (.string r) ∧ Below w.heap.size w w' := by
  obtain rfl : Utf8.encode a0 = r := Option.some.inj h
  clear h
  have hc : ∀ W : World, (convert 41 9 (.slice (some ⟨W.heap.size, 0, none⟩) 1 1)).run Tryd.prog (W.alloc (.cells #[.int .i32 a0] 21)) = .ok (.string (Utf8.encode a0)) (W.alloc (.cells #[.int .i32 a0] 21)) := by
    intro W
    rw [run_convert_runes _ 41 9 21 _ 1 1 [a0] (by simp) Tryd.underlying41 Tryd.underlying21 Tryd.underlying9 (by intro j hj; simp at hj; subst hj; simp [World.cell?, Addr.add, World.alloc, -World.alloc_eq])]
    simp [runesBytes_one]
  go_enter Tryd.func44, Tryd.ntmps44
  go_wp2
  go_ret
  exact ⟨rfl, below_alloc (Below.refl _ _) _⟩


/-! ### fleuronref1_Lower: function 25 -/
def lowB (b : UInt8) : UInt8 := if 65 ≤ b.toNat then (if b.toNat ≤ 90 then UInt8.ofNat (b.toNat + 32) else b) else b
def lowerB (s : ByteArray) : ByteArray := ⟨(s.data.toList.map lowB).toArray⟩
def fleuronref1_Lower.f (a0 : ByteArray) : Option ByteArray := if a0.size ≤ 9223372036854775807 then some (lowerB a0) else none
def byteAt (s : ByteArray) (j : Nat) : Int := (s.data.toList.getD j 0).toNat
def lowAt (s : ByteArray) (j : Nat) : Int := (lowB (s.data.toList.getD j 0)).toNat
def LowRow (s : ByteArray) (g k : Nat) (W : World) : Prop := ∀ j, j < s.size → W.cell? ⟨g, j, none⟩ = some (.int .u8 (if j < k then lowAt s j else byteAt s j)) ∧ W.frozen? ⟨g, j, none⟩ = false
theorem LowRow.start (w : World) (s : ByteArray) (e : TypeId) : LowRow s w.heap.size 0 (Lib.bytesWorld w e s) := by
  intro j hj
  refine ⟨by rw [Lib.bytesWorld_cell w e s j hj]; rfl, ?_⟩
  have hc : j < (Lib.bytesCells w e s).size := by simp only [Lib.bytesCells, Array.size_append, Array.size_map]; have : s.size = s.data.size := rfl; omega
  simp only [World.frozen?, Lib.bytesWorld_at_new]
  simp; omega
theorem LowRow.step {s : ByteArray} {g k : Nat} {W : World} (h : LowRow s g k W) : LowRow s g (k + 1) (W.setCell ⟨g, k, none⟩ (.int .u8 (lowAt s k))) := by
  intro j hj
  refine ⟨?_, by rw [World.frozen?_setCell]; exact (h j hj).2⟩
  rcases Nat.decEq j k with hne | rfl
  · rw [World.cell?_setCell_other _ _ _ _ (by simp <;> omega), (h j hj).1]
    split <;> split <;> first | rfl | omega
  · rw [World.cell?_setCell_same _ _ _ (h j hj).1, if_pos (by omega)]
theorem LowRow.stay {s : ByteArray} {g k : Nat} {W : World} (h : LowRow s g k W) (e : lowAt s k = byteAt s k) : LowRow s g (k + 1) W := by
  intro j hj
  refine ⟨?_, (h j hj).2⟩
  rw [(h j hj).1]
  rcases Nat.decEq j k with hne | rfl
  · split <;> split <;> first | rfl | omega
  · rw [if_neg (by omega), if_pos (by omega), e]
def lowNums (s : ByteArray) : List Int := s.data.toList.map fun b => ((lowB b).toNat : Int)
theorem lowNums_length (s : ByteArray) : (lowNums s).length = s.size := by
  unfold lowNums
  rw [List.length_map, Array.length_toList]
  rfl
theorem lowNums_at (s : ByteArray) (i : Nat) (h : i < s.size) : (lowNums s).getD i 0 = lowAt s i := by
  have h' : i < s.data.toList.length := by simpa using h
  simp [lowNums, lowAt, List.getD_eq_getElem?_getD, List.getElem?_eq_getElem h']
theorem lowNums_str (s : ByteArray) : strOfNums (lowNums s) = lowerB s := by
  unfold strOfNums lowNums lowerB
  rw [List.map_map]
  refine congrArg (fun l : List UInt8 => (⟨l.toArray⟩ : ByteArray)) (List.map_congr_left fun b _ => ?_)
  show UInt8.ofNat ((lowB b).toNat : Int).toNat = lowB b
  rw [Int.toNat_natCast, UInt8.ofNat_toNat]
theorem bytesWorld_below (w : World) (e : TypeId) (s : ByteArray) : Below w.heap.size w (Lib.bytesWorld w e s) :=
  ⟨rfl, rfl, rfl, by rw [Lib.bytesWorld_size]; omega, fun k hk => Lib.bytesWorld_at_old w e s k hk⟩
theorem lowAt_hi (s : ByteArray) (j : Nat) (h : 65 ≤ byteAt s j) (h' : byteAt s j ≤ 90) : lowAt s j = byteAt s j + 32 := by
  unfold lowAt lowB byteAt at *
  rw [if_pos (by omega), if_pos (by omega)]
  generalize s.data.toList.getD j 0 = b at *
  simp; omega
theorem lowAt_same (s : ByteArray) (j : Nat) (h : byteAt s j < 65 ∨ 90 < byteAt s j) : lowAt s j = byteAt s j := by
  unfold lowAt lowB byteAt at *
  split
  · rw [if_neg (by omega)]
  · rfl
theorem byteAt_range (s : ByteArray) (j : Nat) : 0 ≤ byteAt s j ∧ byteAt s j ≤ 255 := by
  unfold byteAt
  have := (s.data.toList.getD j 0).toNat_lt
  omega
set_option maxHeartbeats 1000000 in
set_option maxRecDepth 100000 in
theorem fleuronref1_Lower.calls (a0 : ByteArray) (r : ByteArray) (w : World) (h : fleuronref1_Lower.f a0 = some r) :
    Calls Tryd.prog 25 #[.string a0] w fun e w' => e = .returned (.string r) ∧ Below w.heap.size w w' := by
  unfold fleuronref1_Lower.f at h
  split at h
  case isFalse => simp at h
  rename_i hs
  obtain rfl : lowerB a0 = r := Option.some.inj h
  clear h
  have hconv : ∀ W : World, (convert 9 43 (.string a0)).run Tryd.prog W = _ := fun W => Lib.run_convert_string_bytes W 9 43 5 a0 Tryd.underlying9 Tryd.underlying43 Tryd.underlying5
  have HB := Aside0.mk (bytesWorld_below w 5 a0)
  have HR := Aside0.mk (LowRow.start w a0 5)
  go_enter Tryd.func25, Tryd.ntmps25
  go_wp2
  go_loopw [4] (fun i wr => ∃ k : Nat, k ≤ a0.size ∧ i = .int .i64 k ∧ Aside0 (LowRow a0 w.heap.size k wr) ∧ Aside0 (Below w.heap.size w wr)) (fun i _ => a0.size - (intOf i).toNat)
  case atStart => exact ⟨0, Nat.zero_le _, rfl, HR, HB⟩
  case round =>
    obtain ⟨k, hk, rfl, HK, HW⟩ := hrel
    clear HR HB
    by_cases hlt : k < a0.size
    · have hcell : wr.cell? ⟨w.heap.size, k, none⟩ = some (.int .u8 (byteAt a0 k)) := by rw [(HK.out k hlt).1, if_neg (by omega)]
      have hfz := (HK.out k hlt).2
      have hr := byteAt_range a0 k
      have HS := Aside0.mk (HK.out.step)
      have HN := Aside0.mk (HK.out.stay)
      by_cases h1 : 65 ≤ byteAt a0 k ∧ byteAt a0 k ≤ 90
      · obtain ⟨h1, h2⟩ := h1
        have hl := lowAt_hi a0 k h1 h2
        have HL := Aside0.mk hl
        clear hl
        go_wp2
        go_roundw
        case rel => exact ⟨k + 1, by omega, by go_num, ⟨by rw [← HL.out]; exact HS.out⟩, ⟨HW.out.setCell (Nat.le_refl _) _⟩⟩
        case measure => simp [intOf]; omega
      · have HL := Aside0.mk (lowAt_same a0 k (by omega))
        by_cases h2 : 65 ≤ byteAt a0 k
        · have h3 : ¬ byteAt a0 k ≤ 90 := by omega
          clear h1
          go_wp2
          go_roundw
          case rel => exact ⟨k + 1, by omega, by go_num, ⟨HN.out HL.out⟩, HW⟩
          case measure => simp [intOf]; omega
        · clear h1
          go_wp2
          go_roundw
          case rel => exact ⟨k + 1, by omega, by go_num, ⟨HN.out HL.out⟩, HW⟩
          case measure => simp [intOf]; omega
    · obtain rfl : k = a0.size := by omega
      have hback := run_convert_bytes_arg (P := Tryd.prog) wr 43 5 Tryd.underlying43 Tryd.underlying5 w.heap.size 0 a0.size (grownCap w a0.size 0 5) (lowNums a0) (lowNums_length a0) (by intro i hi; rw [Nat.zero_add, (HK.out i hi).1, if_pos hi, lowNums_at a0 i hi]) 9 Tryd.underlying9
      rw [lowNums_str] at hback
      go_wp2
      go_ret
      exact ⟨rfl, HW.out⟩


/-! ### fleuronref1_White: function 45 -/
def fleuronref1_White.f (a0 : Int) : Option (Bool) := if a0 = 10 then (some true) else (if a0 = 9 then (some true) else (some (a0 == 32)))
set_option maxHeartbeats 8000000 in
set_option maxRecDepth 100000 in
theorem fleuronref1_White.calls (a0 : Int) (r : Bool) (w : World) (h : fleuronref1_White.f a0 = some r) :
    Calls Tryd.prog 45 #[.int .i32 a0] w fun e w' => e = .returned (.bool r) ∧ Drawn0 w w' := by
  have H : (if a0 = 10 then (some true) else (if a0 = 9 then (some true) else (some (a0 == 32)))) = some r := h
  clear h
  by_cases c2 : a0 = 10
  · rw [if_pos c2] at H
    have c2b0 : (a0 == 10) = true := beq_iff_eq.mpr c2
    have c2b1 : (a0 != 10) = false := bne_eq_false_iff_eq.mpr c2
    clear c2
    obtain rfl := Option.some.inj H
    go_enter Tryd.func45, Tryd.ntmps45
    go_wp2
    go_ret
    exact ⟨by first | rfl | (simp; done) | (simp [*]; done), by repeat (first | exact Drawn0.refl _ | apply Drawn0.step)⟩
  · rw [if_neg c2] at H
    have c2b0 : (a0 == 10) = false := beq_eq_false_iff_ne.mpr c2
    have c2b1 : (a0 != 10) = true := bne_iff_ne.mpr c2
    by_cases c3 : a0 = 9
    · rw [if_pos c3] at H
      have c3b0 : (a0 == 9) = true := beq_iff_eq.mpr c3
      have c3b1 : (a0 != 9) = false := bne_eq_false_iff_eq.mpr c3
      clear c3
      obtain rfl := Option.some.inj H
      go_enter Tryd.func45, Tryd.ntmps45
      go_wp2
      go_ret
      exact ⟨by first | rfl | (simp; done) | (simp [*]; done), by repeat (first | exact Drawn0.refl _ | apply Drawn0.step)⟩
    · rw [if_neg c3] at H
      have c3b0 : (a0 == 9) = false := beq_eq_false_iff_ne.mpr c3
      have c3b1 : (a0 != 9) = true := bne_iff_ne.mpr c3
      obtain rfl := Option.some.inj H
      go_enter Tryd.func45, Tryd.ntmps45
      go_wp2
      go_ret
      exact ⟨by first | rfl | (simp; done) | (simp [*]; done), by repeat (first | exact Drawn0.refl _ | apply Drawn0.step)⟩

/-! ### fleuronref1_Hex: function 83 -/
mutual
def fleuronref1_Hex.j0 : Nat → Int → Bool → Option (Int × Bool)
  | 0, _, _ => none
  | k + 1, x0, x4 => if x4 = true then (some (wrap64 (wrap32 (x0 - 48)), true)) else (if x0 ≥ 97 then (fleuronref1_Hex.j1 k x0 (decide (x0 ≤ 102))) else (fleuronref1_Hex.j1 k x0 false))
def fleuronref1_Hex.j1 : Nat → Int → Bool → Option (Int × Bool)
  | 0, _, _ => none
  | k + 1, x0, x14 => if x14 = true then (some (wrap64 ((wrap64 (wrap32 (x0 - 97))) + 10), true)) else (if x0 ≥ 65 then (if x0 ≤ 70 then (some (wrap64 ((wrap64 (wrap32 (x0 - 65))) + 10), true)) else (some (0, false))) else (some (0, false)))
end
def fleuronref1_Hex.f (k : Nat) (a0 : Int) : Option (Int × Bool) := if a0 ≥ 48 then (fleuronref1_Hex.j0 k a0 (decide (a0 ≤ 57))) else (fleuronref1_Hex.j0 k a0 false)
set_option maxHeartbeats 8000000 in
set_option maxRecDepth 100000 in
theorem fleuronref1_Hex.calls (k : Nat) (a0 : Int) (r1 : Int) (r2 : Bool) (w : World) (h : fleuronref1_Hex.f k a0 = some (r1, r2)) :
    Calls Tryd.prog 83 #[.int .i32 a0] w fun e w' => e = .returned (.tuple #[.int .i64 r1, .bool r2]) ∧ Drawn0 w w' := by
  have H : (if a0 ≥ 48 then (fleuronref1_Hex.j0 k a0 (decide (a0 ≤ 57))) else (fleuronref1_Hex.j0 k a0 false)) = some (r1, r2) := h
  clear h
  have HC2 := Aside0.mk H
  clear H
  go_enter Tryd.func83, Tryd.ntmps83
  go_upto_region 1 with (fail)
  go_cut [4] (fun v4 wc => ∃ (kq : Nat) (x4_1 : Bool), v4 = .bool x4_1 ∧ Aside0 (fleuronref1_Hex.j0 kq a0 x4_1 = some (r1, r2)) ∧ Aside0 (kq ≤ k) ∧ Drawn0 w wc)
  case first =>
    have H := HC2.out
    clear HC2
    by_cases c3 : a0 ≥ 48
    · rw [if_pos c3] at H
      have c3b0 : decide (48 ≤ a0) = true := decide_eq_true c3
      clear c3
      (first | rw [c3b0] | (simp only [i64_w, i32_w]; rw [c3b0]) | skip)
      have H' := Aside0.mk H
      clear H
      go_wp2
      go_meet
      case rel => exact ⟨_, (decide (a0 ≤ 57)), (by first | rfl | (simp; done) | (simp [*]; done)), H', ⟨by first | omega | exact Nat.le_refl _⟩, by repeat (first | exact Drawn0.refl _ | apply Drawn0.step)⟩
    · rw [if_neg c3] at H
      have c3b0 : decide (48 ≤ a0) = false := decide_eq_false c3
      clear c3
      (first | rw [c3b0] | (simp only [i64_w, i32_w]; rw [c3b0]) | skip)
      have H' := Aside0.mk H
      clear H
      go_wp2
      go_meet
      case rel => exact ⟨_, (false), (by first | rfl | (simp; done) | (simp [*]; done)), H', ⟨by first | omega | exact Nat.le_refl _⟩, by repeat (first | exact Drawn0.refl _ | apply Drawn0.step)⟩
  case rest =>
    clear HC2
    try clear p2
    try clear c3
    try clear c3b0
    obtain ⟨kq, x4_1, rfl, HA, HJ1, ⟨mc1, rfl⟩⟩ := hcut
    cases kq with
    | zero => exact absurd HA.out (by simp [fleuronref1_Hex.j0])
    | succ kj1 =>
      have H := HA.out
      clear HA
      simp only [fleuronref1_Hex.j0] at H
      by_cases c4 : x4_1 = true
      · subst c4
        have H1 : (some (wrap64 (wrap32 (a0 - 48)), true)) = some (r1, r2) := by rw [if_pos rfl] at H; exact H
        clear H
        have H := H1
        clear H1
        simp only [Option.some.injEq, Prod.mk.injEq] at H
        obtain ⟨rfl, rfl⟩ := H
        go_wp2
        go_ret2
        exact ⟨by first | rfl | (simp; done) | (simp [*]; done), by repeat (first | exact Drawn0.refl _ | apply Drawn0.step)⟩
      · replace c4 := Bool.eq_false_iff.mpr c4
        subst c4
        have H1 : (if a0 ≥ 97 then (fleuronref1_Hex.j1 kj1 a0 (decide (a0 ≤ 102))) else (fleuronref1_Hex.j1 kj1 a0 false)) = some (r1, r2) := by rw [if_neg (show ¬ (false = true) by decide)] at H; exact H
        clear H
        have H := H1
        clear H1
        have HC5 := Aside0.mk H
        clear H
        go_upto_region 3 with (fail)
        go_cut [14] (fun v14 wc => ∃ (kq : Nat) (x14_4 : Bool), v14 = .bool x14_4 ∧ Aside0 (fleuronref1_Hex.j1 kq a0 x14_4 = some (r1, r2)) ∧ Aside0 (kq ≤ kj1) ∧ Drawn0 w wc)
        case first =>
          have H := HC5.out
          clear HC5
          by_cases c6 : a0 ≥ 97
          · rw [if_pos c6] at H
            have c6b0 : decide (97 ≤ a0) = true := decide_eq_true c6
            clear c6
            (first | rw [c6b0] | (simp only [i64_w, i32_w]; rw [c6b0]) | skip)
            have H' := Aside0.mk H
            clear H
            go_wp2
            go_meet
            case rel => exact ⟨_, (decide (a0 ≤ 102)), (by first | rfl | (simp; done) | (simp [*]; done)), H', ⟨by have := HJ1.out; first | omega | exact Nat.le_refl _⟩, by repeat (first | exact Drawn0.refl _ | apply Drawn0.step)⟩
          · rw [if_neg c6] at H
            have c6b0 : decide (97 ≤ a0) = false := decide_eq_false c6
            clear c6
            (first | rw [c6b0] | (simp only [i64_w, i32_w]; rw [c6b0]) | skip)
            have H' := Aside0.mk H
            clear H
            go_wp2
            go_meet
            case rel => exact ⟨_, (false), (by first | rfl | (simp; done) | (simp [*]; done)), H', ⟨by have := HJ1.out; first | omega | exact Nat.le_refl _⟩, by repeat (first | exact Drawn0.refl _ | apply Drawn0.step)⟩
        case rest =>
          clear HC5
          try clear c1
          try clear p2
          try clear c3
          try clear c3b0
          try clear p3
          try clear c4
          try clear c6
          try clear c6b0
          try clear p6
          try clear p2
          obtain ⟨kq, x14_4, rfl, HA, HJ4, ⟨mc4, rfl⟩⟩ := hcut
          cases kq with
          | zero => exact absurd HA.out (by simp [fleuronref1_Hex.j1])
          | succ kj4 =>
            have H := HA.out
            clear HA
            simp only [fleuronref1_Hex.j1] at H
            by_cases c7 : x14_4 = true
            · subst c7
              have H1 : (some (wrap64 ((wrap64 (wrap32 (a0 - 97))) + 10), true)) = some (r1, r2) := by rw [if_pos rfl] at H; exact H
              clear H
              have H := H1
              clear H1
              simp only [Option.some.injEq, Prod.mk.injEq] at H
              obtain ⟨rfl, rfl⟩ := H
              go_wp2
              go_ret2
              exact ⟨by first | rfl | (simp; done) | (simp [*]; done), by repeat (first | exact Drawn0.refl _ | apply Drawn0.step)⟩
            · replace c7 := Bool.eq_false_iff.mpr c7
              subst c7
              have H1 : (if a0 ≥ 65 then (if a0 ≤ 70 then (some (wrap64 ((wrap64 (wrap32 (a0 - 65))) + 10), true)) else (some (0, false))) else (some (0, false))) = some (r1, r2) := by rw [if_neg (show ¬ (false = true) by decide)] at H; exact H
              clear H
              have H := H1
              clear H1
              by_cases c8 : a0 ≥ 65
              · rw [if_pos c8] at H
                have c8b0 : decide (65 ≤ a0) = true := decide_eq_true c8
                clear c8
                by_cases c9 : a0 ≤ 70
                · rw [if_pos c9] at H
                  have c9b0 : decide (a0 ≤ 70) = true := decide_eq_true c9
                  clear c9
                  simp only [Option.some.injEq, Prod.mk.injEq] at H
                  obtain ⟨rfl, rfl⟩ := H
                  go_wp2
                  go_ret2
                  exact ⟨by first | rfl | (simp; done) | (simp [*]; done), by repeat (first | exact Drawn0.refl _ | apply Drawn0.step)⟩
                · rw [if_neg c9] at H
                  have c9b0 : decide (a0 ≤ 70) = false := decide_eq_false c9
                  clear c9
                  simp only [Option.some.injEq, Prod.mk.injEq] at H
                  obtain ⟨rfl, rfl⟩ := H
                  go_wp2
                  go_ret2
                  exact ⟨by first | rfl | (simp; done) | (simp [*]; done), by repeat (first | exact Drawn0.refl _ | apply Drawn0.step)⟩
              · rw [if_neg c8] at H
                have c8b0 : decide (65 ≤ a0) = false := decide_eq_false c8
                clear c8
                simp only [Option.some.injEq, Prod.mk.injEq] at H
                obtain ⟨rfl, rfl⟩ := H
                go_wp2
                go_ret2
                exact ⟨by first | rfl | (simp; done) | (simp [*]; done), by repeat (first | exact Drawn0.refl _ | apply Drawn0.step)⟩

/-! ### fleuronref1_Digit: function 51 -/
def fleuronref1_Digit.f (a0 : Int) : Option (Bool) := if a0 ≥ 48 then (some (decide (a0 ≤ 57))) else (some false)
set_option maxHeartbeats 8000000 in
set_option maxRecDepth 100000 in
theorem fleuronref1_Digit.calls (a0 : Int) (r : Bool) (w : World) (h : fleuronref1_Digit.f a0 = some r) :
    Calls Tryd.prog 51 #[.int .i32 a0] w fun e w' => e = .returned (.bool r) ∧ Drawn0 w w' := by
  have H : (if a0 ≥ 48 then (some (decide (a0 ≤ 57))) else (some false)) = some r := h
  clear h
  by_cases c2 : a0 ≥ 48
  · rw [if_pos c2] at H
    have c2b0 : decide (48 ≤ a0) = true := decide_eq_true c2
    clear c2
    obtain rfl := Option.some.inj H
    go_enter Tryd.func51, Tryd.ntmps51
    go_wp2
    go_ret
    exact ⟨by first | rfl | (simp; done) | (simp [*]; done), by repeat (first | exact Drawn0.refl _ | apply Drawn0.step)⟩
  · rw [if_neg c2] at H
    have c2b0 : decide (48 ≤ a0) = false := decide_eq_false c2
    clear c2
    obtain rfl := Option.some.inj H
    go_enter Tryd.func51, Tryd.ntmps51
    go_wp2
    go_ret
    exact ⟨by first | rfl | (simp; done) | (simp [*]; done), by repeat (first | exact Drawn0.refl _ | apply Drawn0.step)⟩

/-! ### fleuronref1_Letter: function 71 -/
def fleuronref1_Letter.f (a0 : Int) : Option (Bool) := if a0 ≥ 97 then (if a0 ≤ 122 then (some true) else (if a0 ≥ 65 then (if a0 ≤ 90 then (some true) else (if a0 = 95 then (some true) else (some (decide (a0 ≥ 128))))) else (if a0 = 95 then (some true) else (some (decide (a0 ≥ 128)))))) else (if a0 ≥ 65 then (if a0 ≤ 90 then (some true) else (if a0 = 95 then (some true) else (some (decide (a0 ≥ 128))))) else (if a0 = 95 then (some true) else (some (decide (a0 ≥ 128)))))
set_option maxHeartbeats 8000000 in
set_option maxRecDepth 100000 in
theorem fleuronref1_Letter.calls (a0 : Int) (r : Bool) (w : World) (h : fleuronref1_Letter.f a0 = some r) :
    Calls Tryd.prog 71 #[.int .i32 a0] w fun e w' => e = .returned (.bool r) ∧ Drawn0 w w' := by
  have H : (if a0 ≥ 97 then (if a0 ≤ 122 then (some true) else (if a0 ≥ 65 then (if a0 ≤ 90 then (some true) else (if a0 = 95 then (some true) else (some (decide (a0 ≥ 128))))) else (if a0 = 95 then (some true) else (some (decide (a0 ≥ 128)))))) else (if a0 ≥ 65 then (if a0 ≤ 90 then (some true) else (if a0 = 95 then (some true) else (some (decide (a0 ≥ 128))))) else (if a0 = 95 then (some true) else (some (decide (a0 ≥ 128)))))) = some r := h
  clear h
  by_cases c2 : a0 ≥ 97
  · rw [if_pos c2] at H
    have c2b0 : decide (97 ≤ a0) = true := decide_eq_true c2
    clear c2
    by_cases c3 : a0 ≤ 122
    · rw [if_pos c3] at H
      have c3b0 : decide (a0 ≤ 122) = true := decide_eq_true c3
      clear c3
      obtain rfl := Option.some.inj H
      go_enter Tryd.func71, Tryd.ntmps71
      go_wp2
      go_ret
      exact ⟨by first | rfl | (simp; done) | (simp [*]; done), by repeat (first | exact Drawn0.refl _ | apply Drawn0.step)⟩
    · rw [if_neg c3] at H
      have c3b0 : decide (a0 ≤ 122) = false := decide_eq_false c3
      clear c3
      by_cases c4 : a0 ≥ 65
      · rw [if_pos c4] at H
        have c4b0 : decide (65 ≤ a0) = true := decide_eq_true c4
        clear c4
        by_cases c5 : a0 ≤ 90
        · rw [if_pos c5] at H
          have c5b0 : decide (a0 ≤ 90) = true := decide_eq_true c5
          clear c5
          obtain rfl := Option.some.inj H
          go_enter Tryd.func71, Tryd.ntmps71
          go_wp2
          go_ret
          exact ⟨by first | rfl | (simp; done) | (simp [*]; done), by repeat (first | exact Drawn0.refl _ | apply Drawn0.step)⟩
        · rw [if_neg c5] at H
          have c5b0 : decide (a0 ≤ 90) = false := decide_eq_false c5
          clear c5
          by_cases c6 : a0 = 95
          · rw [if_pos c6] at H
            have c6b0 : (a0 == 95) = true := beq_iff_eq.mpr c6
            have c6b1 : (a0 != 95) = false := bne_eq_false_iff_eq.mpr c6
            clear c6
            obtain rfl := Option.some.inj H
            go_enter Tryd.func71, Tryd.ntmps71
            go_wp2
            go_ret
            exact ⟨by first | rfl | (simp; done) | (simp [*]; done), by repeat (first | exact Drawn0.refl _ | apply Drawn0.step)⟩
          · rw [if_neg c6] at H
            have c6b0 : (a0 == 95) = false := beq_eq_false_iff_ne.mpr c6
            have c6b1 : (a0 != 95) = true := bne_iff_ne.mpr c6
            obtain rfl := Option.some.inj H
            go_enter Tryd.func71, Tryd.ntmps71
            go_wp2
            go_ret
            exact ⟨by first | rfl | (simp; done) | (simp [*]; done), by repeat (first | exact Drawn0.refl _ | apply Drawn0.step)⟩
      · rw [if_neg c4] at H
        have c4b0 : decide (65 ≤ a0) = false := decide_eq_false c4
        clear c4
        by_cases c7 : a0 = 95
        · rw [if_pos c7] at H
          have c7b0 : (a0 == 95) = true := beq_iff_eq.mpr c7
          have c7b1 : (a0 != 95) = false := bne_eq_false_iff_eq.mpr c7
          clear c7
          obtain rfl := Option.some.inj H
          go_enter Tryd.func71, Tryd.ntmps71
          go_wp2
          go_ret
          exact ⟨by first | rfl | (simp; done) | (simp [*]; done), by repeat (first | exact Drawn0.refl _ | apply Drawn0.step)⟩
        · rw [if_neg c7] at H
          have c7b0 : (a0 == 95) = false := beq_eq_false_iff_ne.mpr c7
          have c7b1 : (a0 != 95) = true := bne_iff_ne.mpr c7
          obtain rfl := Option.some.inj H
          go_enter Tryd.func71, Tryd.ntmps71
          go_wp2
          go_ret
          exact ⟨by first | rfl | (simp; done) | (simp [*]; done), by repeat (first | exact Drawn0.refl _ | apply Drawn0.step)⟩
  · rw [if_neg c2] at H
    have c2b0 : decide (97 ≤ a0) = false := decide_eq_false c2
    clear c2
    by_cases c8 : a0 ≥ 65
    · rw [if_pos c8] at H
      have c8b0 : decide (65 ≤ a0) = true := decide_eq_true c8
      clear c8
      by_cases c9 : a0 ≤ 90
      · rw [if_pos c9] at H
        have c9b0 : decide (a0 ≤ 90) = true := decide_eq_true c9
        clear c9
        obtain rfl := Option.some.inj H
        go_enter Tryd.func71, Tryd.ntmps71
        go_wp2
        go_ret
        exact ⟨by first | rfl | (simp; done) | (simp [*]; done), by repeat (first | exact Drawn0.refl _ | apply Drawn0.step)⟩
      · rw [if_neg c9] at H
        have c9b0 : decide (a0 ≤ 90) = false := decide_eq_false c9
        clear c9
        by_cases c10 : a0 = 95
        · rw [if_pos c10] at H
          have c10b0 : (a0 == 95) = true := beq_iff_eq.mpr c10
          have c10b1 : (a0 != 95) = false := bne_eq_false_iff_eq.mpr c10
          clear c10
          obtain rfl := Option.some.inj H
          go_enter Tryd.func71, Tryd.ntmps71
          go_wp2
          go_ret
          exact ⟨by first | rfl | (simp; done) | (simp [*]; done), by repeat (first | exact Drawn0.refl _ | apply Drawn0.step)⟩
        · rw [if_neg c10] at H
          have c10b0 : (a0 == 95) = false := beq_eq_false_iff_ne.mpr c10
          have c10b1 : (a0 != 95) = true := bne_iff_ne.mpr c10
          obtain rfl := Option.some.inj H
          go_enter Tryd.func71, Tryd.ntmps71
          go_wp2
          go_ret
          exact ⟨by first | rfl | (simp; done) | (simp [*]; done), by repeat (first | exact Drawn0.refl _ | apply Drawn0.step)⟩
    · rw [if_neg c8] at H
      have c8b0 : decide (65 ≤ a0) = false := decide_eq_false c8
      clear c8
      by_cases c11 : a0 = 95
      · rw [if_pos c11] at H
        have c11b0 : (a0 == 95) = true := beq_iff_eq.mpr c11
        have c11b1 : (a0 != 95) = false := bne_eq_false_iff_eq.mpr c11
        clear c11
        obtain rfl := Option.some.inj H
        go_enter Tryd.func71, Tryd.ntmps71
        go_wp2
        go_ret
        exact ⟨by first | rfl | (simp; done) | (simp [*]; done), by repeat (first | exact Drawn0.refl _ | apply Drawn0.step)⟩
      · rw [if_neg c11] at H
        have c11b0 : (a0 == 95) = false := beq_eq_false_iff_ne.mpr c11
        have c11b1 : (a0 != 95) = true := bne_iff_ne.mpr c11
        obtain rfl := Option.some.inj H
        go_enter Tryd.func71, Tryd.ntmps71
        go_wp2
        go_ret
        exact ⟨by first | rfl | (simp; done) | (simp [*]; done), by repeat (first | exact Drawn0.refl _ | apply Drawn0.step)⟩

/-! ### fleuronref1_Name: function 47 -/
def fleuronref1_Name.f (a0 : Int) : Option (Bool) := (fleuronref1_Letter.f a0).bind fun t101 => (if t101 = true then (some true) else ((fleuronref1_Digit.f a0).bind fun t102 => (if t102 = true then (some true) else (some (a0 == 45)))))
set_option maxHeartbeats 8000000 in
set_option maxRecDepth 100000 in
theorem fleuronref1_Name.calls (a0 : Int) (r : Bool) (w : World) (h : fleuronref1_Name.f a0 = some r) :
    Calls Tryd.prog 47 #[.int .i32 a0] w fun e w' => e = .returned (.bool r) ∧ Drawn0 w w' := by
  have H : ((fleuronref1_Letter.f a0).bind fun t101 => (if t101 = true then (some true) else ((fleuronref1_Digit.f a0).bind fun t102 => (if t102 = true then (some true) else (some (a0 == 45)))))) = some r := h
  clear h
  replace H := Option.bind_eq_some_iff.mp H
  obtain ⟨t101, A20, H⟩ := H
  replace H : (if t101 = true then (some true) else ((fleuronref1_Digit.f a0).bind fun t102 => (if t102 = true then (some true) else (some (a0 == 45))))) = some r := H
  have A2 := Aside0.mk A20
  clear A20
  by_cases c3 : t101 = true
  · subst c3
    have H1 : (some true) = some r := by rw [if_pos rfl] at H; exact H
    clear H
    have H := H1
    clear H1
    obtain rfl := Option.some.inj H
    go_enter Tryd.func47, Tryd.ntmps47
    go_wp2_with (first | ((with_reducible refine gate_callee (f := 71) rfl ?_); refine goesL_ (some 4) rfl rfl Tryd.func71 (by kernel_rfl) rfl #[.int .i32 a0] rfl (by (try simp only [List.map_toArray, List.map_cons, List.map_nil]); first | done | rfl | (simp only [List.length_drop, List.length_take]; rfl)) ?_; (with_reducible refine (fleuronref1_Letter.calls a0 true _ A2.out).mono ?_); rintro e w' ⟨rfl, ⟨nd, rfl⟩⟩; refine ⟨_, rfl, ?_⟩))
    go_ret
    exact ⟨by first | rfl | (simp; done) | (simp [*]; done), by repeat (first | exact Drawn0.refl _ | apply Drawn0.step)⟩
  · replace c3 := Bool.eq_false_iff.mpr c3
    subst c3
    have H1 : ((fleuronref1_Digit.f a0).bind fun t102 => (if t102 = true then (some true) else (some (a0 == 45)))) = some r := by rw [if_neg (show ¬ (false = true) by decide)] at H; exact H
    clear H
    have H := H1
    clear H1
    replace H := Option.bind_eq_some_iff.mp H
    obtain ⟨t102, A40, H⟩ := H
    replace H : (if t102 = true then (some true) else (some (a0 == 45))) = some r := H
    have A4 := Aside0.mk A40
    clear A40
    by_cases c5 : t102 = true
    · subst c5
      have H1 : (some true) = some r := by rw [if_pos rfl] at H; exact H
      clear H
      have H := H1
      clear H1
      obtain rfl := Option.some.inj H
      go_enter Tryd.func47, Tryd.ntmps47
      go_wp2_with (first | ((with_reducible refine gate_callee (f := 71) rfl ?_); refine goesL_ (some 4) rfl rfl Tryd.func71 (by kernel_rfl) rfl #[.int .i32 a0] rfl (by (try simp only [List.map_toArray, List.map_cons, List.map_nil]); first | done | rfl | (simp only [List.length_drop, List.length_take]; rfl)) ?_; (with_reducible refine (fleuronref1_Letter.calls a0 false _ A2.out).mono ?_); rintro e w' ⟨rfl, ⟨nd, rfl⟩⟩; refine ⟨_, rfl, ?_⟩) | (go_at_call 51; (with_reducible refine (fleuronref1_Digit.calls a0 true _ A4.out).mono ?_); rintro e w' ⟨rfl, ⟨nd, rfl⟩⟩))
      go_ret
      exact ⟨by first | rfl | (simp; done) | (simp [*]; done), by repeat (first | exact Drawn0.refl _ | apply Drawn0.step)⟩
    · replace c5 := Bool.eq_false_iff.mpr c5
      subst c5
      have H1 : (some (a0 == 45)) = some r := by rw [if_neg (show ¬ (false = true) by decide)] at H; exact H
      clear H
      have H := H1
      clear H1
      obtain rfl := Option.some.inj H
      go_enter Tryd.func47, Tryd.ntmps47
      go_wp2_with (first | ((with_reducible refine gate_callee (f := 71) rfl ?_); refine goesL_ (some 4) rfl rfl Tryd.func71 (by kernel_rfl) rfl #[.int .i32 a0] rfl (by (try simp only [List.map_toArray, List.map_cons, List.map_nil]); first | done | rfl | (simp only [List.length_drop, List.length_take]; rfl)) ?_; (with_reducible refine (fleuronref1_Letter.calls a0 false _ A2.out).mono ?_); rintro e w' ⟨rfl, ⟨nd, rfl⟩⟩; refine ⟨_, rfl, ?_⟩) | (go_at_call 51; (with_reducible refine (fleuronref1_Digit.calls a0 false _ A4.out).mono ?_); rintro e w' ⟨rfl, ⟨nd, rfl⟩⟩))
      go_ret
      exact ⟨by first | rfl | (simp; done) | (simp [*]; done), by repeat (first | exact Drawn0.refl _ | apply Drawn0.step)⟩

/-! ### fleuronref1_bad: function 85 -/
def fleuronref1_bad.f (a0 : Int) : Option (Bool) := if a0 = 34 then (some true) else (if a0 = 39 then (some true) else (if a0 = 40 then (some true) else (if a0 ≥ 0 then (if a0 ≤ 8 then (some true) else (if a0 = 11 then (some true) else (if a0 ≥ 14 then (if a0 ≤ 31 then (some true) else (some (a0 == 127))) else (some (a0 == 127))))) else (if a0 = 11 then (some true) else (if a0 ≥ 14 then (if a0 ≤ 31 then (some true) else (some (a0 == 127))) else (some (a0 == 127)))))))
set_option maxHeartbeats 8000000 in
set_option maxRecDepth 100000 in
theorem fleuronref1_bad.calls (a0 : Int) (r : Bool) (w : World) (h : fleuronref1_bad.f a0 = some r) :
    Calls Tryd.prog 85 #[.int .i32 a0] w fun e w' => e = .returned (.bool r) ∧ Drawn0 w w' := by
  have H : (if a0 = 34 then (some true) else (if a0 = 39 then (some true) else (if a0 = 40 then (some true) else (if a0 ≥ 0 then (if a0 ≤ 8 then (some true) else (if a0 = 11 then (some true) else (if a0 ≥ 14 then (if a0 ≤ 31 then (some true) else (some (a0 == 127))) else (some (a0 == 127))))) else (if a0 = 11 then (some true) else (if a0 ≥ 14 then (if a0 ≤ 31 then (some true) else (some (a0 == 127))) else (some (a0 == 127)))))))) = some r := h
  clear h
  by_cases c2 : a0 = 34
  · rw [if_pos c2] at H
    have c2b0 : (a0 == 34) = true := beq_iff_eq.mpr c2
    have c2b1 : (a0 != 34) = false := bne_eq_false_iff_eq.mpr c2
    clear c2
    obtain rfl := Option.some.inj H
    go_enter Tryd.func85, Tryd.ntmps85
    go_wp2
    go_ret
    exact ⟨by first | rfl | (simp; done) | (simp [*]; done), by repeat (first | exact Drawn0.refl _ | apply Drawn0.step)⟩
  · rw [if_neg c2] at H
    have c2b0 : (a0 == 34) = false := beq_eq_false_iff_ne.mpr c2
    have c2b1 : (a0 != 34) = true := bne_iff_ne.mpr c2
    by_cases c3 : a0 = 39
    · rw [if_pos c3] at H
      have c3b0 : (a0 == 39) = true := beq_iff_eq.mpr c3
      have c3b1 : (a0 != 39) = false := bne_eq_false_iff_eq.mpr c3
      clear c3
      obtain rfl := Option.some.inj H
      go_enter Tryd.func85, Tryd.ntmps85
      go_wp2
      go_ret
      exact ⟨by first | rfl | (simp; done) | (simp [*]; done), by repeat (first | exact Drawn0.refl _ | apply Drawn0.step)⟩
    · rw [if_neg c3] at H
      have c3b0 : (a0 == 39) = false := beq_eq_false_iff_ne.mpr c3
      have c3b1 : (a0 != 39) = true := bne_iff_ne.mpr c3
      by_cases c4 : a0 = 40
      · rw [if_pos c4] at H
        have c4b0 : (a0 == 40) = true := beq_iff_eq.mpr c4
        have c4b1 : (a0 != 40) = false := bne_eq_false_iff_eq.mpr c4
        clear c4
        obtain rfl := Option.some.inj H
        go_enter Tryd.func85, Tryd.ntmps85
        go_wp2
        go_ret
        exact ⟨by first | rfl | (simp; done) | (simp [*]; done), by repeat (first | exact Drawn0.refl _ | apply Drawn0.step)⟩
      · rw [if_neg c4] at H
        have c4b0 : (a0 == 40) = false := beq_eq_false_iff_ne.mpr c4
        have c4b1 : (a0 != 40) = true := bne_iff_ne.mpr c4
        by_cases c5 : a0 ≥ 0
        · rw [if_pos c5] at H
          have c5b0 : decide (0 ≤ a0) = true := decide_eq_true c5
          clear c5
          by_cases c6 : a0 ≤ 8
          · rw [if_pos c6] at H
            have c6b0 : decide (a0 ≤ 8) = true := decide_eq_true c6
            clear c6
            obtain rfl := Option.some.inj H
            go_enter Tryd.func85, Tryd.ntmps85
            go_wp2
            go_ret
            exact ⟨by first | rfl | (simp; done) | (simp [*]; done), by repeat (first | exact Drawn0.refl _ | apply Drawn0.step)⟩
          · rw [if_neg c6] at H
            have c6b0 : decide (a0 ≤ 8) = false := decide_eq_false c6
            clear c6
            by_cases c7 : a0 = 11
            · rw [if_pos c7] at H
              have c7b0 : (a0 == 11) = true := beq_iff_eq.mpr c7
              have c7b1 : (a0 != 11) = false := bne_eq_false_iff_eq.mpr c7
              clear c7
              obtain rfl := Option.some.inj H
              go_enter Tryd.func85, Tryd.ntmps85
              go_wp2
              go_ret
              exact ⟨by first | rfl | (simp; done) | (simp [*]; done), by repeat (first | exact Drawn0.refl _ | apply Drawn0.step)⟩
            · rw [if_neg c7] at H
              have c7b0 : (a0 == 11) = false := beq_eq_false_iff_ne.mpr c7
              have c7b1 : (a0 != 11) = true := bne_iff_ne.mpr c7
              by_cases c8 : a0 ≥ 14
              · rw [if_pos c8] at H
                have c8b0 : decide (14 ≤ a0) = true := decide_eq_true c8
                clear c8
                by_cases c9 : a0 ≤ 31
                · rw [if_pos c9] at H
                  have c9b0 : decide (a0 ≤ 31) = true := decide_eq_true c9
                  clear c9
                  obtain rfl := Option.some.inj H
                  go_enter Tryd.func85, Tryd.ntmps85
                  go_wp2
                  go_ret
                  exact ⟨by first | rfl | (simp; done) | (simp [*]; done), by repeat (first | exact Drawn0.refl _ | apply Drawn0.step)⟩
                · rw [if_neg c9] at H
                  have c9b0 : decide (a0 ≤ 31) = false := decide_eq_false c9
                  clear c9
                  obtain rfl := Option.some.inj H
                  go_enter Tryd.func85, Tryd.ntmps85
                  go_wp2
                  go_ret
                  exact ⟨by first | rfl | (simp; done) | (simp [*]; done), by repeat (first | exact Drawn0.refl _ | apply Drawn0.step)⟩
              · rw [if_neg c8] at H
                have c8b0 : decide (14 ≤ a0) = false := decide_eq_false c8
                clear c8
                obtain rfl := Option.some.inj H
                go_enter Tryd.func85, Tryd.ntmps85
                go_wp2
                go_ret
                exact ⟨by first | rfl | (simp; done) | (simp [*]; done), by repeat (first | exact Drawn0.refl _ | apply Drawn0.step)⟩
        · rw [if_neg c5] at H
          have c5b0 : decide (0 ≤ a0) = false := decide_eq_false c5
          clear c5
          by_cases c10 : a0 = 11
          · rw [if_pos c10] at H
            have c10b0 : (a0 == 11) = true := beq_iff_eq.mpr c10
            have c10b1 : (a0 != 11) = false := bne_eq_false_iff_eq.mpr c10
            clear c10
            obtain rfl := Option.some.inj H
            go_enter Tryd.func85, Tryd.ntmps85
            go_wp2
            go_ret
            exact ⟨by first | rfl | (simp; done) | (simp [*]; done), by repeat (first | exact Drawn0.refl _ | apply Drawn0.step)⟩
          · rw [if_neg c10] at H
            have c10b0 : (a0 == 11) = false := beq_eq_false_iff_ne.mpr c10
            have c10b1 : (a0 != 11) = true := bne_iff_ne.mpr c10
            by_cases c11 : a0 ≥ 14
            · rw [if_pos c11] at H
              have c11b0 : decide (14 ≤ a0) = true := decide_eq_true c11
              clear c11
              by_cases c12 : a0 ≤ 31
              · rw [if_pos c12] at H
                have c12b0 : decide (a0 ≤ 31) = true := decide_eq_true c12
                clear c12
                obtain rfl := Option.some.inj H
                go_enter Tryd.func85, Tryd.ntmps85
                go_wp2
                go_ret
                exact ⟨by first | rfl | (simp; done) | (simp [*]; done), by repeat (first | exact Drawn0.refl _ | apply Drawn0.step)⟩
              · rw [if_neg c12] at H
                have c12b0 : decide (a0 ≤ 31) = false := decide_eq_false c12
                clear c12
                obtain rfl := Option.some.inj H
                go_enter Tryd.func85, Tryd.ntmps85
                go_wp2
                go_ret
                exact ⟨by first | rfl | (simp; done) | (simp [*]; done), by repeat (first | exact Drawn0.refl _ | apply Drawn0.step)⟩
            · rw [if_neg c11] at H
              have c11b0 : decide (14 ≤ a0) = false := decide_eq_false c11
              clear c11
              obtain rfl := Option.some.inj H
              go_enter Tryd.func85, Tryd.ntmps85
              go_wp2
              go_ret
              exact ⟨by first | rfl | (simp; done) | (simp [*]; done), by repeat (first | exact Drawn0.refl _ | apply Drawn0.step)⟩

/-! ### fleuronref1_closes: function 43 -/
mutual
def fleuronref1_closes.j0 : Nat → Bool → Int → ByteArray → Int → Bool → Bool → Bool → Option (ByteArray)
  | 0, _, _, _, _, _, _, _ => none
  | k + 1, x3, x104000, x104001, x104002, x104003, x104004, x104005 => if x3 = true then (some (⟨#[41]⟩ : ByteArray)) else (if x104000 = 19 then (fleuronref1_closes.j1 k (x104001.toList == ([91] : List UInt8)) x104000 x104001 x104002 x104003 x104004 x104005) else (fleuronref1_closes.j1 k false x104000 x104001 x104002 x104003 x104004 x104005))
def fleuronref1_closes.j1 : Nat → Bool → Int → ByteArray → Int → Bool → Bool → Bool → Option (ByteArray)
  | 0, _, _, _, _, _, _, _ => none
  | k + 1, x17, x104000, x104001, x104002, x104003, x104004, x104005 => if x17 = true then (some (⟨#[93]⟩ : ByteArray)) else (if x104000 = 19 then (if x104001.toList = ([123] : List UInt8) then (some (⟨#[125]⟩ : ByteArray)) else (some (⟨#[]⟩ : ByteArray))) else (some (⟨#[]⟩ : ByteArray)))
end
def fleuronref1_closes.f (k : Nat) (a0_0 : Int) (a0_1 : ByteArray) (a0_2 : Int) (a0_3 : Bool) (a0_4 : Bool) (a0_5 : Bool) : Option (ByteArray) := if a0_0 = 2 then (fleuronref1_closes.j0 k true a0_0 a0_1 a0_2 a0_3 a0_4 a0_5) else (if a0_0 = 19 then (fleuronref1_closes.j0 k (a0_1.toList == ([40] : List UInt8)) a0_0 a0_1 a0_2 a0_3 a0_4 a0_5) else (fleuronref1_closes.j0 k false a0_0 a0_1 a0_2 a0_3 a0_4 a0_5))
set_option maxHeartbeats 8000000 in
set_option maxRecDepth 100000 in
theorem fleuronref1_closes.calls (k : Nat) (a0_0 : Int) (a0_1 : ByteArray) (a0_2 : Int) (a0_3 : Bool) (a0_4 : Bool) (a0_5 : Bool) (r : ByteArray) (w : World) (h : fleuronref1_closes.f k a0_0 a0_1 a0_2 a0_3 a0_4 a0_5 = some r) :
    Calls Tryd.prog 43 #[.agg #[.int .i64 a0_0, .string a0_1, .int .i64 a0_2, .bool a0_3, .bool a0_4, .bool a0_5]] w fun e w' => e = .returned (.string r) ∧ Below w.heap.size w w' := by
  have hu49 := Tryd.underlying49
  have HB := Aside0.mk (Below.refl w.heap.size w)
  have H : (if a0_0 = 2 then (fleuronref1_closes.j0 k true a0_0 a0_1 a0_2 a0_3 a0_4 a0_5) else (if a0_0 = 19 then (fleuronref1_closes.j0 k (a0_1.toList == ([40] : List UInt8)) a0_0 a0_1 a0_2 a0_3 a0_4 a0_5) else (fleuronref1_closes.j0 k false a0_0 a0_1 a0_2 a0_3 a0_4 a0_5))) = some r := h
  clear h
  have HC2 := Aside0.mk H
  clear H
  go_enter Tryd.func43, Tryd.ntmps43
  go_upto_region 1 with (first | ((with_reducible refine gate_dst (N := 1) rfl ?_); refine box_event ?hg (N := 1) ?hd (cs := #[.int .i64 a0_0, .string a0_1, .int .i64 a0_2, .bool a0_3, .bool a0_4, .bool a0_5]) (t := 49) ?hr ?_; (case hd => rfl); (case hg => rfl); (case hr => first | (go_simp; done) | (go_simp; rfl)); intro gb103 hg w3 hbox hb; have n0_ := Aside0.mk (below_step (by repeat (first | (with_reducible first | exact HB.out | apply below_alloc | apply pw_below_drewN | apply below_drew1) | exact HB.out)) hb); have n1_ := Aside0.mk (hbox); have n2_ := Aside0.mk ((by rw [hg]; exact (below_size (by repeat (first | (with_reducible first | exact HB.out | apply below_alloc | apply pw_below_drewN | apply below_drew1) | exact HB.out))) : w.heap.size ≤ gb103)); have n3_ := Aside0.mk ((by rw [hg]; exact (below_size (by repeat (first | (with_reducible first | exact HB.out | apply below_alloc | apply pw_below_drewN | apply below_drew1) | exact HB.out))) : w.heap.size ≤ gb103)); clear HB; have HB := n0_; have BK103 := n1_; have GW103 := n2_; have GE103 := n3_; clear n0_ n1_ n2_ n3_; clear hb hbox hg))
  (try simp only [Act.put, List.setIfInBounds_toArray, List.set_cons_zero, List.set_cons_succ])
  go_cut [3] (fun v3 wc => ∃ (kq : Nat) (x3_1 : Bool), v3 = .bool x3_1 ∧ Aside0 (fleuronref1_closes.j0 kq x3_1 a0_0 a0_1 a0_2 a0_3 a0_4 a0_5 = some r) ∧ Aside0 (kq ≤ k) ∧ Aside0 (wc.heap[gb103]? = some (.cells #[.int .i64 a0_0, .string a0_1, .int .i64 a0_2, .bool a0_3, .bool a0_4, .bool a0_5] 49 (0, 0))) ∧ Aside0 (Below w.heap.size w wc))
  case first =>
    have H := HC2.out
    clear HC2
    by_cases c4 : a0_0 = 2
    · rw [if_pos c4] at H
      have c4b0 : (a0_0 == 2) = true := beq_iff_eq.mpr c4
      have c4b1 : (a0_0 != 2) = false := bne_eq_false_iff_eq.mpr c4
      clear c4
      (first | rw [c4b0] | (simp only [i64_w, i32_w]; rw [c4b0]) | skip)
      have H' := Aside0.mk H
      clear H
      have hcz5_0 : w3.cell? ⟨gb103, 0, none⟩ = some (.int .i64 a0_0) := (blk_cell BK103.out 0).trans rfl
      have hcz5_1 : w3.cell? ⟨gb103, 1, none⟩ = some (.string a0_1) := (blk_cell BK103.out 1).trans rfl
      have hcz5_2 : w3.cell? ⟨gb103, 2, none⟩ = some (.int .i64 a0_2) := (blk_cell BK103.out 2).trans rfl
      have hcz5_3 : w3.cell? ⟨gb103, 3, none⟩ = some (.bool a0_3) := (blk_cell BK103.out 3).trans rfl
      have hcz5_4 : w3.cell? ⟨gb103, 4, none⟩ = some (.bool a0_4) := (blk_cell BK103.out 4).trans rfl
      have hcz5_5 : w3.cell? ⟨gb103, 5, none⟩ = some (.bool a0_5) := (blk_cell BK103.out 5).trans rfl
      have hfz5_0 := blk_frozen BK103.out 0
      have hfz5_1 := blk_frozen BK103.out 1
      have hfz5_2 := blk_frozen BK103.out 2
      have hfz5_3 := blk_frozen BK103.out 3
      have hfz5_4 := blk_frozen BK103.out 4
      have hfz5_5 := blk_frozen BK103.out 5
      go_wp2
      go_meet
      case rel => exact ⟨_, (true), (by first | rfl | (simp; done) | (simp [*]; done)), H', ⟨by first | omega | exact Nat.le_refl _⟩, ⟨by (with_reducible repeat (first | refine blk_drewN ?_ _ | refine blk_drew ?_ | refine blk_alloc ?_ _)); exact BK103.out⟩, ⟨by repeat (first | (with_reducible first | exact HB.out | apply below_alloc | apply pw_below_drewN | apply below_drew1 | refine below_set ?_ GE103.out) | exact HB.out)⟩⟩
    · rw [if_neg c4] at H
      have c4b0 : (a0_0 == 2) = false := beq_eq_false_iff_ne.mpr c4
      have c4b1 : (a0_0 != 2) = true := bne_iff_ne.mpr c4
      (first | rw [c4b0] | (simp only [i64_w, i32_w]; rw [c4b0]) | skip)
      by_cases c6 : a0_0 = 19
      · rw [if_pos c6] at H
        have c6b0 : (a0_0 == 19) = true := beq_iff_eq.mpr c6
        have c6b1 : (a0_0 != 19) = false := bne_eq_false_iff_eq.mpr c6
        clear c6
        have H' := Aside0.mk H
        clear H
        have hcz7_0 : w3.cell? ⟨gb103, 0, none⟩ = some (.int .i64 a0_0) := (blk_cell BK103.out 0).trans rfl
        have hcz7_1 : w3.cell? ⟨gb103, 1, none⟩ = some (.string a0_1) := (blk_cell BK103.out 1).trans rfl
        have hcz7_2 : w3.cell? ⟨gb103, 2, none⟩ = some (.int .i64 a0_2) := (blk_cell BK103.out 2).trans rfl
        have hcz7_3 : w3.cell? ⟨gb103, 3, none⟩ = some (.bool a0_3) := (blk_cell BK103.out 3).trans rfl
        have hcz7_4 : w3.cell? ⟨gb103, 4, none⟩ = some (.bool a0_4) := (blk_cell BK103.out 4).trans rfl
        have hcz7_5 : w3.cell? ⟨gb103, 5, none⟩ = some (.bool a0_5) := (blk_cell BK103.out 5).trans rfl
        have hfz7_0 := blk_frozen BK103.out 0
        have hfz7_1 := blk_frozen BK103.out 1
        have hfz7_2 := blk_frozen BK103.out 2
        have hfz7_3 := blk_frozen BK103.out 3
        have hfz7_4 := blk_frozen BK103.out 4
        have hfz7_5 := blk_frozen BK103.out 5
        go_wp2
        go_meet
        case rel => exact ⟨_, ((a0_1.toList == ([40] : List UInt8))), (by first | rfl | (simp; done) | (simp [*]; done)), H', ⟨by first | omega | exact Nat.le_refl _⟩, ⟨by (with_reducible repeat (first | refine blk_drewN ?_ _ | refine blk_drew ?_ | refine blk_alloc ?_ _)); exact BK103.out⟩, ⟨by repeat (first | (with_reducible first | exact HB.out | apply below_alloc | apply pw_below_drewN | apply below_drew1 | refine below_set ?_ GE103.out) | exact HB.out)⟩⟩
      · rw [if_neg c6] at H
        have c6b0 : (a0_0 == 19) = false := beq_eq_false_iff_ne.mpr c6
        have c6b1 : (a0_0 != 19) = true := bne_iff_ne.mpr c6
        have H' := Aside0.mk H
        clear H
        have hcz8_0 : w3.cell? ⟨gb103, 0, none⟩ = some (.int .i64 a0_0) := (blk_cell BK103.out 0).trans rfl
        have hcz8_1 : w3.cell? ⟨gb103, 1, none⟩ = some (.string a0_1) := (blk_cell BK103.out 1).trans rfl
        have hcz8_2 : w3.cell? ⟨gb103, 2, none⟩ = some (.int .i64 a0_2) := (blk_cell BK103.out 2).trans rfl
        have hcz8_3 : w3.cell? ⟨gb103, 3, none⟩ = some (.bool a0_3) := (blk_cell BK103.out 3).trans rfl
        have hcz8_4 : w3.cell? ⟨gb103, 4, none⟩ = some (.bool a0_4) := (blk_cell BK103.out 4).trans rfl
        have hcz8_5 : w3.cell? ⟨gb103, 5, none⟩ = some (.bool a0_5) := (blk_cell BK103.out 5).trans rfl
        have hfz8_0 := blk_frozen BK103.out 0
        have hfz8_1 := blk_frozen BK103.out 1
        have hfz8_2 := blk_frozen BK103.out 2
        have hfz8_3 := blk_frozen BK103.out 3
        have hfz8_4 := blk_frozen BK103.out 4
        have hfz8_5 := blk_frozen BK103.out 5
        go_wp2
        go_meet
        case rel => exact ⟨_, (false), (by first | rfl | (simp; done) | (simp [*]; done)), H', ⟨by first | omega | exact Nat.le_refl _⟩, ⟨by (with_reducible repeat (first | refine blk_drewN ?_ _ | refine blk_drew ?_ | refine blk_alloc ?_ _)); exact BK103.out⟩, ⟨by repeat (first | (with_reducible first | exact HB.out | apply below_alloc | apply pw_below_drewN | apply below_drew1 | refine below_set ?_ GE103.out) | exact HB.out)⟩⟩
  case rest =>
    clear HC2
    try clear p2
    try clear c4
    try clear c4b0
    try clear c4b1
    try clear c6
    try clear c6b0
    try clear c6b1
    try clear hcz5_0
    try clear hcz5_1
    try clear hcz5_2
    try clear hcz5_3
    try clear hcz5_4
    try clear hcz5_5
    try clear hcz7_0
    try clear hcz7_1
    try clear hcz7_2
    try clear hcz7_3
    try clear hcz7_4
    try clear hcz7_5
    try clear hcz8_0
    try clear hcz8_1
    try clear hcz8_2
    try clear hcz8_3
    try clear hcz8_4
    try clear hcz8_5
    try clear hfz5_0
    try clear hfz5_1
    try clear hfz5_2
    try clear hfz5_3
    try clear hfz5_4
    try clear hfz5_5
    try clear hfz7_0
    try clear hfz7_1
    try clear hfz7_2
    try clear hfz7_3
    try clear hfz7_4
    try clear hfz7_5
    try clear hfz8_0
    try clear hfz8_1
    try clear hfz8_2
    try clear hfz8_3
    try clear hfz8_4
    try clear hfz8_5
    obtain ⟨kq, x3_1, rfl, HA, HJ1, BK103, HB⟩ := hcut
    cases kq with
    | zero => exact absurd HA.out (by simp [fleuronref1_closes.j0])
    | succ kj1 =>
      have H := HA.out
      clear HA
      simp only [fleuronref1_closes.j0] at H
      by_cases c9 : x3_1 = true
      · subst c9
        have H1 : (some (⟨#[41]⟩ : ByteArray)) = some r := by rw [if_pos rfl] at H; exact H
        clear H
        have H := H1
        clear H1
        obtain rfl := Option.some.inj H
        go_wp2
        go_ret
        exact ⟨by first | rfl | (simp [errW_none, errW_some] <;> rfl) | (simp [*, errW_none, errW_some] <;> rfl), by repeat (first | (with_reducible first | exact HB.out | apply below_alloc | apply pw_below_drewN | apply below_drew1 | refine below_set ?_ GE103.out) | exact HB.out)⟩
      · replace c9 := Bool.eq_false_iff.mpr c9
        subst c9
        have H1 : (if a0_0 = 19 then (fleuronref1_closes.j1 kj1 (a0_1.toList == ([91] : List UInt8)) a0_0 a0_1 a0_2 a0_3 a0_4 a0_5) else (fleuronref1_closes.j1 kj1 false a0_0 a0_1 a0_2 a0_3 a0_4 a0_5)) = some r := by rw [if_neg (show ¬ (false = true) by decide)] at H; exact H
        clear H
        have H := H1
        clear H1
        have HC10 := Aside0.mk H
        clear H
        go_upto_region 3 with (fail)
        go_cut [17] (fun v17 wc => ∃ (kq : Nat) (x17_9 : Bool), v17 = .bool x17_9 ∧ Aside0 (fleuronref1_closes.j1 kq x17_9 a0_0 a0_1 a0_2 a0_3 a0_4 a0_5 = some r) ∧ Aside0 (kq ≤ kj1) ∧ Aside0 (wc.heap[gb103]? = some (.cells #[.int .i64 a0_0, .string a0_1, .int .i64 a0_2, .bool a0_3, .bool a0_4, .bool a0_5] 49 (0, 0))) ∧ Aside0 (Below w.heap.size w wc))
        case first =>
          have H := HC10.out
          clear HC10
          by_cases c11 : a0_0 = 19
          · rw [if_pos c11] at H
            have c11b0 : (a0_0 == 19) = true := beq_iff_eq.mpr c11
            have c11b1 : (a0_0 != 19) = false := bne_eq_false_iff_eq.mpr c11
            clear c11
            (first | rw [c11b0] | (simp only [i64_w, i32_w]; rw [c11b0]) | skip)
            have H' := Aside0.mk H
            clear H
            have hcz12_0 : wc.cell? ⟨gb103, 0, none⟩ = some (.int .i64 a0_0) := (blk_cell BK103.out 0).trans rfl
            have hcz12_1 : wc.cell? ⟨gb103, 1, none⟩ = some (.string a0_1) := (blk_cell BK103.out 1).trans rfl
            have hcz12_2 : wc.cell? ⟨gb103, 2, none⟩ = some (.int .i64 a0_2) := (blk_cell BK103.out 2).trans rfl
            have hcz12_3 : wc.cell? ⟨gb103, 3, none⟩ = some (.bool a0_3) := (blk_cell BK103.out 3).trans rfl
            have hcz12_4 : wc.cell? ⟨gb103, 4, none⟩ = some (.bool a0_4) := (blk_cell BK103.out 4).trans rfl
            have hcz12_5 : wc.cell? ⟨gb103, 5, none⟩ = some (.bool a0_5) := (blk_cell BK103.out 5).trans rfl
            have hfz12_0 := blk_frozen BK103.out 0
            have hfz12_1 := blk_frozen BK103.out 1
            have hfz12_2 := blk_frozen BK103.out 2
            have hfz12_3 := blk_frozen BK103.out 3
            have hfz12_4 := blk_frozen BK103.out 4
            have hfz12_5 := blk_frozen BK103.out 5
            go_wp2
            go_meet
            case rel => exact ⟨_, ((a0_1.toList == ([91] : List UInt8))), (by first | rfl | (simp; done) | (simp [*]; done)), H', ⟨by have := HJ1.out; first | omega | exact Nat.le_refl _⟩, ⟨by (with_reducible repeat (first | refine blk_drewN ?_ _ | refine blk_drew ?_ | refine blk_alloc ?_ _)); exact BK103.out⟩, ⟨by repeat (first | (with_reducible first | exact HB.out | apply below_alloc | apply pw_below_drewN | apply below_drew1 | refine below_set ?_ GE103.out) | exact HB.out)⟩⟩
          · rw [if_neg c11] at H
            have c11b0 : (a0_0 == 19) = false := beq_eq_false_iff_ne.mpr c11
            have c11b1 : (a0_0 != 19) = true := bne_iff_ne.mpr c11
            (first | rw [c11b0] | (simp only [i64_w, i32_w]; rw [c11b0]) | skip)
            have H' := Aside0.mk H
            clear H
            have hcz13_0 : wc.cell? ⟨gb103, 0, none⟩ = some (.int .i64 a0_0) := (blk_cell BK103.out 0).trans rfl
            have hcz13_1 : wc.cell? ⟨gb103, 1, none⟩ = some (.string a0_1) := (blk_cell BK103.out 1).trans rfl
            have hcz13_2 : wc.cell? ⟨gb103, 2, none⟩ = some (.int .i64 a0_2) := (blk_cell BK103.out 2).trans rfl
            have hcz13_3 : wc.cell? ⟨gb103, 3, none⟩ = some (.bool a0_3) := (blk_cell BK103.out 3).trans rfl
            have hcz13_4 : wc.cell? ⟨gb103, 4, none⟩ = some (.bool a0_4) := (blk_cell BK103.out 4).trans rfl
            have hcz13_5 : wc.cell? ⟨gb103, 5, none⟩ = some (.bool a0_5) := (blk_cell BK103.out 5).trans rfl
            have hfz13_0 := blk_frozen BK103.out 0
            have hfz13_1 := blk_frozen BK103.out 1
            have hfz13_2 := blk_frozen BK103.out 2
            have hfz13_3 := blk_frozen BK103.out 3
            have hfz13_4 := blk_frozen BK103.out 4
            have hfz13_5 := blk_frozen BK103.out 5
            go_wp2
            go_meet
            case rel => exact ⟨_, (false), (by first | rfl | (simp; done) | (simp [*]; done)), H', ⟨by have := HJ1.out; first | omega | exact Nat.le_refl _⟩, ⟨by (with_reducible repeat (first | refine blk_drewN ?_ _ | refine blk_drew ?_ | refine blk_alloc ?_ _)); exact BK103.out⟩, ⟨by repeat (first | (with_reducible first | exact HB.out | apply below_alloc | apply pw_below_drewN | apply below_drew1 | refine below_set ?_ GE103.out) | exact HB.out)⟩⟩
        case rest =>
          clear HC10
          try clear c1
          try clear p2
          try clear c4
          try clear c4b0
          try clear c4b1
          try clear c6
          try clear c6b0
          try clear c6b1
          try clear c9
          try clear c11
          try clear c11b0
          try clear c11b1
          try clear hcz12_0
          try clear hcz12_1
          try clear hcz12_2
          try clear hcz12_3
          try clear hcz12_4
          try clear hcz12_5
          try clear hcz13_0
          try clear hcz13_1
          try clear hcz13_2
          try clear hcz13_3
          try clear hcz13_4
          try clear hcz13_5
          try clear hcz5_0
          try clear hcz5_1
          try clear hcz5_2
          try clear hcz5_3
          try clear hcz5_4
          try clear hcz5_5
          try clear hcz7_0
          try clear hcz7_1
          try clear hcz7_2
          try clear hcz7_3
          try clear hcz7_4
          try clear hcz7_5
          try clear hcz8_0
          try clear hcz8_1
          try clear hcz8_2
          try clear hcz8_3
          try clear hcz8_4
          try clear hcz8_5
          try clear hfz12_0
          try clear hfz12_1
          try clear hfz12_2
          try clear hfz12_3
          try clear hfz12_4
          try clear hfz12_5
          try clear hfz13_0
          try clear hfz13_1
          try clear hfz13_2
          try clear hfz13_3
          try clear hfz13_4
          try clear hfz13_5
          try clear hfz5_0
          try clear hfz5_1
          try clear hfz5_2
          try clear hfz5_3
          try clear hfz5_4
          try clear hfz5_5
          try clear hfz7_0
          try clear hfz7_1
          try clear hfz7_2
          try clear hfz7_3
          try clear hfz7_4
          try clear hfz7_5
          try clear hfz8_0
          try clear hfz8_1
          try clear hfz8_2
          try clear hfz8_3
          try clear hfz8_4
          try clear hfz8_5
          try clear p2
          obtain ⟨kq, x17_9, rfl, HA, HJ9, BK103, HB⟩ := hcut
          cases kq with
          | zero => exact absurd HA.out (by simp [fleuronref1_closes.j1])
          | succ kj9 =>
            have H := HA.out
            clear HA
            simp only [fleuronref1_closes.j1] at H
            by_cases c14 : x17_9 = true
            · subst c14
              have H1 : (some (⟨#[93]⟩ : ByteArray)) = some r := by rw [if_pos rfl] at H; exact H
              clear H
              have H := H1
              clear H1
              obtain rfl := Option.some.inj H
              go_wp2
              go_ret
              exact ⟨by first | rfl | (simp [errW_none, errW_some] <;> rfl) | (simp [*, errW_none, errW_some] <;> rfl), by repeat (first | (with_reducible first | exact HB.out | apply below_alloc | apply pw_below_drewN | apply below_drew1 | refine below_set ?_ GE103.out) | exact HB.out)⟩
            · replace c14 := Bool.eq_false_iff.mpr c14
              subst c14
              have H1 : (if a0_0 = 19 then (if a0_1.toList = ([123] : List UInt8) then (some (⟨#[125]⟩ : ByteArray)) else (some (⟨#[]⟩ : ByteArray))) else (some (⟨#[]⟩ : ByteArray))) = some r := by rw [if_neg (show ¬ (false = true) by decide)] at H; exact H
              clear H
              have H := H1
              clear H1
              by_cases c15 : a0_0 = 19
              · rw [if_pos c15] at H
                have c15b0 : (a0_0 == 19) = true := beq_iff_eq.mpr c15
                have c15b1 : (a0_0 != 19) = false := bne_eq_false_iff_eq.mpr c15
                clear c15
                by_cases c16 : a0_1.toList = ([123] : List UInt8)
                · rw [if_pos c16] at H
                  have c16b0 : (a0_1.toList == ([123] : List UInt8)) = true := beq_iff_eq.mpr c16
                  have c16b1 : (a0_1.toList != ([123] : List UInt8)) = false := bne_eq_false_iff_eq.mpr c16
                  clear c16
                  obtain rfl := Option.some.inj H
                  have hcz17_0 : wc.cell? ⟨gb103, 0, none⟩ = some (.int .i64 a0_0) := (blk_cell BK103.out 0).trans rfl
                  have hcz17_1 : wc.cell? ⟨gb103, 1, none⟩ = some (.string a0_1) := (blk_cell BK103.out 1).trans rfl
                  have hcz17_2 : wc.cell? ⟨gb103, 2, none⟩ = some (.int .i64 a0_2) := (blk_cell BK103.out 2).trans rfl
                  have hcz17_3 : wc.cell? ⟨gb103, 3, none⟩ = some (.bool a0_3) := (blk_cell BK103.out 3).trans rfl
                  have hcz17_4 : wc.cell? ⟨gb103, 4, none⟩ = some (.bool a0_4) := (blk_cell BK103.out 4).trans rfl
                  have hcz17_5 : wc.cell? ⟨gb103, 5, none⟩ = some (.bool a0_5) := (blk_cell BK103.out 5).trans rfl
                  have hfz17_0 := blk_frozen BK103.out 0
                  have hfz17_1 := blk_frozen BK103.out 1
                  have hfz17_2 := blk_frozen BK103.out 2
                  have hfz17_3 := blk_frozen BK103.out 3
                  have hfz17_4 := blk_frozen BK103.out 4
                  have hfz17_5 := blk_frozen BK103.out 5
                  go_wp2
                  go_ret
                  exact ⟨by first | rfl | (simp [errW_none, errW_some] <;> rfl) | (simp [*, errW_none, errW_some] <;> rfl), by repeat (first | (with_reducible first | exact HB.out | apply below_alloc | apply pw_below_drewN | apply below_drew1 | refine below_set ?_ GE103.out) | exact HB.out)⟩
                · rw [if_neg c16] at H
                  have c16b0 : (a0_1.toList == ([123] : List UInt8)) = false := beq_eq_false_iff_ne.mpr c16
                  have c16b1 : (a0_1.toList != ([123] : List UInt8)) = true := bne_iff_ne.mpr c16
                  obtain rfl := Option.some.inj H
                  have hcz18_0 : wc.cell? ⟨gb103, 0, none⟩ = some (.int .i64 a0_0) := (blk_cell BK103.out 0).trans rfl
                  have hcz18_1 : wc.cell? ⟨gb103, 1, none⟩ = some (.string a0_1) := (blk_cell BK103.out 1).trans rfl
                  have hcz18_2 : wc.cell? ⟨gb103, 2, none⟩ = some (.int .i64 a0_2) := (blk_cell BK103.out 2).trans rfl
                  have hcz18_3 : wc.cell? ⟨gb103, 3, none⟩ = some (.bool a0_3) := (blk_cell BK103.out 3).trans rfl
                  have hcz18_4 : wc.cell? ⟨gb103, 4, none⟩ = some (.bool a0_4) := (blk_cell BK103.out 4).trans rfl
                  have hcz18_5 : wc.cell? ⟨gb103, 5, none⟩ = some (.bool a0_5) := (blk_cell BK103.out 5).trans rfl
                  have hfz18_0 := blk_frozen BK103.out 0
                  have hfz18_1 := blk_frozen BK103.out 1
                  have hfz18_2 := blk_frozen BK103.out 2
                  have hfz18_3 := blk_frozen BK103.out 3
                  have hfz18_4 := blk_frozen BK103.out 4
                  have hfz18_5 := blk_frozen BK103.out 5
                  go_wp2
                  go_ret
                  exact ⟨by first | rfl | (simp [errW_none, errW_some] <;> rfl) | (simp [*, errW_none, errW_some] <;> rfl), by repeat (first | (with_reducible first | exact HB.out | apply below_alloc | apply pw_below_drewN | apply below_drew1 | refine below_set ?_ GE103.out) | exact HB.out)⟩
              · rw [if_neg c15] at H
                have c15b0 : (a0_0 == 19) = false := beq_eq_false_iff_ne.mpr c15
                have c15b1 : (a0_0 != 19) = true := bne_iff_ne.mpr c15
                obtain rfl := Option.some.inj H
                have hcz19_0 : wc.cell? ⟨gb103, 0, none⟩ = some (.int .i64 a0_0) := (blk_cell BK103.out 0).trans rfl
                have hcz19_1 : wc.cell? ⟨gb103, 1, none⟩ = some (.string a0_1) := (blk_cell BK103.out 1).trans rfl
                have hcz19_2 : wc.cell? ⟨gb103, 2, none⟩ = some (.int .i64 a0_2) := (blk_cell BK103.out 2).trans rfl
                have hcz19_3 : wc.cell? ⟨gb103, 3, none⟩ = some (.bool a0_3) := (blk_cell BK103.out 3).trans rfl
                have hcz19_4 : wc.cell? ⟨gb103, 4, none⟩ = some (.bool a0_4) := (blk_cell BK103.out 4).trans rfl
                have hcz19_5 : wc.cell? ⟨gb103, 5, none⟩ = some (.bool a0_5) := (blk_cell BK103.out 5).trans rfl
                have hfz19_0 := blk_frozen BK103.out 0
                have hfz19_1 := blk_frozen BK103.out 1
                have hfz19_2 := blk_frozen BK103.out 2
                have hfz19_3 := blk_frozen BK103.out 3
                have hfz19_4 := blk_frozen BK103.out 4
                have hfz19_5 := blk_frozen BK103.out 5
                go_wp2
                go_ret
                exact ⟨by first | rfl | (simp [errW_none, errW_some] <;> rfl) | (simp [*, errW_none, errW_some] <;> rfl), by repeat (first | (with_reducible first | exact HB.out | apply below_alloc | apply pw_below_drewN | apply below_drew1 | refine below_set ?_ GE103.out) | exact HB.out)⟩

end Go.Proofs.YtgdolholioccdaaDoor.PX
