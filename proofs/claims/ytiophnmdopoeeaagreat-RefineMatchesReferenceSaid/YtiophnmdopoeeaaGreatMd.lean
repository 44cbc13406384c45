/-
  Own library, part 4: an abstract reading of values and a calculus over it; contracts of functions; plain lemmas.
-/
import Derived.Shelf.Sort.Plain
import Derived.Shelf.Bits.Mul64
import Derived.Shelf.Slices.In.SortNone
import Derived.Test.YtiophnmdopoeeaaGreatProg
import Derived.Test.YtiophnmdopoeeaaGreatMc

/-
  DERIVED: THE SHELF's CONTRACTS AT THIS DUMP, IN PLAIN WORDS (tools/lay-plain.mjs out of 'TryzShelf.lean', which tools/lay-shelf.mjs wrote): THE SAME DECLARATIONS UNDER THE SAME NAMES: 'import', 'namespace', 'open', 'def', 'theorem' AND NOTHING ELSE: no command of the shelf's: FOR A HAND-IN. Each laying: the table of numbers ('.._ren') and one theorem, a field a fact of the dump's own or the kernel's comparison; each contract: ONE APPLICATION.
-/
namespace Go.Proofs
open Go.Shelf
def Tryz.lays189_ren : Go.Shelf.Ren := ⟨fun | 189 => 61 | 125 => 80 | 257 => 79 | 128 => 96 | 129 => 97 | 294 => 87 | 295 => 88 | 296 => 89 | 297 => 90 | 298 => 91 | 299 => 92 | 216 => 93 | 300 => 94 | 301 => 95 | 328 => 100 | 329 => 101 | 330 => 102 | 331 => 103 | 332 => 104 | 215 => 105 | 343 => 106 | n => n, fun | 28 => 28 | 3 => 3 | 46 => 118 | 0 => 0 | 51 => 133 | 53 => 135 | 4 => 4 | 183 => 126 | 182 => 125 | 131 => 130 | 5 => 5 | 9 => 9 | 218 => 140 | 222 => 144 | 228 => 146 | 229 => 147 | n => n, fun | n => n⟩
theorem Tryz.lays189 : Go.Proofs.Lays.n189 Tryz.prog Tryz.lays189_ren := {
  mixed := by kernel_rfl
  f125 := Tryz.func80.trans (congrArg some (by kernel_rfl))
  f128 := Tryz.func96.trans (congrArg some (by kernel_rfl))
  f129 := Tryz.func97.trans (congrArg some (by kernel_rfl))
  f189 := Tryz.func61.trans (congrArg some (by kernel_rfl))
  f215 := Tryz.func105.trans (congrArg some (by kernel_rfl))
  f216 := Tryz.func93.trans (congrArg some (by kernel_rfl))
  f257 := Tryz.func79.trans (congrArg some (by kernel_rfl))
  f294 := Tryz.func87.trans (congrArg some (by kernel_rfl))
  f295 := Tryz.func88.trans (congrArg some (by kernel_rfl))
  f296 := Tryz.func89.trans (congrArg some (by kernel_rfl))
  f297 := Tryz.func90.trans (congrArg some (by kernel_rfl))
  f298 := Tryz.func91.trans (congrArg some (by kernel_rfl))
  f299 := Tryz.func92.trans (congrArg some (by kernel_rfl))
  f300 := Tryz.func94.trans (congrArg some (by kernel_rfl))
  f301 := Tryz.func95.trans (congrArg some (by kernel_rfl))
  f328 := Tryz.func100.trans (congrArg some (by kernel_rfl))
  f329 := Tryz.func101.trans (congrArg some (by kernel_rfl))
  f330 := Tryz.func102.trans (congrArg some (by kernel_rfl))
  f331 := Tryz.func103.trans (congrArg some (by kernel_rfl))
  f332 := Tryz.func104.trans (congrArg some (by kernel_rfl))
  f343 := Tryz.func106.trans (congrArg some (by kernel_rfl))
  t0 := Tryz.underlying0
  a0 := Tryz.isAgg0
  z0 := Tryz.sizeOf0
  v0 := Tryz.zeroValue0
  t3 := Tryz.underlying3
  a3 := Tryz.isAgg3
  z3 := Tryz.sizeOf3
  v3 := Tryz.zeroValue3
  t4 := Tryz.underlying4
  a4 := Tryz.isAgg4
  z4 := Tryz.sizeOf4
  v4 := Tryz.zeroValue4
  t5 := Tryz.underlying5
  a5 := Tryz.isAgg5
  z5 := Tryz.sizeOf5
  v5 := Tryz.zeroValue5
  t9 := Tryz.underlying9
  a9 := Tryz.isAgg9
  z9 := Tryz.sizeOf9
  v9 := Tryz.zeroValue9
  t28 := Tryz.underlying28
  a28 := Tryz.isAgg28
  z28 := Tryz.sizeOf28
  v28 := Tryz.zeroValue28
  t46 := Tryz.underlying118
  a46 := Tryz.isAgg118
  z46 := Tryz.sizeOf118
  v46 := Tryz.zeroValue118
  t51 := Tryz.underlying133
  a51 := Tryz.isAgg133
  z51 := Tryz.sizeOf133
  v51 := Tryz.zeroValue133
  t53 := Tryz.underlying135
  a53 := Tryz.isAgg135
  z53 := Tryz.sizeOf135
  v53 := Tryz.zeroValue135
  t131 := Tryz.underlying130
  a131 := Tryz.isAgg130
  z131 := Tryz.sizeOf130
  v131 := Tryz.zeroValue130
  t182 := Tryz.underlying125
  a182 := Tryz.isAgg125
  z182 := Tryz.sizeOf125
  v182 := Tryz.zeroValue125
  t183 := Tryz.underlying126
  a183 := Tryz.isAgg126
  z183 := Tryz.sizeOf126
  v183 := Tryz.zeroValue126
  t218 := Tryz.underlying140
  a218 := Tryz.isAgg140
  z218 := Tryz.sizeOf140
  v218 := Tryz.zeroValue140
  t222 := Tryz.underlying144
  a222 := Tryz.isAgg144
  z222 := Tryz.sizeOf144
  v222 := Tryz.zeroValue144
  t228 := Tryz.underlying146
  a228 := Tryz.isAgg146
  z228 := Tryz.sizeOf146
  v228 := Tryz.zeroValue146
  t229 := Tryz.underlying147
  a229 := Tryz.isAgg147
  z229 := Tryz.sizeOf147
  v229 := Tryz.zeroValue147 }
open Go.Sort Go.RowKit in
theorem Tryz.slices_Sort_int (blk off cap : Nat) (zs : List Int) (w : World) (hH : Holds (Value.int .i64) w blk off zs.toArray) (hblk : blk < w.heap.size) (hsz : zs.length < 4611686018427387904) :
    Calls Tryz.prog 61 #[.slice (some ⟨blk, off, none⟩) zs.length cap] w fun e w' =>
      e = .returned (.tuple #[]) ∧ ∃ n os, w' = grow (putRow (Value.int .i64) (Sort.ahead w n) blk off (zs.mergeSort fun x y => decide (x ≤ y)).toArray) os := Any.slices_Sort_int Tryz.lays189 blk off cap zs w hH hblk hsz
def Tryz.lays264_ren : Go.Shelf.Ren := ⟨fun | 264 => 99 | n => n, fun | 53 => 135 | 46 => 118 | n => n, fun | n => n⟩
theorem Tryz.lays264 : Go.Proofs.Lays.n264 Tryz.prog Tryz.lays264_ren := {
  mixed := by kernel_rfl
  f264 := Tryz.func99.trans (congrArg some (by kernel_rfl))
  t46 := Tryz.underlying118
  a46 := Tryz.isAgg118
  z46 := Tryz.sizeOf118
  v46 := Tryz.zeroValue118
  t53 := Tryz.underlying135
  a53 := Tryz.isAgg135
  z53 := Tryz.sizeOf135
  v53 := Tryz.zeroValue135 }
open Go.RowKit Go.Lib in
theorem Tryz.bits_Mul64 (x y : Nat) (hx : x < 18446744073709551616) (hy : y < 18446744073709551616) (w : World) :
    Calls Tryz.prog 99 #[.int .u64 x, .int .u64 y] w fun e w' => e = .returned (.tuple #[.int .u64 ((x * y / 18446744073709551616 : Nat) : Int), .int .u64 ((x * y % 18446744073709551616 : Nat) : Int)]) ∧ w' = w := Any.bits_Mul64 Tryz.lays264 x y hx hy w
def Tryz.lays212_ren : Go.Shelf.Ren := ⟨fun | 212 => 83 | 263 => 98 | 264 => 99 | n => n, fun | 46 => 118 | 51 => 133 | 146 => 136 | 53 => 135 | 148 => 138 | n => n, fun | n => n⟩
theorem Tryz.lays212 : Go.Proofs.Lays.n212 Tryz.prog Tryz.lays212_ren := {
  mixed := by kernel_rfl
  f212 := Tryz.func83.trans (congrArg some (by kernel_rfl))
  f263 := Tryz.func98.trans (congrArg some (by kernel_rfl))
  f264 := Tryz.func99.trans (congrArg some (by kernel_rfl))
  t46 := Tryz.underlying118
  a46 := Tryz.isAgg118
  z46 := Tryz.sizeOf118
  v46 := Tryz.zeroValue118
  t51 := Tryz.underlying133
  a51 := Tryz.isAgg133
  z51 := Tryz.sizeOf133
  v51 := Tryz.zeroValue133
  t53 := Tryz.underlying135
  a53 := Tryz.isAgg135
  z53 := Tryz.sizeOf135
  v53 := Tryz.zeroValue135
  t146 := Tryz.underlying136
  a146 := Tryz.isAgg136
  z146 := Tryz.sizeOf136
  v146 := Tryz.zeroValue136
  t148 := Tryz.underlying138
  a148 := Tryz.isAgg138
  z148 := Tryz.sizeOf138
  v148 := Tryz.zeroValue138 }
open Go.RowKit Go.Lib in
/-- math/bits.Mul: "Mul returns the full-width product of x and y": on a machine of 64 bits: Mul64's. (LAID: no walk: one application.) -/
theorem Tryz.bits_Mul (x y : Nat) (hx : x < 18446744073709551616) (hy : y < 18446744073709551616) (w : World) :
    Calls Tryz.prog 83 #[.int .u64 x, .int .u64 y] w fun e w' => e = .returned (.tuple #[.int .u64 ((x * y / 18446744073709551616 : Nat) : Int), .int .u64 ((x * y % 18446744073709551616 : Nat) : Int)]) ∧ w' = w := Any.bits_Mul Tryz.lays212 x y hx hy w
open Go.RowKit Go.Sort in
/-- .. and plain. (LAID: no walk: one application.) -/
theorem Tryz.slices_Sort_int_none (p : Option Addr) (cap : Nat) (w : World) :
    Calls Tryz.prog 61 #[.slice p 0 cap] w fun e w' => e = .returned (.tuple #[]) ∧ w' = w := Any.slices_Sort_int_none Tryz.lays189 p cap w
end Go.Proofs

set_option linter.unusedVariables false
set_option linter.unusedSimpArgs false
set_option maxRecDepth 100000
namespace Go.Proofs.YtiophnmdopoeeaaGreat.C20
open Go Go.Ev Go.Proofs Go.Proofs.YtiophnmdopoeeaaGreat.C1 Go.Proofs.YtiophnmdopoeeaaGreat.C2 Go.Proofs.YtiophnmdopoeeaaGreat.C3 Go.Proofs.YtiophnmdopoeeaaGreat.C4 Go.Proofs.YtiophnmdopoeeaaGreat.C7 Go.Proofs.YtiophnmdopoeeaaGreat.C9 Go.Proofs.YtiophnmdopoeeaaGreat.C10 Go.Proofs.YtiophnmdopoeeaaGreat.C11 Go.Proofs.YtiophnmdopoeeaaGreat.C12

theorem mulB (x y : Nat) (hx : x < 18446744073709551616) (hy : y < 18446744073709551616) :
    SoundP Tryz.prog 83 [.sc (.int .u64 x), .sc (.int .u64 y)] (.tup [.sc (.int .u64 ((x * y / 18446744073709551616 : Nat) : Int)), .sc (.int .u64 ((x * y % 18446744073709551616 : Nat) : Int))]) :=
  SoundP.of_still Tryz.call83 (fun G h us r => argsRel_sc2 r) (fun w => Tryz.bits_Mul x y hx hy w) fun G h => .tup _ _ rfl fun k z hk => by
    match k with
    | 0 => simp at hk; subst hk; exact .sc _ rfl
    | 1 => simp at hk; subst hk; exact .sc _ rfl
    | k + 2 => simp at hk

theorem wrap_u64 {n : Int} (h0 : 0 ≤ n) (h1 : n ≤ 18446744073709551615) : IntKind.u64.wrap n = n := IntWalk.u64_in n ⟨h0, h1⟩

theorem rowsOf_one {mu : Mu} {b off len : Nat} {cells : List AV} (hc : mu[b]? = some (.arr cells)) (hl : off + len ≤ cells.length) : rowsOf mu (.sl b 1 off len) = some (((cells.drop off).take len).map fun c => [c]) := by
  simp only [rowsOf, hc]
  rw [if_pos (by omega)]
  congr 1
  apply List.ext_getElem?
  intro i
  by_cases hi : i < len
  · simp only [List.getElem?_map, List.getElem?_range hi, Option.map_some, Nat.mul_one]
    rw [List.getElem?_take, if_pos hi, List.getElem?_drop, List.getElem?_eq_getElem (show off + i < cells.length by omega)]
    rw [List.drop_eq_getElem_cons (show off + i < cells.length by omega)]; rfl
  · rw [List.getElem?_eq_none (by simp; omega), List.getElem?_eq_none (by simp; omega)]
theorem flat_one (l : List AV) : (l.map fun c => [c]).flatten = l := by
  induction l with
  | nil => rfl
  | cons x l ih => simp only [List.map_cons, List.flatten_cons, ih]; rfl
theorem rows_one {l : List AV} (h : ∀ c, c ∈ l → c.one = true) : rowsWf 1 (l.map fun c => [c]) := fun r hr => by
  obtain ⟨c, hc, rfl⟩ := List.mem_map.1 hr
  exact ⟨rfl, by simp [h c hc]⟩

/-- the cells of a repeated row that is filled up to m -/
def rep (s : Int) (k m : Nat) : List AV := List.replicate m (aI s) ++ List.replicate (k - m) (aI 0)
theorem rep_len (s : Int) (k m : Nat) (h : m ≤ k) : (rep s k m).length = k := by simp [rep]; omega
theorem rep_take (s : Int) (k m j : Nat) (h : j ≤ m) : (rep s k m).take j = List.replicate j (aI s) := by
  rw [rep, List.take_append_of_le_length (by simpa using h), List.take_replicate, Nat.min_eq_left h]
theorem rep_put (s : Int) (k m j : Nat) (hm : m ≤ k) (h : m + j ≤ k) : putCells (rep s k m) m (List.replicate j (aI s)) = rep s k (m + j) := by
  rw [putCells_eq _ _ _ (by rw [rep_len _ _ _ hm]; simpa using h)]
  rw [rep_take _ _ _ _ (Nat.le_refl m), List.replicate_append_replicate]
  have : List.drop (m + (List.replicate j (aI s)).length) (rep s k m) = List.replicate (k - (m + j)) (aI 0) := by
    rw [rep, List.length_replicate, List.drop_append, List.drop_of_length_le (by simp), List.nil_append, List.length_replicate, List.drop_replicate]
    congr 1; omega
  rw [this]; rfl

theorem repeatI (s : Int) (k : Nat) (hk : k ≤ 5) : SoundP Tryz.prog 75 [lI [s], aI k] (lI (List.replicate k s)) := by
  refine SoundP.of_sound (Sound.of_awp Tryz.call75 Tryz.func75 rfl (Nat.le_of_ble_eq_true (by kernel_rfl)) (by kernel_rfl) (pl := {}) ?_)
  have w1 : IntKind.u64.wrap (k : Int) = k := wrap_u64 (by omega) (by omega)
  have w2 : IntKind.u64.wrap 1 = 1 := wrap_u64 (by omega) (by omega)
  have w3 : IntKind.i64.wrap (k : Int) = k := wrap_i64 (by omega) (by omega)
  simp [go_sem, show ¬ (k : Int) < 0 by omega, w1, w2]
  refine CallStep.pure (mulB 1 k (by omega) (by omega)) (.cons (.hf (HF.sc _)) (.cons (.hf (HF.sc _)) .nil)) ?_
  rw [show 1 * k / 18446744073709551616 = 0 by omega, show 1 * k % 18446744073709551616 = k by omega]
  simp [go_sem, show ¬ (9223372036854775807 : Int) < k by omega, w3, show (k : Int) ≤ 4294967296 by omega]
  refine ExtGo_copy (ys := [[aI s]]) (by simp [go_sem]) rfl (by simp) rfl (rows_rI [s]) ?_
  have e0 : putCells (List.replicate k (aI 0)) 0 (([[aI s]] : List (List AV)).take k).flatten = rep s k (min 1 k) := by
    have := rep_put s k 0 (min 1 k) (by omega) (by omega)
    rw [Nat.zero_add] at this
    rw [← this]
    cases k with
    | zero => rfl
    | succ k => rw [show min 1 (k + 1) = 1 by omega]; simp [rep]
  simp only [e0]
  simp [go_sem]
  refine LoopGo.keep (fun n st => ∃ m, n = k - m ∧ m ≤ k ∧ (k = m ∨ 1 ≤ m) ∧ st.tm 7 = .sl 0 1 0 k ∧ st.tm 8 = aI m ∧ st.mu = [.arr (rep s k m)]) (k - min 1 k) ?_ ?_
  · exact ⟨min 1 k, rfl, by omega, by omega, by simp [go_sem], by simp [go_sem], by simp [go_sem]⟩
  rintro n st ⟨m, rfl, hm, hm1, e7, e8, em⟩
  by_cases hlt : m < k
  · have hc : rowsOf [.arr (rep s k m)] (.sl 0 1 0 m) = some ((List.replicate m (aI s)).map fun c => [c]) := by
      rw [rowsOf_one (cells := rep s k m) rfl (by rw [rep_len _ _ _ hm]; omega)]
      rw [List.drop_zero, rep_take _ _ _ _ (Nat.le_refl m)]
    simp [go_sem, e7, e8, em, hlt, show m ≤ k by omega]
    refine DrawGo.intro (by kernel_rfl) ?_
    simp [go_sem, e7, e8, em, hlt, show m ≤ k by omega]
    refine ExtGo_copy (cells := rep s k m) (by simp [go_sem]) rfl (by rw [rep_len _ _ _ hm]; omega) hc (rows_one fun c hc => by rw [List.eq_of_mem_replicate hc]; rfl) ?_
    have e1 : putCells (rep s k m) m ((((List.replicate m (aI s)).map fun c => [c]).take (k - m)).flatten) = rep s k (m + min m (k - m)) := by
      rw [← List.map_take, flat_one, List.take_replicate, Nat.min_comm]
      exact rep_put s k m _ hm (by omega)
    simp only [e1]
    simp [go_sem, e7, e8, em]
    refine Keep.loop (k - (m + min m (k - m))) (by omega) ⟨m + min m (k - m), rfl, by omega, by omega, by simp [go_sem, e7], ?_, by simp [go_sem]⟩
    simp [go_sem]
    rw [wrap_i64 (by omega) (by omega)]
  · obtain rfl : m = k := by omega
    simp [go_sem, e7, e8, em]
    have : rep s m m = (List.replicate m s).map aI := by simp [rep]
    rw [this]
    exact (OwnF.ofCells (lo := 0) (mu := [.arr ((List.replicate m s).map aI)]) (b := 0) (Nat.zero_le _) rfl (by simp)).rdI
end Go.Proofs.YtiophnmdopoeeaaGreat.C20

set_option linter.unusedVariables false
set_option linter.unusedSimpArgs false
set_option maxRecDepth 100000
namespace Go.Proofs.YtiophnmdopoeeaaGreat.C21
open Go Go.Ev Go.Proofs Go.Proofs.YtiophnmdopoeeaaGreat.C1 Go.Proofs.YtiophnmdopoeeaaGreat.C2 Go.Proofs.YtiophnmdopoeeaaGreat.C3 Go.Proofs.YtiophnmdopoeeaaGreat.C4 Go.Proofs.YtiophnmdopoeeaaGreat.C7 Go.Proofs.YtiophnmdopoeeaaGreat.C9 Go.Proofs.YtiophnmdopoeeaaGreat.C10 Go.Proofs.YtiophnmdopoeeaaGreat.C11 Go.Proofs.YtiophnmdopoeeaaGreat.C12 Go.Proofs.YtiophnmdopoeeaaGreat.C20

/-- the sorts of the atoms of the first sorts -/
def sortsN (atoms : List Int) (k : Nat) : List Int := foldN (fun i l => l ++ List.replicate (gI atoms i).toNat (i : Int)) [] k
def sortsL (sc : Sc) : List Int := sortsN sc.atoms sc.atoms.length
theorem sortsN_len (sc : Sc) (g : GSc sc) : ∀ k, k ≤ sc.atoms.length → ((sortsN sc.atoms k).length : Int) = sumI (sc.atoms.take k)
  | 0, _ => by simp [sortsN, foldN, sumI]
  | k + 1, h => by
    have ih := sortsN_len sc g k (by omega)
    have hs := sumI_take_succ sc.atoms k (by omega)
    have hg := g.get (k := k) (by omega)
    rw [hs, ← ih, sortsN, foldN_succ, ← sortsN]
    simp only [List.length_append, List.length_replicate, gI_eq (show k < sc.atoms.length by omega)]
    omega

theorem sortsU (sc : Sc) (g : GSc sc) : SoundP Tryz.prog 44 [eSc sc] (lI (sortsL sc)) := by
  refine SoundP.of_sound (Sound.of_awp Tryz.call44 Tryz.func44 rfl (Nat.le_of_ble_eq_true (by kernel_rfl)) (by kernel_rfl) (pl := {}) ?_)
  simp [go_sem]
  refine LoopGo.up sc.atoms.length (fun k st => st.tm 7 = lI sc.atoms ∧ st.tm 8 = aI sc.atoms.length ∧ st.tm 9 = aI k ∧ OwnF 0 st.mu 1 (st.tm 3) ((sortsN sc.atoms k).map rI)) ?_ ?_
  · simp [go_sem, sortsN, foldN]
    exact OwnF.nil (Nat.zero_le _)
  rintro k st hk ⟨e7, e8, e9, ho⟩
  have hl := g.1
  by_cases hlt : k < sc.atoms.length
  · have hg := g.get hlt
    obtain ⟨n, hn⟩ := Int.eq_ofNat_of_zero_le hg.1
    have hsum := g.sum k
    have hlen := sortsN_len sc g k hk
    have hs : sortsN sc.atoms (k + 1) = sortsN sc.atoms k ++ List.replicate n (k : Int) := by rw [sortsN, foldN_succ, gI_eq hlt, hn]; rfl
    simp [go_sem, e7, e8, e9, hlt, hn]
    refine CallStep.pure (repeatI k n (by omega)) (.cons (.lst fun r hr c hc => by simp at hr; subst hr; simp at hc; subst hc; exact HF.sc _) (.cons (.hf (HF.sc _)) .nil)) ?_
    simp [go_sem, e7, e8, e9, hlt, hn]
    refine AppendStep.ints (lo := 0) (e := 3) (bt := 8) (z := 0) (xs := sortsN sc.atoms k) (ys := List.replicate n (k : Int)) (by simp [go_sem]) (by simp [go_sem]) (by simp [go_sem]) (by omega) ho (by simp [rowsOf]) (by simp; omega) ?_
    intro av mu' ho' _
    simp [go_sem, e7, e8, e9, hlt]
    exact ⟨wrap_i64 (by omega) (by omega), by rw [hs, List.map_append]; simpa using ho'⟩
  · have hge : k = sc.atoms.length := by omega
    subst hge
    simp [go_sem, e7, e8, e9]
    exact ho.rdI
end Go.Proofs.YtiophnmdopoeeaaGreat.C21

set_option linter.unusedVariables false
set_option linter.unusedSimpArgs false
set_option maxRecDepth 100000
namespace Go.Proofs.YtiophnmdopoeeaaGreat.C22
open Go Go.Ev Go.Proofs Go.Proofs.YtiophnmdopoeeaaGreat.C1 Go.Proofs.YtiophnmdopoeeaaGreat.C2 Go.Proofs.YtiophnmdopoeeaaGreat.C3 Go.Proofs.YtiophnmdopoeeaaGreat.C4 Go.Proofs.YtiophnmdopoeeaaGreat.C7 Go.Proofs.YtiophnmdopoeeaaGreat.C9 Go.Proofs.YtiophnmdopoeeaaGreat.C10 Go.Proofs.YtiophnmdopoeeaaGreat.C11 Go.Proofs.YtiophnmdopoeeaaGreat.C12 Go.Proofs.YtiophnmdopoeeaaGreat.C16 Go.Proofs.YtiophnmdopoeeaaGreat.C20 Go.Proofs.YtiophnmdopoeeaaGreat.C21

def okP (so p : List Int) (i : Nat) : Bool := decide (0 ≤ gI p i) && decide (gI p i < p.length) && decide (gI so (gI p i).toNat = gI so i)
/-- how often each number is met -/
def cntN (p : List Int) (k : Nat) : List Int := foldN (fun i l => l.set (gI p i).toNat (gI l (gI p i).toNat + 1)) (List.replicate p.length 0) k
theorem cntN_len (p : List Int) : ∀ k, (cntN p k).length = p.length
  | 0 => by simp [cntN, foldN]
  | k + 1 => by
    have := cntN_len p k
    simp only [cntN, foldN_succ, List.length_set] at *
    exact this
theorem cntN_bound (p : List Int) : ∀ k i, 0 ≤ gI (cntN p k) i ∧ gI (cntN p k) i ≤ k
  | 0, i => by
    simp only [cntN, foldN_zero, gI, List.getElem?_replicate]
    split <;> simp
  | k + 1, i => by
    have ih := cntN_bound p k
    have h1 := ih (gI p k).toNat
    have h2 := ih i
    rw [cntN, foldN_succ, ← cntN]
    simp only [gI] at *
    rw [List.getElem?_set]
    split
    · split
      · simp; omega
      · simp; omega
    · omega
def validP (sc : Sc) (p : List Int) : Bool := decide ((p.length : Int) = sumI sc.atoms) && allN (okP (sortsL sc) p) p.length && decide (¬ (0 : Int) ∈ cntN p p.length)

theorem validU (sc : Sc) (g : GSc sc) (h12 : sumI sc.atoms ≤ 12) (p : List Int) : SoundP Tryz.prog 16 [eSc sc, lI p] (aB (validP sc p)) := by
  refine SoundP.of_sound (Sound.of_awp Tryz.call16 Tryz.func16 rfl (Nat.le_of_ble_eq_true (by kernel_rfl)) (by kernel_rfl) (pl := {}) ?_)
  simp [go_sem]
  refine CallStep.pure (usableL sc g) (.cons (.hf (hf_eSc sc)) .nil) ?_
  simp [go_sem, h12]
  refine CallStep.pure (atomsL sc g) (.cons (.hf (hf_eSc sc)) .nil) ?_
  by_cases hl : (p.length : Int) = sumI sc.atoms
  case neg =>
    simp [go_sem, hl]
    have : validP sc p = false := by simp [validP, hl]
    rw [this]
    exact .hf _ (HF.sc _)
  simp [go_sem, hl]
  refine CallStep.pure (sortsU sc g) (.cons (.hf (hf_eSc sc)) .nil) ?_
  have hsl := sortsN_len sc g sc.atoms.length (Nat.le_refl _)
  rw [List.take_length] at hsl
  have hsl : (sortsL sc).length = p.length := by unfold sortsL; omega
  have hp12 : p.length ≤ 12 := by omega
  generalize hso : sortsL sc = so at *
  simp [go_sem, show (p.length : Int) ≤ 4294967296 by omega]
  refine LoopGo.up p.length (fun k st => st.tm 1 = lI p ∧ st.tm 6 = lI so ∧ st.tm 7 = .sl 1 1 0 p.length ∧ st.tm 26 = lI p ∧ st.tm 27 = aI p.length ∧ st.tm 28 = aI k ∧ st.mu = [.arr [lI sc.atoms, aI sc.steps], .arr ((cntN p k).map aI)] ∧ allN (okP so p) k = true) ?_ ?_
  · simp [go_sem, cntN, foldN, allN]
  rintro k st hk ⟨e1, e6, e7, e26, e27, e28, hm, ha⟩
  have hcl := cntN_len p k
  by_cases hlt : k < p.length
  · by_cases hok : okP so p k = true
    · have hlt' : k < so.length := by omega
      simp only [okP, Bool.and_eq_true, decide_eq_true_eq, gI_eq hlt, gI_eq hlt'] at hok
      obtain ⟨⟨h0, h1⟩, h2⟩ := hok
      have hn : p[k].toNat < so.length := by omega
      have hn' : p[k].toNat < p.length := by omega
      rw [gI_eq hn] at h2
      have hb := cntN_bound p k p[k].toNat
      have hgc : gI (cntN p k) p[k].toNat = (cntN p k)[p[k].toNat]'(by omega) := gI_eq (by omega)
      have hgl : p[k].toNat < (cntN p k).length := by omega
      have hs : cntN p (k + 1) = (cntN p k).set p[k].toNat (gI (cntN p k) p[k].toNat + 1) := by rw [cntN, foldN_succ, gI_eq hlt]; rfl
      have hal : allN (okP so p) (k + 1) = true := by
        rw [allN_succ, ha]
        simp only [okP, gI_eq hlt, gI_eq hlt', gI_eq hn, h0, h1, h2]; simp
      have ht : ((((cntN p k).map aI).drop p[k].toNat).take 1) = [aI (gI (cntN p k) p[k].toNat)] := by
        rw [hgc]
        apply take1_drop
        rw [List.getElem?_map, List.getElem?_eq_getElem hgl]; rfl
      have hset : ((cntN p k).map aI).set p[k].toNat (aI (gI (cntN p k) p[k].toNat + 1)) = (cntN p (k + 1)).map aI := by
        rw [hs, List.map_set]
      have hcln : ((cntN p k).map aI).length = p.length := by simp [hcl]
      generalize (cntN p k).map aI = cells at *
      generalize gI (cntN p k) p[k].toNat = q at *
      simp [go_sem, e1, e6, e7, e26, e27, e28, hm, hlt]
      refine DrawGo.intro (by kernel_rfl) ?_
      simp [go_sem, e1, e6, e7, e26, e27, e28, hm, hlt, show ¬ p[k] < 0 by omega, show ¬ (p.length : Int) ≤ p[k] by omega, h0, h1, h2, hn, hlt', show p[k] < so.length by omega]
      have w := wrap_i64 (n := q + 1) (by omega) (by omega)
      simp [go_sem, e1, e6, e7, e26, e27, e28, hm, hlt, h0, h1, hcln, hn', show p[k].toNat + 1 ≤ p.length by omega, ht, w, hset]
      exact ⟨wrap_i64 (by omega) (by omega), hal⟩
    · have hv : validP sc p = false := by
        have : allN (okP (sortsL sc) p) p.length = false := allN_false hlt (by simpa [hso] using hok)
        simp [validP, this]
      rw [hv]
      have hlt' : k < so.length := by omega
      simp only [okP, gI_eq hlt, gI_eq hlt'] at hok
      simp [go_sem, e1, e6, e7, e26, e27, e28, hm, hlt]
      refine DrawGo.intro (by kernel_rfl) ?_
      by_cases h0 : p[k] < 0
      · simp [go_sem, e1, e6, e7, e26, e27, e28, hm, hlt, h0]
        exact .hf _ (HF.sc _)
      by_cases h1 : (p.length : Int) ≤ p[k]
      · simp [go_sem, e1, e6, e7, e26, e27, e28, hm, hlt, h0, h1]
        exact .hf _ (HF.sc _)
      have hn : p[k].toNat < so.length := by omega
      have h2 : ¬ so[p[k].toNat] = so[k] := by
        intro h2
        rw [gI_eq hn, h2] at hok
        simp [show 0 ≤ p[k] by omega, show p[k] < p.length by omega] at hok
      simp [go_sem, e1, e6, e7, e26, e27, e28, hm, hlt, h0, h1, h2, hn, hlt', show 0 ≤ p[k] by omega, show p[k] < so.length by omega]
      exact .hf _ (HF.sc _)
  · have hge : k = p.length := by omega
    subst hge
    have hv : validP sc p = decide (¬ (0 : Int) ∈ cntN p p.length) := by
      simp only [validP, hl, hso, ha]; simp
    rw [hv]
    simp [go_sem, e1, e6, e7, e26, e27, e28, hm]
    refine CallStep.lend (args' := [lI (cntN p p.length), aI 0]) (containsI _ 0 (by omega)) ⟨(OwnF.ofCells (lo := 0) (xs := cntN p p.length) (Nat.zero_le _) rfl hcl).rdI, .hf _ (HF.sc _), trivial⟩ (FL.sc _) ?_
    simp [go_sem, e1, e6, e7, e26, e27, e28, hm]
    exact .hf _ (HF.sc _)
end Go.Proofs.YtiophnmdopoeeaaGreat.C22

set_option linter.unusedVariables false
set_option linter.unusedSimpArgs false
set_option maxRecDepth 100000
namespace Go.Proofs.YtiophnmdopoeeaaGreat.C23
open Go Go.Ev Go.Proofs Go.Proofs.YtiophnmdopoeeaaGreat.C1 Go.Proofs.YtiophnmdopoeeaaGreat.C2 Go.Proofs.YtiophnmdopoeeaaGreat.C3 Go.Proofs.YtiophnmdopoeeaaGreat.C4 Go.Proofs.YtiophnmdopoeeaaGreat.C7 Go.Proofs.YtiophnmdopoeeaaGreat.C9 Go.Proofs.YtiophnmdopoeeaaGreat.C10 Go.Proofs.YtiophnmdopoeeaaGreat.C11 Go.Proofs.YtiophnmdopoeeaaGreat.C12 Go.Proofs.YtiophnmdopoeeaaGreat.C13 Go.Proofs.YtiophnmdopoeeaaGreat.C14 Go.Proofs.YtiophnmdopoeeaaGreat.C16 Go.Proofs.YtiophnmdopoeeaaGreat.C20 Go.Proofs.YtiophnmdopoeeaaGreat.C21 Go.Proofs.YtiophnmdopoeeaaGreat.C22

/-- append to a block of the call's own -/
theorem AppendStep.intsS {P : Program} {lo : Nat} {mu : Mu} {t t' e bt : Nat} {b : Nat} {x : AV} {xs ys : List Int} {z : Int} {K : AV → Mu → Prop} (hs : sliceOf P t = some (e, 1, bt)) (hs' : (sliceOf P t').isSome = true) (hz : zeroOf P e = some (aI z))
    (hb : bt ≤ 16384) {n : Nat} (hn : xs.length = n) (hlo : lo ≤ b) (hc : mu[b]? = some (.arr (xs.map aI))) (hx : rowsOf mu x = some (ys.map rI)) (hl : xs.length + ys.length ≤ 4294967296)
    (k : ∀ b' mu', lo ≤ b' → mu'[b']? = some (.arr ((xs ++ ys).map aI)) → (∀ i, i < lo → mu'[i]? = mu[i]?) → K (.sl b' 1 0 (n + ys.length)) mu') : AppendStep P mu #[t, t'] (.sl b 1 0 n) x K := by
  subst hn
  have hbl : b < mu.length := (List.getElem?_eq_some_iff.1 hc).1
  refine .inl ⟨t, t', e, 1, bt, ys.map rI, rfl, hs, hs', ⟨_, hz, rfl, rfl⟩, by omega, hb, hx, rows_rI ys, .inr ⟨b, xs.length, _, rfl, hc, by simp, by simpa using hl, ?_⟩⟩
  have e1 : (xs.map aI).take (xs.length * 1) ++ (ys.map rI).flatten = (xs ++ ys).map aI := by
    rw [flat_rI, List.take_of_length_le (by simp), List.map_append]
  have e2 : xs.length + (ys.map rI).length = xs.length + ys.length := by simp
  rw [e1, e2]
  refine k _ _ (by omega) ?_ (fun i hi => ?_)
  · rw [List.getElem?_append_right (by simp)]; simp
  · rw [List.getElem?_append_left (by simp; omega), List.getElem?_set_ne (by omega)]

/-- mapped, as one that hands over memory -/
theorem mappedE (mu : Mu) (xs : List Int) (fv : AV) (g : Int → Int) (hf : FnOk Tryz.prog fv (fun x => aI x) (· ∈ xs) (fun x => aI (g x))) (hl : xs.length ≤ 1000000000) :
    Sound Tryz.prog 60 [lI xs, fv] mu fun e m => ∃ b, e = .ret (.sl b 1 0 xs.length) ∧ mu.length ≤ b ∧ m[b]? = some (.arr ((xs.map g).map aI)) ∧ ∀ i, i < mu.length → m[i]? = mu[i]? := by
  refine Sound.of_awp Tryz.call60 Tryz.func60 rfl (Nat.le_of_ble_eq_true (by kernel_rfl)) (by kernel_rfl) (pl := {}) ?_
  simp [go_sem, show (xs.length : Int) ≤ 4294967296 by omega]
  refine LoopGo.keep (fun m st => ∃ k b, m = xs.length - k ∧ k ≤ xs.length ∧ st.tm 1 = fv ∧ st.tm 5 = .sl b 1 0 k ∧ st.tm 11 = lI xs ∧ st.tm 12 = aI xs.length ∧ st.tm 13 = aI (k : Nat) ∧ mu.length ≤ b ∧ st.mu[b]? = some (.arr (((xs.take k).map g).map aI)) ∧ ∀ i, i < mu.length → st.mu[i]? = mu[i]?) xs.length ?_ ?_
  · refine ⟨0, mu.length, by omega, by omega, by simp [go_sem], by simp [go_sem], by simp [go_sem], by simp [go_sem], by simp [go_sem], by omega, by simp [go_sem], fun i hi => ?_⟩
    simp only [put_mu, go_sem]
    rw [List.getElem?_append_left hi]
  rintro m st ⟨k, b, rfl, hk, e1, e5, e11, e12, e13, hlo, hc, hsame⟩
  by_cases hlt : k < xs.length
  · have htk : xs.take (k + 1) = xs.take k ++ [xs[k]] := by rw [List.take_add_one, List.getElem?_eq_getElem hlt]; rfl
    simp [go_sem, e1, e5, e11, e12, e13, hlt]
    refine FnOk.call (enc := fun x => aI x) hf (List.getElem_mem hlt) ?_
    simp [go_sem, e1, e5, e11, e12, e13, hlt]
    have hkl : ((xs.take k).map g).length = k := by simp; omega
    refine AppendStep.intsS (lo := mu.length) (e := 3) (bt := 8) (z := 0) (xs := (xs.take k).map g) (ys := [g xs[k]]) (by simp [go_sem]) (by simp [go_sem]) (by simp [go_sem]) (by omega) hkl hlo hc (by simp [rowsOf]) (by simp; omega) ?_
    intro b' mu' hlo' hc' hs'
    have hcat : (xs.take k).map g ++ [g xs[k]] = (xs.take (k + 1)).map g := by rw [htk, List.map_append]; rfl
    rw [hcat] at hc'
    simp [go_sem, e1, e5, e11, e12, e13, hlt]
    refine Keep.loop (xs.length - (k + 1)) (by omega) ⟨k + 1, b', rfl, by omega, by simp [go_sem, e1], by simp [go_sem], by simp [go_sem, e11], by simp [go_sem, e12], ?_, hlo', by simpa [go_sem] using hc', fun i hi => ?_⟩
    · simp [go_sem]; exact wrap_i64 (by omega) (by omega)
    · simp [go_sem]; rw [hs' i hi, hsame i hi]
  · have hge : k = xs.length := by omega
    subst hge
    simp [go_sem, e1, e5, e11, e12, e13]
    rw [List.take_length] at hc
    exact ⟨hlo, by simpa using hc, hsame⟩

theorem sortE {mu : Mu} {b : Nat} {zs : List Int} (hc : mu[b]? = some (.arr (zs.map aI))) (hl : zs.length ≤ 1000000000) :
    Sound Tryz.prog 61 [.sl b 1 0 zs.length] mu fun e m => e = .ret (.tup []) ∧ m = mu.set b (.arr ((srtI zs).map aI)) := by
  have := sort_sound (P := Tryz.prog) Tryz.call61 (fun blk off cap zs w h1 h2 h3 => Tryz.slices_Sort_int blk off cap zs w h1 h2 h3) (mu := mu) (b := b) (off := 0) (cells := zs.map aI) (zs := zs) hc
    (fun k n h => by rw [Nat.zero_add, List.getElem?_map, h]; rfl) (by omega) (by simp)
  have e : putCells (zs.map aI) 0 ((srtI zs).map fun n => .sc (.int .i64 n)) = (srtI zs).map aI := by
    rw [putCells_eq _ _ _ (by simp [srtI_len])]
    simp [srtI_len]
  rw [e] at this
  exact this

/-- the image of a relation -/
def relImg (p : List Int) (r : Rl) : Rl := ⟨r.ar, srtI (r.ts.map fun t => imgN p p.length t r.ar.toNat)⟩

theorem relPg (sc : Sc) (p : List Int) (r : Rl) (g : ∀ t, t ∈ r.ts → GP p) (h0 : 0 ≤ r.ar) (h3 : r.ar ≤ 3) (hl : r.ts.length ≤ 1000000000) (hr : ∀ t, t ∈ r.ts → 0 ≤ t ∧ t ≤ 1000000) : SoundP Tryz.prog 30 [eSc sc, lI p, eRel r] (eRel (relImg p r)) := by
  refine SoundP.of_sound (Sound.of_awp Tryz.call30 Tryz.func30 rfl (Nat.le_of_ble_eq_true (by kernel_rfl)) (by kernel_rfl) (pl := {}) ?_)
  obtain ⟨ar, ts⟩ := r
  obtain ⟨n, rfl⟩ := Int.eq_ofNat_of_zero_le h0
  have hn : n ≤ 3 := by simp at h3; omega
  have ha : HF (.agg [lI p, aI n]) := HF.agg fun c hc => by
    simp at hc
    rcases hc with rfl | rfl
    · exact hf_lI p
    · exact HF.sc _
  have hfv : HF (.fn (.func 59) [.agg [lI p, aI n]] []) := HF.fn (fun c hc => by
    simp at hc; subst hc; exact ha) (fun c hc => by simp at hc)
  have hf : FnOk Tryz.prog (.fn (.func 59) [.agg [lI p, aI n]] []) (fun x => aI x) (· ∈ ts) (fun x => aI (imgN p p.length x n)) :=
    ⟨hfv, _, _, _, rfl, fun x hx => ⟨[.agg [lI p, aI n], aI x], .cons (.hf ha) (.cons (.hf (HF.sc _)) .nil), permRank p (g x hx) n hn x (hr x hx).1 (hr x hx).2⟩⟩
  simp [go_sem]
  refine CallStep.eff (caps := []) (mappedE _ ts _ (fun x => imgN p p.length x n) hf hl) ?_ (by rintro r m ⟨b, h, _⟩; cases h)
  rintro _ m ⟨b, hb, hlo, hc, hs⟩
  cases hb
  simp [go_sem]
  have hml : (ts.map fun x => imgN p p.length x n).length = ts.length := by simp
  have hse := sortE (mu := m) (b := b) (zs := ts.map fun x => imgN p p.length x n) hc (by simpa using hl)
  rw [hml] at hse
  refine CallStep.eff (caps := []) hse ?_ (by rintro r m ⟨h, _⟩; cases h)
  rintro _ m' ⟨hr', rfl⟩
  cases hr'
  have h0 := hs 0 (by simp)
  have hb0 : b ≠ 0 := by simp at hlo; omega
  have hm0 : (m.set b (.arr ((srtI (ts.map fun x => imgN p p.length x n)).map aI)))[0]? = some (.arr [aI 0, .lst true []]) := by
    rw [List.getElem?_set_ne hb0, h0]; rfl
  have hbl : b < m.length := (List.getElem?_eq_some_iff.1 hc).1
  have hmb : (m.set b (.arr ((srtI (ts.map fun x => imgN p p.length x n)).map aI)))[b]? = some (.arr ((srtI (ts.map fun x => imgN p p.length x n)).map aI)) := by
    rw [List.getElem?_set_self hbl]
  generalize m.set b (.arr ((srtI (ts.map fun x => imgN p p.length x n)).map aI)) = m2 at *
  simp [go_sem, hm0]
  have hm0' : (m2.set 0 (Cell.arr [AV.sc (Value.int IntKind.i64 ↑n), AV.sl b 1 0 ts.length]))[0]? = some (Cell.arr [AV.sc (Value.int IntKind.i64 ↑n), AV.sl b 1 0 ts.length]) := by
    rw [List.getElem?_set_self (List.getElem?_eq_some_iff.1 hm0).1]
  have hmb' : (m2.set 0 (Cell.arr [AV.sc (Value.int IntKind.i64 ↑n), AV.sl b 1 0 ts.length]))[b]? = some (.arr ((srtI (ts.map fun x => imgN p p.length x n)).map aI)) := by
    rw [List.getElem?_set_ne (fun h => hb0 h.symm)]; exact hmb
  generalize m2.set 0 (Cell.arr [AV.sc (Value.int IntKind.i64 ↑n), AV.sl b 1 0 ts.length]) = m3 at *
  rw [hm0']
  simp [go_sem]
  have hrd := (OwnF.ofCells (lo := 0) (mu := m3) (b := b) (n := ts.length) (xs := srtI (ts.map fun x => imgN p p.length x n)) (Nat.zero_le _) hmb' (by simp [srtI_len])).rdI
  exact Rd.rel (r := relImg p ⟨n, ts⟩) hrd
theorem relP (sc : Sc) (p : List Int) (g : GP p) (r : Rl) (h0 : 0 ≤ r.ar) (h3 : r.ar ≤ 3) (hl : r.ts.length ≤ 1000000000) (hr : ∀ t, t ∈ r.ts → 0 ≤ t ∧ t ≤ 1000000) : SoundP Tryz.prog 30 [eSc sc, lI p, eRel r] (eRel (relImg p r)) :=
  relPg sc p r (fun _ _ => g) h0 h3 hl hr
theorem relP0 (sc : Sc) (p : List Int) (r : Rl) (h0 : 1 ≤ r.ar) (h3 : r.ar ≤ 3) (h : r.ts = []) : SoundP Tryz.prog 30 [eSc sc, lI p, eRel r] (eRel (relImg p r)) :=
  relPg sc p r (fun t ht => by rw [h] at ht; simp at ht) (by omega) h3 (by rw [h]; simp) (fun t ht => by rw [h] at ht; simp at ht)
end Go.Proofs.YtiophnmdopoeeaaGreat.C23

set_option linter.unusedVariables false
set_option linter.unusedSimpArgs false
set_option maxRecDepth 100000
namespace Go.Proofs.YtiophnmdopoeeaaGreat.C24
open Go Go.Ev Go.Proofs Go.Proofs.YtiophnmdopoeeaaGreat.C1 Go.Proofs.YtiophnmdopoeeaaGreat.C2 Go.Proofs.YtiophnmdopoeeaaGreat.C3 Go.Proofs.YtiophnmdopoeeaaGreat.C4 Go.Proofs.YtiophnmdopoeeaaGreat.C7 Go.Proofs.YtiophnmdopoeeaaGreat.C9 Go.Proofs.YtiophnmdopoeeaaGreat.C10 Go.Proofs.YtiophnmdopoeeaaGreat.C11 Go.Proofs.YtiophnmdopoeeaaGreat.C12 Go.Proofs.YtiophnmdopoeeaaGreat.C13 Go.Proofs.YtiophnmdopoeeaaGreat.C14 Go.Proofs.YtiophnmdopoeeaaGreat.C16 Go.Proofs.YtiophnmdopoeeaaGreat.C20 Go.Proofs.YtiophnmdopoeeaaGreat.C21 Go.Proofs.YtiophnmdopoeeaaGreat.C22 Go.Proofs.YtiophnmdopoeeaaGreat.C23

/-- a relation over n atoms -/
structure GRel (n : Int) (r : Rl) : Prop where
  ar1 : 1 ≤ r.ar
  ar3 : r.ar ≤ 3
  len : r.ts.length ≤ 2000
  val : ∀ t, t ∈ r.ts → 0 ≤ t ∧ t < n ^ r.ar.toNat
  srt : sorted r.ts
/-- a universe -/
structure GU (sc : Sc) : Prop where
  g : GSc sc
  n0 : 0 ≤ sumI sc.atoms
  n12 : sumI sc.atoms ≤ 12
structure GBs (n : Int) (bs : List Bd) : Prop where
  len : bs.length ≤ 6
  rel : ∀ b, b ∈ bs → GRel n b.lo ∧ GRel n b.up
theorem GRel.small {n : Int} {r : Rl} (h0 : 0 ≤ n) (h : GRel n r) (hn : n ≤ 20) : ∀ t, t ∈ r.ts → 0 ≤ t ∧ t ≤ 8000 ∧ 1 ≤ n := by
  intro t ht
  have hv := h.val t ht
  have := h.ar1
  have := h.ar3
  have hp := pow_ok h0 hn r.ar.toNat (by omega)
  refine ⟨hv.1, by omega, ?_⟩
  refine Decidable.byContradiction fun hc => ?_
  have : n = 0 := by omega
  subst this
  rw [Int.zero_pow (by omega)] at hv
  omega

theorem validP_spec {sc : Sc} {p : List Int} (h : validP sc p = true) : (p.length : Int) = sumI sc.atoms ∧ (∀ x, x ∈ p → 0 ≤ x ∧ x < p.length) := by
  simp only [validP, Bool.and_eq_true, decide_eq_true_eq] at h
  refine ⟨h.1.1, fun x hx => ?_⟩
  obtain ⟨i, hi, rfl⟩ := List.getElem_of_mem hx
  have := allN_iff.1 h.1.2 i hi
  simp only [okP, Bool.and_eq_true, decide_eq_true_eq, gI_eq hi] at this
  exact this.1

theorem relP' (sc : Sc) (p : List Int) (n : Int) (hn : (p.length : Int) = n) (hn12 : n ≤ 12) (hp : ∀ x, x ∈ p → 0 ≤ x ∧ x < p.length) (r : Rl) (gr : GRel n r) : SoundP Tryz.prog 30 [eSc sc, lI p, eRel r] (eRel (relImg p r)) := by
  have hs := gr.small (by omega) (by omega)
  have h1 := gr.ar1
  by_cases h : 1 ≤ p.length
  · exact relP sc p ⟨h, by omega, fun x hx => by have := hp x hx; omega⟩ r (by omega) gr.ar3 (by have := gr.len; omega) (fun t ht => by have := hs t ht; omega)
  · have hts : r.ts = [] := by
      cases hq : r.ts with
      | nil => rfl
      | cons t l => have := hs t (by simp [hq]); omega
    exact relP0 sc p r h1 gr.ar3 hts

theorem indexFuncR (rs : List Rl) (fv : AV) (p : Rl → Bool) (hf : FnOk Tryz.prog fv eRel (· ∈ rs) (fun r => aB (p r))) (hl : rs.length ≤ 1000000000) : SoundP Tryz.prog 57 [lRel rs, fv] (aI (firstIn p rs 0)) := by
  refine SoundP.of_sound (Sound.of_awp Tryz.call57 Tryz.func57 rfl (Nat.le_of_ble_eq_true (by kernel_rfl)) (by kernel_rfl) (pl := {}) ?_)
  simp [go_sem]
  refine LoopGo.up rs.length (fun k st => st.tm 0 = lRel rs ∧ st.tm 1 = fv ∧ st.tm 7 = aI rs.length ∧ st.tm 8 = aI k ∧ st.mu = [] ∧ firstIn p (rs.drop k) k = firstIn p rs 0) ?_ ?_
  · simp [go_sem]
  rintro k st hk ⟨e0, e1, e7, e8, hm, hi⟩
  by_cases hlt : k < rs.length
  · rw [firstIn_drop _ _ _ _ hlt] at hi
    simp [go_sem, e0, e1, e7, e8, hm, hlt]
    refine FnOk.call (enc := eRel) hf (List.getElem_mem hlt) ?_
    by_cases hx : p rs[k] = true
    · rw [if_pos hx] at hi
      simp [go_sem, e0, e1, e7, e8, hm, hlt, hx]
      rw [← hi]
      exact .hf _ (HF.sc _)
    · rw [if_neg hx] at hi
      simp only [Bool.not_eq_true] at hx
      simp [go_sem, e0, e1, e7, e8, hm, hlt, hx]
      exact ⟨wrap_i64 (by omega) (by omega), hi⟩
  · have hge : k = rs.length := by omega
    subst hge
    rw [List.drop_length] at hi
    simp [go_sem, e0, e1, e7, e8, hm]
    rw [← hi]
    exact .hf _ (HF.sc _)

theorem containsFuncR (rs : List Rl) (fv : AV) (p : Rl → Bool) (hf : FnOk Tryz.prog fv eRel (· ∈ rs) (fun r => aB (p r))) (hl : rs.length ≤ 1000000000) : SoundP Tryz.prog 26 [lRel rs, fv] (aB (rs.any p)) := by
  refine SoundP.of_sound (Sound.of_awp Tryz.call26 Tryz.func26 rfl (Nat.le_of_ble_eq_true (by kernel_rfl)) (by kernel_rfl) (pl := {}) ?_)
  simp [go_sem]
  refine CallStep.pure (indexFuncR rs fv p hf hl) (.cons (.hf (hf_lRel _)) (.cons (.hf hf.1) .nil)) ?_
  rw [← firstIn_any p rs 0 (by omega)]
  simp [go_sem]
  exact .hf _ (HF.sc _)

theorem symmetric1 (sc : Sc) (p : List Int) (n : Int) (hn : (p.length : Int) = n) (hn12 : n ≤ 12) (hp : ∀ x, x ∈ p → 0 ≤ x ∧ x < p.length) (r : Rl) (gr : GRel n r) :
    SoundP Tryz.prog 28 [eRel r, .ip [lI sc.atoms, aI sc.steps], .ip [lI p]] (aB (!decide (r = relImg p r))) := by
  refine SoundP.of_sound (Sound.of_awp Tryz.call28 Tryz.func28 rfl (Nat.le_of_ble_eq_true (by kernel_rfl)) (by kernel_rfl) (pl := {}) ?_)
  simp [go_sem]
  refine DrawGo.intro (by kernel_rfl) ?_
  simp [go_sem]
  refine CallStep.pure (relP' sc p n hn hn12 hp r gr) (.cons (.hf (hf_eSc sc)) (.cons (.hf (hf_lI p)) (.cons (.hf (hf_eRel r)) .nil))) ?_
  simp [go_sem]
  refine CallStep.pure (equalR r (relImg p r) (by have := gr.len; omega)) (.cons (.hf (hf_eRel r)) (.cons (.hf (hf_eRel _)) .nil)) ?_
  simp [go_sem]
  exact .hf _ (HF.sc _)

theorem GBs.rels {n : Int} {bs : List Bd} (g : GBs n bs) : (relsOf bs).length ≤ 12 ∧ ∀ r, r ∈ relsOf bs → GRel n r := by
  refine ⟨by rw [relsOf_len]; have := g.len; omega, fun r hr => ?_⟩
  obtain ⟨b, hb, hr⟩ := List.mem_flatMap.1 hr
  have := g.rel b hb
  simp at hr
  rcases hr with rfl | rfl
  · exact this.1
  · exact this.2

def symB (sc : Sc) (bs : List Bd) (p : List Int) : Bool := validP sc p && (relsOf bs).all fun r => decide (r = relImg p r)

theorem symmetricU (sc : Sc) (u : GU sc) (bs : List Bd) (gb : GBs (sumI sc.atoms) bs) (p : List Int) : SoundP Tryz.prog 9 [eSc sc, lBd bs, lI p] (aB (symB sc bs p)) := by
  refine SoundP.of_sound (Sound.of_awp Tryz.call9 Tryz.func9 rfl (Nat.le_of_ble_eq_true (by kernel_rfl)) (by kernel_rfl) (pl := {}) ?_)
  simp [go_sem]
  refine CallStep.pure (validU sc u.g u.n12 p) (.cons (.hf (hf_eSc sc)) (.cons (.hf (hf_lI p)) .nil)) ?_
  by_cases hv : validP sc p = true
  case neg =>
    simp only [Bool.not_eq_true] at hv
    simp [go_sem, hv, symB]
    exact .hf _ (HF.sc _)
  obtain ⟨hl, hx⟩ := validP_spec hv
  have hr := gb.rels
  have hip : HF (.ip [lI p]) := HF.ip fun c hc => by
    simp at hc; subst hc; exact hf_lI p
  have his : HF (.ip [lI sc.atoms, aI sc.steps]) := HF.ip fun c hc => by
    simp at hc
    rcases hc with rfl | rfl
    · exact hf_lI _
    · exact HF.sc _
  have hfv : HF (.fn (.func 28) [] [.ip [lI sc.atoms, aI sc.steps], .ip [lI p]]) := HF.fn (fun c hc => by simp at hc) (fun c hc => by
    simp at hc
    rcases hc with rfl | rfl
    · exact his
    · exact hip)
  simp [go_sem, hv]
  refine CallStep.pure (relationsL bs (by have := gb.len; omega)) (.cons (.hf (hf_lBd bs)) .nil) ?_
  simp [go_sem]
  refine CallStep.pure (containsFuncR (relsOf bs) _ (fun r => !decide (r = relImg p r)) ⟨hfv, _, _, _, rfl, fun r h => ⟨[eRel r, .ip [lI sc.atoms, aI sc.steps], .ip [lI p]], .cons (.hf (hf_eRel r)) (.cons (.hf his) (.cons (.hf hip) .nil)), symmetric1 sc p _ hl u.n12 hx r (hr.2 r h)⟩⟩ (by omega)) (.cons (.hf (hf_lRel _)) (.cons (.hf hfv) .nil)) ?_
  have e : symB sc bs p = !((relsOf bs).any fun r => !decide (r = relImg p r)) := by
    simp only [symB, hv, Bool.true_and]
    rw [List.not_any_eq_all_not]
    simp
  rw [e]
  simp [go_sem]
  exact .hf _ (HF.sc _)
end Go.Proofs.YtiophnmdopoeeaaGreat.C24

set_option linter.unusedVariables false
set_option linter.unusedSimpArgs false
set_option maxRecDepth 100000
namespace Go.Proofs.YtiophnmdopoeeaaGreat.C25
open Go Go.Ev Go.Proofs Go.Proofs.YtiophnmdopoeeaaGreat.C1 Go.Proofs.YtiophnmdopoeeaaGreat.C2 Go.Proofs.YtiophnmdopoeeaaGreat.C3 Go.Proofs.YtiophnmdopoeeaaGreat.C4 Go.Proofs.YtiophnmdopoeeaaGreat.C7 Go.Proofs.YtiophnmdopoeeaaGreat.C9 Go.Proofs.YtiophnmdopoeeaaGreat.C10 Go.Proofs.YtiophnmdopoeeaaGreat.C11 Go.Proofs.YtiophnmdopoeeaaGreat.C12 Go.Proofs.YtiophnmdopoeeaaGreat.C16 Go.Proofs.YtiophnmdopoeeaaGreat.C17 Go.Proofs.YtiophnmdopoeeaaGreat.C18 Go.Proofs.YtiophnmdopoeeaaGreat.C20 Go.Proofs.YtiophnmdopoeeaaGreat.C22 Go.Proofs.YtiophnmdopoeeaaGreat.C24

def bump (m : Sig) (w : List Int) : Sig := match placeW w m 0 with | some i => m.set i (w, lookS m w + 1) | none => m ++ [(w, 1)]
def gS (ms : List Sig) (i : Nat) : Sig := (ms[i]?).getD []
theorem gS_eq {ms : List Sig} {i : Nat} (h : i < ms.length) : gS ms i = ms[i] := by simp [gS, h]
def gR (rs : List Rl) (i : Nat) : Rl := (rs[i]?).getD ⟨0, []⟩
theorem gR_eq {rs : List Rl} {i : Nat} (h : i < rs.length) : gR rs i = rs[i] := by simp [gR, h]
def wordN (i : Int) (cls : List Int) (x : Int) (tup : List Int) (j : Nat) : List Int := foldN (fun c w => if gI tup c = x then w else w.set (c + 1) (gI cls (gI tup c).toNat + 1)) [i, 0, 0, 0] j
def tupStep (i : Int) (cls tup : List Int) (ms : List Sig) (k : Nat) : List Sig :=
  if firstIn (fun y => decide (y = gI tup k)) tup 0 < k then ms else ms.set (gI tup k).toNat (bump (gS ms (gI tup k).toNat) (wordN i cls (gI tup k) tup tup.length))
def tupN (i : Int) (cls tup : List Int) (ms : List Sig) (k : Nat) : List Sig := foldN (fun k ms => tupStep i cls tup ms k) ms k
def relN (n : Int) (i : Int) (cls : List Int) (r : Rl) (ms : List Sig) (j : Nat) : List Sig := foldN (fun j ms => tupN i cls (digN n (gI r.ts j) r.ar.toNat) ms r.ar.toNat) ms j
def sigsN (n : Int) (cls : List Int) (rs : List Rl) (i : Nat) : List Sig := foldN (fun i ms => relN n i cls (gR rs i) ms (gR rs i).ts.length) (List.replicate cls.length []) i
def sigsOf (n : Int) (cls : List Int) (rs : List Rl) : List Sig := sigsN n cls rs rs.length

structure SigB (B : Nat) (m : Sig) : Prop where
  ok : ∀ p, p ∈ m → p.1.length = 4 ∧ 0 ≤ p.2 ∧ p.2 ≤ B
  len : m.length ≤ B
theorem SigB.le {B C : Nat} {m : Sig} (h : SigB B m) (hc : B ≤ C) : SigB C m := ⟨fun p hp => by have := h.ok p hp; omega, by have := h.len; omega⟩
theorem placeW_lt (w : List Int) : ∀ (m : Sig) (k j : Nat), placeW w m k = some j → k ≤ j ∧ j < k + m.length
  | [], k, j, h => by simp [placeW] at h
  | q :: m, k, j, h => by
    rw [placeW] at h
    split at h
    · simp only [Option.some.injEq] at h; simp; omega
    · have := placeW_lt w m (k + 1) j h; simp; omega
theorem look_bound {B : Nat} {m : Sig} (h : SigB B m) (w : List Int) : 0 ≤ lookS m w ∧ lookS m w ≤ B := by
  unfold lookS
  split
  · rename_i i hi
    have := (placeW_lt w m 0 i hi).2
    have hl : i < m.length := by omega
    rw [List.getElem?_eq_getElem hl]
    have := h.ok _ (List.getElem_mem hl)
    exact this.2
  · omega
theorem SigB.bump {B : Nat} {m : Sig} (h : SigB B m) {w : List Int} (hw : w.length = 4) : SigB (B + 1) (bump m w) := by
  have hb := look_bound h w
  unfold C25.bump
  split
  · rename_i i hi
    refine ⟨fun p hp => ?_, by have := h.len; simp; omega⟩
    rcases List.mem_or_eq_of_mem_set hp with hp | hp
    · have := h.ok p hp; omega
    · subst hp; exact ⟨hw, by simp; omega, by simp; omega⟩
  · refine ⟨fun p hp => ?_, by have := h.len; simp; omega⟩
    rcases List.mem_append.1 hp with hp | hp
    · have := h.ok p hp; omega
    · simp at hp; subst hp; exact ⟨hw, by simp, by simp; omega⟩
def SigsB (B : Nat) (ms : List Sig) : Prop := ∀ m, m ∈ ms → SigB B m
theorem wordN_len (i : Int) (cls : List Int) (x : Int) (tup : List Int) : ∀ j, (wordN i cls x tup j).length = 4
  | 0 => rfl
  | j + 1 => by
    have := wordN_len i cls x tup j
    rw [wordN, foldN_succ, ← wordN]
    split
    · exact this
    · simpa using this
theorem gS_B {B : Nat} {ms : List Sig} (h : SigsB B ms) (i : Nat) : SigB B (gS ms i) := by
  by_cases hi : i < ms.length
  · rw [gS_eq hi]; exact h _ (List.getElem_mem hi)
  · rw [gS, List.getElem?_eq_none (by omega)]; exact ⟨by simp, by simp⟩
theorem SigsB.step {B : Nat} {ms : List Sig} (h : SigsB B ms) (i : Int) (cls tup : List Int) (k : Nat) : SigsB (B + 1) (tupStep i cls tup ms k) := by
  unfold tupStep
  split
  · exact fun m hm => (h m hm).le (by omega)
  · intro m hm
    rcases List.mem_or_eq_of_mem_set hm with hm | hm
    · exact (h m hm).le (by omega)
    · subst hm; exact (gS_B h _).bump (wordN_len _ _ _ _ _)
theorem SigsB.tupN {B : Nat} {ms : List Sig} (h : SigsB B ms) (i : Int) (cls tup : List Int) : ∀ k, SigsB (B + k) (tupN i cls tup ms k)
  | 0 => h
  | k + 1 => by
    have := (SigsB.tupN h i cls tup k).step i cls tup k
    exact this
theorem SigsB.relN {B : Nat} {ms : List Sig} (h : SigsB B ms) (n i : Int) (cls : List Int) (r : Rl) (har : r.ar.toNat ≤ 3) : ∀ j, SigsB (B + 3 * j) (relN n i cls r ms j)
  | 0 => h
  | j + 1 => by
    have := (SigsB.relN h n i cls r har j).tupN i cls (digN n (gI r.ts j) r.ar.toNat) r.ar.toNat
    exact fun m hm => (this m hm).le (by omega)
theorem SigsB.sigsN (n : Int) (cls : List Int) (rs : List Rl) (hr : ∀ r, r ∈ rs → GRel n r) : ∀ i, SigsB (6000 * i) (sigsN n cls rs i)
  | 0 => fun m hm => by
    rw [C25.sigsN, foldN_zero] at hm
    rw [List.eq_of_mem_replicate hm]
    exact ⟨by simp, by simp⟩
  | i + 1 => by
    have hg : (gR rs i).ar.toNat ≤ 3 ∧ (gR rs i).ts.length ≤ 2000 := by
      by_cases hi : i < rs.length
      · rw [gR_eq hi]; have := hr _ (List.getElem_mem hi); have h1 := this.ar3; exact ⟨by omega, this.len⟩
      · rw [gR, List.getElem?_eq_none (by omega)]; simp
    have := (SigsB.sigsN n cls rs hr i).relN n i cls (gR rs i) hg.1 (gR rs i).ts.length
    exact fun m hm => (this m hm).le (by omega)
theorem sigsOf_ok {n : Int} {cls : List Int} {rs : List Rl} (hr : ∀ r, r ∈ rs → GRel n r) (hl : rs.length ≤ 100) : ∀ m, m ∈ sigsOf n cls rs → SigOk m ∧ m.length ≤ 1000000 := fun m hm => by
  have := SigsB.sigsN n cls rs hr rs.length m hm
  exact ⟨fun p hp => (this.ok p hp).1, by have := this.len; omega⟩

/-- the memory: the row of maps, the maps -/
structure SM (n : Nat) (mu : Mu) (ms : List Sig) : Prop where
  ptr : mu[0]? = some (.arr ((List.range n).map fun i => .mp (1 + i)))
  len : ms.length = n
  mp : ∀ (x : Nat) (h : x < ms.length), mu[1 + x]? = some (.mp (ms[x].map eE))
theorem SM.lt {n : Nat} {mu : Mu} {ms : List Sig} (s : SM n mu ms) : n < mu.length := by
  cases n with
  | zero => exact (List.getElem?_eq_some_iff.1 s.ptr).1
  | succ n => have := (List.getElem?_eq_some_iff.1 (s.mp n (by rw [s.len]; omega))).1; omega
theorem SM.push {n : Nat} {mu : Mu} {ms : List Sig} (s : SM n mu ms) (c : Cell) : SM n (mu ++ [c]) ms := by
  have hl := s.lt
  exact ⟨by rw [List.getElem?_append_left (by omega)]; exact s.ptr, s.len, fun x h => by rw [List.getElem?_append_left (by have := s.len; omega)]; exact s.mp x h⟩
theorem SM.hi {n L : Nat} {mu : Mu} {ms : List Sig} (s : SM n mu ms) (hL : n < L) (c : Cell) : SM n (mu.set L c) ms :=
  ⟨by rw [List.getElem?_set_ne (by omega)]; exact s.ptr, s.len, fun x h => by rw [List.getElem?_set_ne (by have := s.len; omega)]; exact s.mp x h⟩
theorem SM.upd {n x : Nat} {mu : Mu} {ms : List Sig} (s : SM n mu ms) (hx : x < n) (m : Sig) : SM n (mu.set (1 + x) (.mp (m.map eE))) (ms.set x m) := by
  have hl := s.lt
  refine ⟨by rw [List.getElem?_set_ne (by omega)]; exact s.ptr, by simp [s.len], fun y h => ?_⟩
  simp only [List.length_set] at h
  by_cases e : x = y
  · subst e
    rw [List.getElem?_set_self (by omega), List.getElem_set_self]
  · rw [List.getElem?_set_ne (by omega), List.getElem_set_ne e]; exact s.mp y h
theorem flat_eM (l : List Sig) : (l.map fun m => [eM m]).flatten = l.map eM := by
  induction l with
  | nil => rfl
  | cons a l ih => simp only [List.map_cons, List.flatten_cons, ih]; rfl
theorem SM.rd {n : Nat} {mu : Mu} {ms : List Sig} (s : SM n mu ms) : Rd mu (.sl 0 1 0 n) (lSig ms) := by
  have hlen := s.len
  refine .sl 0 1 0 n _ _ s.ptr (by simp) (by simp [hlen]) (fun r hr => ?_) (fun k x y hx hy => ?_)
  · obtain ⟨m, _, rfl⟩ := List.mem_map.1 hr; rfl
  · rw [Nat.zero_add, List.getElem?_map] at hx
    rw [flat_eM, List.getElem?_map] at hy
    cases hq : ms[k]? with
    | none => rw [hq] at hy; simp at hy
    | some m =>
      rw [hq] at hy; simp at hy; subst hy
      have hk : k < ms.length := (List.getElem?_eq_some_iff.1 hq).1
      rw [List.getElem?_range (by omega)] at hx
      simp at hx; subst hx
      have hmp := s.mp k hk
      have hmk : ms[k] = m := by rw [List.getElem?_eq_getElem hk] at hq; exact Option.some.inj hq
      rw [hmk] at hmp
      refine .mp (1 + k) (m.map eE) (m.map eE) hmp rfl (fun j a b ha hb => ?_) (fun j a b ha hb => ?_)
      · rw [ha] at hb; cases hb
        obtain ⟨q, _, rfl⟩ := List.mem_map.1 (List.mem_of_getElem? ha)
        exact .hf _ (HF.agg fun c hc => by
          obtain ⟨i, _, rfl⟩ := List.mem_map.1 hc
          exact HF.sc _)
      · rw [ha] at hb; cases hb
        obtain ⟨q, _, rfl⟩ := List.mem_map.1 (List.mem_of_getElem? ha)
        exact .hf _ (HF.sc _)
end Go.Proofs.YtiophnmdopoeeaaGreat.C25

set_option linter.unusedVariables false
set_option linter.unusedSimpArgs false
set_option maxRecDepth 100000
namespace Go.Proofs.YtiophnmdopoeeaaGreat.C26
open Go Go.Ev Go.Proofs Go.Proofs.YtiophnmdopoeeaaGreat.C1 Go.Proofs.YtiophnmdopoeeaaGreat.C2 Go.Proofs.YtiophnmdopoeeaaGreat.C3 Go.Proofs.YtiophnmdopoeeaaGreat.C4 Go.Proofs.YtiophnmdopoeeaaGreat.C7 Go.Proofs.YtiophnmdopoeeaaGreat.C9 Go.Proofs.YtiophnmdopoeeaaGreat.C10 Go.Proofs.YtiophnmdopoeeaaGreat.C11 Go.Proofs.YtiophnmdopoeeaaGreat.C12 Go.Proofs.YtiophnmdopoeeaaGreat.C16 Go.Proofs.YtiophnmdopoeeaaGreat.C17 Go.Proofs.YtiophnmdopoeeaaGreat.C18 Go.Proofs.YtiophnmdopoeeaaGreat.C20 Go.Proofs.YtiophnmdopoeeaaGreat.C22 Go.Proofs.YtiophnmdopoeeaaGreat.C24 Go.Proofs.YtiophnmdopoeeaaGreat.C25

theorem signaturesU (sc : Sc) (u : GU sc) (rs : List Rl) (hr : ∀ r, r ∈ rs → GRel (sumI sc.atoms) r) (hrl : rs.length ≤ 100) (cls : List Int) (hcl : (cls.length : Int) = sumI sc.atoms) (hc : ∀ c, c ∈ cls → 0 ≤ c ∧ c ≤ 100) :
    SoundP Tryz.prog 52 [eSc sc, lRel rs, lI cls] (lSig (sigsOf (sumI sc.atoms) cls rs)) := by
  refine SoundP.of_sound (Sound.of_awp Tryz.call52 Tryz.func52 rfl (Nat.le_of_ble_eq_true (by kernel_rfl)) (by kernel_rfl) (pl := {}) ?_)
  have hn12 := u.n12
  have hcl12 : cls.length ≤ 12 := by omega
  generalize hN : cls.length = N at *
  simp [go_sem, hN, show (N : Int) ≤ 4294967296 by omega]
  refine LoopGo.up N (fun i st => st.tm 1 = lRel rs ∧ st.tm 2 = lI cls ∧ st.tm 3 = .ip [lI sc.atoms, aI sc.steps] ∧ st.tm 7 = .sl 0 1 0 N ∧ st.tm 23 = aI N ∧ st.tm 24 = aI i ∧ st.mu = .arr ((List.range i).map (fun j => AV.mp (1 + j)) ++ List.replicate (N - i) (AV.sc (.map none))) :: List.replicate i (.mp [])) ?_ ?_
  · simp [go_sem, hN]
  rintro i st hi ⟨e1, e2, e3, e7, e23, e24, hm⟩
  by_cases hlt : i < N
  · have hml : st.mu.length = 1 + i := by rw [hm]; simp; omega
    have hset : ((List.range i).map (fun j => AV.mp (1 + j)) ++ List.replicate (N - i) (AV.sc (.map none))).set i (.mp (1 + i)) = (List.range (i + 1)).map (fun j => AV.mp (1 + j)) ++ List.replicate (N - (i + 1)) (AV.sc (.map none)) := by
      rw [show N - i = (N - (i + 1)) + 1 by omega, List.replicate_succ, List.set_append_right _ _ (by simp)]
      simp [List.range_succ]
    have hcl : ((List.range i).map (fun j => AV.mp (1 + j)) ++ List.replicate (N - i) (AV.sc (.map none))).length = N := by simp; omega
    generalize (List.range i).map (fun j => AV.mp (1 + j)) ++ List.replicate (N - i) (AV.sc (.map none)) = cells at *
    simp [go_sem, e1, e2, e3, e7, e23, e24, hm, hlt, hcl, show i + 1 ≤ N by omega]
    rw [show i + 1 = 1 + i by omega, hset]
    refine ⟨wrap_i64 (by omega) (by omega), ?_⟩
    rw [show 1 + i = i + 1 by omega, List.replicate_succ']
    refine ⟨?_, rfl⟩
    rw [List.range_succ, List.map_append, List.append_assoc]
    simp [Nat.add_comm]
  have hge : i = N := by omega
  subst hge
  have hsm : SM i st.mu (sigsN (sumI sc.atoms) cls rs 0) := by
    rw [sigsN, foldN_zero, hm, hN]
    refine ⟨by simp, by simp, fun x h => ?_⟩
    have hx : x < i := by simpa using h
    rw [show 1 + x = x + 1 by omega, List.getElem?_cons_succ, List.getElem?_replicate, if_pos hx]
    simp
  simp [go_sem, e1, e2, e3, e7, e23, e24]
  generalize st.mu = mu0 at *
  clear hm
  refine LoopGo.up rs.length (fun k st => st.tm 2 = lI cls ∧ st.tm 3 = .ip [lI sc.atoms, aI sc.steps] ∧ st.tm 7 = .sl 0 1 0 i ∧ st.tm 32 = lRel rs ∧ st.tm 33 = aI rs.length ∧ st.tm 34 = aI k ∧ SM i st.mu (sigsN (sumI sc.atoms) cls rs k)) ?_ ?_
  · simp [go_sem, e2, e3, e7]
    exact hsm
  rintro k st hk ⟨e2, e3, e7, e32, e33, e34, hsm⟩
  by_cases hlt : k < rs.length
  case neg =>
    have hge : k = rs.length := by omega
    subst hge
    simp [go_sem, e2, e3, e7, e32, e33, e34]
    exact hsm.rd
  have gr := hr _ (List.getElem_mem hlt)
  have hB := SigsB.sigsN (sumI sc.atoms) cls rs hr k
  have hs1 : sigsN (sumI sc.atoms) cls rs (k + 1) = relN (sumI sc.atoms) k cls rs[k] (sigsN (sumI sc.atoms) cls rs k) rs[k].ts.length := by rw [sigsN, foldN_succ, gR_eq hlt]; rfl
  have hsmall := gr.small u.n0 (by omega)
  generalize sigsN (sumI sc.atoms) cls rs k = ms0 at *
  generalize hrr : rs[k] = r at *
  obtain ⟨ar0, ts⟩ := r
  obtain ⟨ar, har⟩ := Int.eq_ofNat_of_zero_le (show 0 ≤ ar0 by have := gr.ar1; simp at this; omega)
  subst har
  have har3 : ar ≤ 3 := by have := gr.ar3; simp at this; omega
  have hgl : st.mu.length > i := hsm.lt
  have hsmp : SM i (st.mu ++ [.arr [aI ar, lI ts]]) ms0 := hsm.push _
  have hL : (st.mu ++ [.arr [aI ar, lI ts]])[st.mu.length]? = some (.arr [aI ar, lI ts]) := by simp
  simp [go_sem, e2, e3, e7, e32, e33, e34, hlt, hrr]
  generalize st.mu.length = L at *
  generalize st.mu ++ [.arr [aI ar, lI ts]] = mu1 at *
  have hts : ∀ j, j < ts.length → 0 ≤ gI ts j ∧ gI ts j < sumI sc.atoms ^ ar ∧ 1 ≤ sumI sc.atoms := fun j hj => by
    rw [gI_eq hj]
    have h1 := gr.val _ (List.getElem_mem hj)
    have h2 := hsmall _ (List.getElem_mem hj)
    exact ⟨h1.1, by simpa using h1.2, h2.2.2⟩
  have htl : ts.length ≤ 2000 := gr.len
  have hk : k ≤ 100 := by omega
  refine LoopGo.up ts.length (fun j st => st.tm 2 = lI cls ∧ st.tm 3 = .ip [lI sc.atoms, aI sc.steps] ∧ st.tm 7 = .sl 0 1 0 i ∧ st.tm 32 = lRel rs ∧ st.tm 33 = aI rs.length ∧ st.tm 34 = aI k ∧ st.tm 9 = aI k ∧ st.tm 10 = .ptr L 0 ∧ st.tm 40 = lI ts ∧ st.tm 41 = aI ts.length ∧ st.tm 42 = aI j ∧
    st.mu[L]? = some (.arr [aI ar, lI ts]) ∧ SM i st.mu (relN (sumI sc.atoms) k cls ⟨ar, ts⟩ ms0 j)) ?_ ?_
  · simp [go_sem, e2, e3, e7, e32, e33, e34, hL]
    exact hsmp
  clear hsm hsmp hL e2 e3 e7 e32 e33 e34
  clear mu1
  clear st
  rintro j st hj ⟨e2, e3, e7, e32, e33, e34, e9, e10, e40, e41, e42, hL, hsm⟩
  by_cases hjl : j < ts.length
  case neg =>
    have hge : j = ts.length := by omega
    subst hge
    simp [go_sem, e2, e3, e7, e32, e33, e34, e9, e10, e40, e41, e42, hL, hlt]
    exact ⟨wrap_i64 (by omega) (by omega), by rw [hs1]; exact hsm⟩
  have ht := hts j hjl
  have hB1 := SigsB.relN hB (sumI sc.atoms) k cls ⟨ar, ts⟩ (by simpa using har3) j
  have hs2 : relN (sumI sc.atoms) k cls ⟨ar, ts⟩ ms0 (j + 1) = tupN k cls (digN (sumI sc.atoms) (gI ts j) ar) (relN (sumI sc.atoms) k cls ⟨ar, ts⟩ ms0 j) ar := by rw [relN, foldN_succ, ← relN]; rfl
  generalize relN (sumI sc.atoms) k cls ⟨ar, ts⟩ ms0 j = ms1 at *
  rw [gI_eq hjl] at ht hs2
  simp [go_sem, e2, e3, e7, e32, e33, e34, e9, e10, e40, e41, e42, hL, hjl]
  refine CallStep.pure (tupleU sc u.g ht.2.2 ar har3 ts[j] ht.1 ht.2.1) (.cons (.hf (hf_eSc sc)) (.cons (.hf (HF.sc _)) (.cons (.hf (HF.sc _)) .nil))) ?_
  have htm : ∀ d, d ∈ digN (sumI sc.atoms) ts[j] ar → 0 ≤ d ∧ d < sumI sc.atoms := digN_mem ht.2.2 ar
  have htlen := digN_len (sumI sc.atoms) ts[j] ar
  generalize digN (sumI sc.atoms) ts[j] ar = tup at *
  simp [go_sem, e2, e3, e7, e32, e33, e34, e9, e10, e40, e41, e42, hL, hjl, htlen]
  refine LoopGo.up ar (fun q st => st.tm 2 = lI cls ∧ st.tm 3 = .ip [lI sc.atoms, aI sc.steps] ∧ st.tm 7 = .sl 0 1 0 i ∧ st.tm 32 = lRel rs ∧ st.tm 33 = aI rs.length ∧ st.tm 34 = aI k ∧ st.tm 9 = aI k ∧ st.tm 10 = .ptr L 0 ∧ st.tm 40 = lI ts ∧ st.tm 41 = aI ts.length ∧ st.tm 42 = aI j ∧
    st.tm 13 = lI tup ∧ st.tm 51 = lI tup ∧ st.tm 52 = aI ar ∧ st.tm 53 = aI q ∧ st.mu[L]? = some (.arr [aI ar, lI ts]) ∧ SM i st.mu (tupN k cls tup ms1 q)) ?_ ?_
  · simp [go_sem, e2, e3, e7, e32, e33, e34, e9, e10, e40, e41, e42, hL]
    exact hsm
  clear hsm hL e2 e3 e7 e32 e33 e34 e9 e10 e40 e41 e42
  clear st
  rintro q st hq ⟨e2, e3, e7, e32, e33, e34, e9, e10, e40, e41, e42, e13, e51, e52, e53, hL, hsm⟩
  by_cases hql : q < ar
  case neg =>
    have hge : q = ar := by omega
    subst hge
    simp [go_sem, e2, e3, e7, e32, e33, e34, e9, e10, e40, e41, e42, e13, e51, e52, e53, hL, hjl]
    exact ⟨wrap_i64 (by omega) (by omega), by rw [hs2]; exact hsm⟩
  have hqt : q < tup.length := by omega
  have hB2 := SigsB.tupN hB1 k cls tup q
  have hs3 : tupN k cls tup ms1 (q + 1) = tupStep k cls tup (tupN k cls tup ms1 q) q := by rw [tupN, foldN_succ, ← tupN]
  have hx := htm _ (List.getElem_mem hqt)
  generalize tupN k cls tup ms1 q = ms2 at *
  rw [tupStep, gI_eq hqt] at hs3
  simp [go_sem, e2, e3, e7, e32, e33, e34, e9, e10, e40, e41, e42, e13, e51, e52, e53, hL, hql, hqt]
  refine CallStep.pure (indexI tup tup[q] (by omega)) (.cons (.hf (hf_lI _)) (.cons (.hf (HF.sc _)) .nil)) ?_
  generalize tup[q] = x at *
  generalize firstIn (fun y => decide (y = x)) tup 0 = fi at *
  by_cases hfi : fi < q
  · simp [go_sem, e2, e3, e7, e32, e33, e34, e9, e10, e40, e41, e42, e13, e51, e52, e53, hL, hql, hqt, hfi]
    rw [if_pos hfi] at hs3
    exact ⟨wrap_i64 (by omega) (by omega), by rw [hs3]; exact hsm⟩
  rw [if_neg hfi] at hs3
  have hgl : st.mu.length > i := hsm.lt
  have hLl : L < st.mu.length := (List.getElem?_eq_some_iff.1 hL).1
  have hW : (st.mu ++ [.arr ((wordN k cls x tup 0).map aI)])[st.mu.length]? = some (.arr ((wordN k cls x tup 0).map aI)) := by simp
  have hL' : (st.mu ++ [.arr ((wordN k cls x tup 0).map aI)])[L]? = some (.arr [aI ar, lI ts]) := by rw [List.getElem?_append_left hLl]; exact hL
  have hsmp : SM i (st.mu ++ [.arr ((wordN k cls x tup 0).map aI)]) ms2 := hsm.push _
  have hw0 : [AV.sc (.int .i64 k), .sc (.int .i64 0), .sc (.int .i64 0), .sc (.int .i64 0)] = (wordN k cls x tup 0).map aI := rfl
  simp [go_sem, e2, e3, e7, e32, e33, e34, e9, e10, e40, e41, e42, e13, e51, e52, e53, hL, hql, hqt, hfi, htlen]
  rw [hw0]
  generalize st.mu.length = M at *
  generalize st.mu ++ [.arr ((wordN k cls x tup 0).map aI)] = mu1 at *
  have hLM : L ≠ M := by omega
  clear hLl hL hsm hw0
  refine LoopGo.up ar (fun c st => st.tm 2 = lI cls ∧ st.tm 3 = .ip [lI sc.atoms, aI sc.steps] ∧ st.tm 7 = .sl 0 1 0 i ∧ st.tm 32 = lRel rs ∧ st.tm 33 = aI rs.length ∧ st.tm 34 = aI k ∧ st.tm 9 = aI k ∧ st.tm 10 = .ptr L 0 ∧ st.tm 40 = lI ts ∧ st.tm 41 = aI ts.length ∧ st.tm 42 = aI j ∧
    st.tm 13 = lI tup ∧ st.tm 51 = lI tup ∧ st.tm 52 = aI ar ∧ st.tm 53 = aI q ∧ st.tm 15 = aI x ∧ st.tm 16 = .ptr M 0 ∧ st.tm 65 = lI tup ∧ st.tm 66 = aI ar ∧ st.tm 67 = aI c ∧ st.mu[L]? = some (.arr [aI ar, lI ts]) ∧ st.mu[M]? = some (.arr ((wordN k cls x tup c).map aI)) ∧ SM i st.mu ms2) ?_ ?_
  · simp [go_sem, e2, e3, e7, e32, e33, e34, e9, e10, e40, e41, e42, e13, e51, e52, e53, hL', hW]
    exact hsmp
  clear hW hL' hsmp e2 e3 e7 e32 e33 e34 e9 e10 e40 e41 e42 e13 e51 e52 e53
  clear mu1
  clear st
  rintro c st hcq ⟨e2, e3, e7, e32, e33, e34, e9, e10, e40, e41, e42, e13, e51, e52, e53, e15, e16, e65, e66, e67, hL, hW, hsm⟩
  have hwl := wordN_len k cls x tup c
  by_cases hcl : c < ar
  · have hct : c < tup.length := by omega
    have hy := htm _ (List.getElem_mem hct)
    have hs4 : wordN k cls x tup (c + 1) = if tup[c] = x then wordN k cls x tup c else (wordN k cls x tup c).set (c + 1) (gI cls tup[c].toNat + 1) := by rw [wordN, foldN_succ, gI_eq hct, ← wordN]
    generalize wordN k cls x tup c = w at *
    by_cases hxy : tup[c] = x
    · rw [if_pos hxy] at hs4
      simp [go_sem, e2, e3, e7, e32, e33, e34, e9, e10, e40, e41, e42, e13, e51, e52, e53, e15, e16, e65, e66, e67, hL, hW, hcl, hct, hxy]
      exact ⟨wrap_i64 (by omega) (by omega), by rw [hs4], hsm⟩
    · rw [if_neg hxy] at hs4
      have hyn : tup[c].toNat < cls.length := by omega
      have hcv := hc _ (List.getElem_mem hyn)
      rw [gI_eq hyn] at hs4
      have w1 : IntKind.i64.wrap (cls[tup[c].toNat] + 1) = cls[tup[c].toNat] + 1 := wrap_i64 (by omega) (by omega)
      have w2 : IntKind.i64.wrap ((c : Int) + 1) = (c : Int) + 1 := wrap_i64 (by omega) (by omega)
      have hML : M < st.mu.length := (List.getElem?_eq_some_iff.1 hW).1
      have hset : (w.map aI).set (c + 1) (aI (cls[tup[c].toNat] + 1)) = (wordN k cls x tup (c + 1)).map aI := by rw [hs4, List.map_set]
      have hwl' : (w.map aI).length = 4 := by simpa using hwl
      generalize w.map aI = cells at *
      simp [go_sem, e2, e3, e7, e32, e33, e34, e9, e10, e40, e41, e42, e13, e51, e52, e53, e15, e16, e65, e66, e67, hL, hW, hcl, hct, hxy, hyn, hy.1, hN, show tup[c] < (i : Int) by omega, show tup[c].toNat < i by omega, w1, w2, hwl', hset, show (0 : Int) ≤ (c : Int) + 1 by omega, show (c : Int) + 1 < 4 by omega, show c + 1 + 1 ≤ 4 by omega]
      refine ⟨?_, ?_, hsm.hi hgl _⟩
      · rw [List.getElem?_set_ne hLM.symm]; exact hL
      · rw [List.getElem?_set_self hML]
  · have hge : c = ar := by omega
    subst hge
    have hB3 := look_bound (gS_B hB2 x.toNat) (wordN k cls x tup c)
    have hxn : x.toNat < i := by omega
    have hxm : x.toNat < ms2.length := by rw [hsm.len]; exact hxn
    have hmp := hsm.mp _ hxm
    have hptr := hsm.ptr
    have htk : (((List.range i).map (fun j => AV.mp (1 + j))).drop x.toNat).take 1 = [AV.mp (1 + x.toNat)] := by
      apply take1_drop
      rw [List.getElem?_map, List.getElem?_range hxn]; rfl
    have hpl : ((List.range i).map (fun j => AV.mp (1 + j))).length = i := by simp
    generalize (List.range i).map (fun j => AV.mp (1 + j)) = ptrs at *
    have hupd := hsm.upd hxn (bump (gS ms2 x.toNat) (wordN k cls x tup c))
    rw [htlen] at hs3
    rw [gS_eq hxm] at hs3 hB3 hupd
    have hfa := findA_sig (wordN k cls x tup c) hwl ms2[x.toNat] 0 (fun p hp => ((hB2 _ (List.getElem_mem hxm)).ok p hp).1)
    generalize ms2[x.toNat] = m at *
    generalize wordN k cls x tup c = w at *
    obtain ⟨w0, w1, w2, w3, rfl⟩ : ∃ w0 w1 w2 w3, w = [w0, w1, w2, w3] := by
      match w, hwl with
      | [w0, w1, w2, w3], _ => exact ⟨_, _, _, _, rfl⟩
    have hfa : findA Tryz.prog 114 (.agg [aI w0, aI w1, aI w2, aI w3]) (m.map eE) 0 = some (placeW [w0, w1, w2, w3] m 0) := hfa
    have hxml : 1 + x.toNat < st.mu.length := (List.getElem?_eq_some_iff.1 hmp).1
    have hbl : (bump m [w0, w1, w2, w3]) = match placeW [w0, w1, w2, w3] m 0 with | some i => m.set i ([w0, w1, w2, w3], lookS m [w0, w1, w2, w3] + 1) | none => m ++ [([w0, w1, w2, w3], 1)] := rfl
    have hlk : lookS m [w0, w1, w2, w3] = match placeW [w0, w1, w2, w3] m 0 with | some i => ((m[i]?).map (·.2)).getD 0 | none => 0 := rfl
    have hself : ∀ a : Cell, (st.mu.set (1 + x.toNat) a)[1 + x.toNat]? = some a := fun a => by rw [List.getElem?_set_self hxml]
    have hLx : L ≠ 1 + x.toNat := by omega
    simp [go_sem, e2, e3, e7, e32, e33, e34, e9, e10, e40, e41, e42, e13, e51, e52, e53, e15, e16, e65, e66, e67, hL, hW]
    refine DrawGo.intro (by kernel_rfl) ?_
    cases hpw : placeW [w0, w1, w2, w3] m 0 with
    | none =>
      rw [hpw] at hfa hbl
      have hmm : m.map eE ++ [(AV.agg [aI w0, aI w1, aI w2, aI w3], aI 1)] = (bump m [w0, w1, w2, w3]).map eE := by rw [hbl]; simp
      have hset : (m.map eE ++ [(AV.agg [aI w0, aI w1, aI w2, aI w3], aI 0)]).set m.length (AV.agg [aI w0, aI w1, aI w2, aI w3], aI 1) = m.map eE ++ [(AV.agg [aI w0, aI w1, aI w2, aI w3], aI 1)] := by
        rw [List.set_append_right _ _ (by simp)]; simp
      have hget : (m.map eE ++ [(AV.agg [aI w0, aI w1, aI w2, aI w3], aI 0)])[m.length]? = some (AV.agg [aI w0, aI w1, aI w2, aI w3], aI 0) := by
        rw [List.getElem?_append_right (by simp)]; simp
      simp [go_sem, e2, e3, e7, e32, e33, e34, e9, e10, e40, e41, e42, e13, e51, e52, e53, e15, e16, e65, e66, e67, hL, hW, hx.1, show x < (i : Int) by omega, hptr, hxn, hmp, htk, hpl, show x.toNat + 1 ≤ i by omega, hfa, hself, hget, hset, show IntKind.i64.wrap 1 = 1 by rfl]
      rw [hmm, hs3]
      exact ⟨hql, wrap_i64 (by omega) (by omega), by rw [List.getElem?_set_ne hLx.symm]; exact hL, hupd⟩
    | some jj =>
      rw [hpw] at hfa hbl hlk
      have hjj := (placeW_lt _ _ _ _ hpw).2
      have hjl : jj < m.length := by omega
      simp only [List.getElem?_eq_getElem hjl, Option.map_some, Option.getD_some] at hlk
      have hmm : (m.map eE).set jj (AV.agg [aI w0, aI w1, aI w2, aI w3], aI (m[jj].2 + 1)) = (bump m [w0, w1, w2, w3]).map eE := by rw [hbl, hlk, List.map_set]; rfl
      have hset : ((m.map eE).set jj (AV.agg [aI w0, aI w1, aI w2, aI w3], aI m[jj].2)).set jj (AV.agg [aI w0, aI w1, aI w2, aI w3], aI (m[jj].2 + 1)) = (m.map eE).set jj (AV.agg [aI w0, aI w1, aI w2, aI w3], aI (m[jj].2 + 1)) := by rw [List.set_set]
      have hget : ((m.map eE).set jj (AV.agg [aI w0, aI w1, aI w2, aI w3], aI m[jj].2))[jj]? = some (AV.agg [aI w0, aI w1, aI w2, aI w3], aI m[jj].2) := by
        rw [List.getElem?_set_self (by simpa using hjl)]
      have w2' : IntKind.i64.wrap (m[jj].2 + 1) = m[jj].2 + 1 := wrap_i64 (by omega) (by omega)
      simp [go_sem, e2, e3, e7, e32, e33, e34, e9, e10, e40, e41, e42, e13, e51, e52, e53, e15, e16, e65, e66, e67, hL, hW, hx.1, show x < (i : Int) by omega, hptr, hxn, hmp, htk, hpl, show x.toNat + 1 ≤ i by omega, hfa, hself, hget, hset, hjl, w2']
      rw [hmm, hs3]
      exact ⟨hql, wrap_i64 (by omega) (by omega), by rw [List.getElem?_set_ne hLx.symm]; exact hL, hupd⟩
end Go.Proofs.YtiophnmdopoeeaaGreat.C26

set_option linter.unusedVariables false
set_option linter.unusedSimpArgs false
set_option maxRecDepth 100000
namespace Go.Proofs.YtiophnmdopoeeaaGreat.C27
open Go Go.Ev Go.Proofs Go.Proofs.YtiophnmdopoeeaaGreat.C1 Go.Proofs.YtiophnmdopoeeaaGreat.C2 Go.Proofs.YtiophnmdopoeeaaGreat.C3 Go.Proofs.YtiophnmdopoeeaaGreat.C4 Go.Proofs.YtiophnmdopoeeaaGreat.C7 Go.Proofs.YtiophnmdopoeeaaGreat.C9 Go.Proofs.YtiophnmdopoeeaaGreat.C10 Go.Proofs.YtiophnmdopoeeaaGreat.C11 Go.Proofs.YtiophnmdopoeeaaGreat.C12 Go.Proofs.YtiophnmdopoeeaaGreat.C14 Go.Proofs.YtiophnmdopoeeaaGreat.C15 Go.Proofs.YtiophnmdopoeeaaGreat.C16 Go.Proofs.YtiophnmdopoeeaaGreat.C17 Go.Proofs.YtiophnmdopoeeaaGreat.C18 Go.Proofs.YtiophnmdopoeeaaGreat.C20 Go.Proofs.YtiophnmdopoeeaaGreat.C22 Go.Proofs.YtiophnmdopoeeaaGreat.C24 Go.Proofs.YtiophnmdopoeeaaGreat.C25 Go.Proofs.YtiophnmdopoeeaaGreat.C26

theorem sortIn_range : ∀ (l : List Int) (x i : Int), (∀ a, a ∈ l → 0 ≤ a) → 0 ≤ x → x < sumI l → i ≤ sortIn l x i ∧ sortIn l x i < i + l.length
  | [], x, i, _, h0, h1 => by simp [sumI] at h1; omega
  | a :: l, x, i, ha, h0, h1 => by
    rw [sortIn]
    by_cases h : x < a
    · rw [if_pos h]; simp; omega
    · rw [if_neg h]
      have e : sumI (a :: l) = a + sumI l := rfl
      have := sortIn_range l (x - a) (i + 1) (fun b hb => ha b (by simp [hb])) (by omega) (by omega)
      simp only [List.length_cons]
      omega
theorem sortU_range {sc : Sc} (g : GSc sc) {x : Int} (h0 : 0 ≤ x) (h1 : x < sumI sc.atoms) : 0 ≤ sortU sc x ∧ sortU sc x < sc.atoms.length := by
  have := sortIn_range sc.atoms x 0 (fun a ha => (g.2 a ha).1) h0 h1
  unfold sortU sortAt
  rw [if_neg (by omega)]
  omega

/-- how many of the first x values are new -/
def firstsN (cls : List Int) : Nat → Int
  | 0 => 0
  | x + 1 => firstsN cls x + (if ∃ y, y < x ∧ gI cls y = gI cls x then 0 else 1)
theorem firstsN_congr {a b : List Int} : ∀ x, (∀ y, y < x → gI a y = gI b y) → firstsN a x = firstsN b x
  | 0, _ => rfl
  | x + 1, h => by
    rw [firstsN, firstsN, firstsN_congr x (fun y hy => h y (by omega))]
    have : (∃ y, y < x ∧ gI a y = gI a x) ↔ (∃ y, y < x ∧ gI b y = gI b x) := by
      constructor
      · rintro ⟨y, hy, e⟩; exact ⟨y, hy, by rw [← h y (by omega), ← h x (by omega)]; exact e⟩
      · rintro ⟨y, hy, e⟩; exact ⟨y, hy, by rw [h y (by omega), h x (by omega)]; exact e⟩
    simp only [this]
theorem mate_some {cls : List Int} {al : Nat → Nat → Bool} {x : Nat} : ∀ {y z}, mate cls al x y = some z → z < y ∧ gI cls x = gI cls z ∧ al x z = true
  | 0, z, h => by simp [mate] at h
  | y + 1, z, h => by
    rw [mate] at h
    cases hm : mate cls al x y with
    | some w =>
      rw [hm] at h
      simp only [Option.some.injEq] at h
      subst h
      have := mate_some hm
      exact ⟨by omega, this.2⟩
    | none =>
      rw [hm] at h
      simp only at h
      split at h
      · rename_i hc
        simp only [Option.some.injEq] at h
        subst h; exact ⟨by omega, hc⟩
      · simp at h
theorem split_ge (cls : List Int) (al : Nat → Nat → Bool) : ∀ x, firstsN cls x ≤ (splitN cls al x).2
  | 0 => by simp [firstsN, splitN]
  | x + 1 => by
    have ih := split_ge cls al x
    rw [firstsN, splitN]
    cases hm : mate cls al x x with
    | some y =>
      have := mate_some hm
      rw [if_pos ⟨y, this.1, this.2.1.symm⟩]
      simpa using ih
    | none =>
      simp only
      split <;> omega
theorem gI_app_left {a b : List Int} {y : Nat} (h : y < a.length) : gI (a ++ b) y = gI a y := by
  simp only [gI, List.getElem?_append_left h]
theorem gI_app_last {a : List Int} {v : Int} {y : Nat} (h : y = a.length) : gI (a ++ [v]) y = v := by
  subst h; simp [gI]
theorem firsts_split (cls : List Int) (al : Nat → Nat → Bool) : ∀ x, firstsN (splitN cls al x).1 x = (splitN cls al x).2
  | 0 => by simp [firstsN, splitN]
  | x + 1 => by
    have ih := firsts_split cls al x
    have ok := splitN_ok cls al x
    rw [firstsN, splitN]
    cases hm : mate cls al x x with
    | some y =>
      have hy := mate_some hm
      have e1 : firstsN ((splitN cls al x).1 ++ [gI (splitN cls al x).1 y]) x = firstsN (splitN cls al x).1 x := firstsN_congr x fun y hy => gI_app_left (by omega)
      simp only
      rw [e1, ih, if_pos ⟨y, hy.1, by rw [gI_app_left (by omega), gI_app_last (by omega)]⟩]
      simp
    | none =>
      have e1 : firstsN ((splitN cls al x).1 ++ [(splitN cls al x).2]) x = firstsN (splitN cls al x).1 x := firstsN_congr x fun y hy => gI_app_left (by omega)
      simp only
      rw [e1, ih, if_neg]
      rintro ⟨y, hy, e⟩
      rw [gI_app_left (by omega), gI_app_last (by omega), gI_eq (show y < (splitN cls al x).1.length by omega)] at e
      have := ok.2.2.2 _ (List.getElem_mem (show y < (splitN cls al x).1.length by omega))
      omega

/-- one round of refinement -/
def sigAl (N : Int) (rs : List Rl) (cls : List Int) (x y : Nat) : Bool := sigEq (gS (sigsOf N cls rs) x) (gS (sigsOf N cls rs) y)
def roundS (N : Int) (rs : List Rl) (cls : List Int) : List Int × Int := splitN cls (sigAl N rs cls) cls.length
def stabF (N : Int) (rs : List Rl) : Nat → List Int × Int → List Int × Int
  | 0, c => c
  | f + 1, c => if (roundS N rs c.1).2 = c.2 then c else stabF N rs f (roundS N rs c.1)
def cls0 (sp : Sp) (sc : Sc) : List Int × Int := splitN (List.replicate (sumI sc.atoms).toNat 0) (fun x y => alike0 sp sc x y) (sumI sc.atoms).toNat
def stableS (sp : Sp) (sc : Sc) (bs : List Bd) : List Int × Int := stabF (sumI sc.atoms) (relsOf bs) ((sumI sc.atoms).toNat + 1) (cls0 sp sc)

theorem sigsN_len (n : Int) (cls : List Int) (rs : List Rl) : ∀ i, (sigsN n cls rs i).length = cls.length := by
  have h1 : ∀ (i : Int) (tup : List Int) (ms : List Sig) (k : Nat), (tupN i cls tup ms k).length = ms.length := by
    intro i tup ms k
    induction k with
    | zero => rfl
    | succ k ih =>
      rw [tupN, foldN_succ, ← tupN, tupStep]
      split
      · exact ih
      · simpa using ih
  have h2 : ∀ (i : Int) (r : Rl) (ms : List Sig) (j : Nat), (relN n i cls r ms j).length = ms.length := by
    intro i r ms j
    induction j with
    | zero => rfl
    | succ j ih => rw [relN, foldN_succ, ← relN, h1]; exact ih
  intro i
  induction i with
  | zero => simp [sigsN, foldN]
  | succ i ih => rw [sigsN, foldN_succ, ← sigsN, h2]; exact ih

theorem hf_ipSc (s : Sc) : HF (.ip [lI s.atoms, aI s.steps]) := HF.ip fun c hc => by
  simp at hc
  rcases hc with rfl | rfl
  · exact hf_lI _
  · exact HF.sc _
theorem hf_ipSp (s : Sp) : HF (.ip [.lst false (s.sorts.map cSort), .lst false (s.fields.map cField), .lst false s.preds, .lst false s.facts]) := HF.ip fun c hc => by
  simp at hc
  rcases hc with rfl | rfl | rfl | rfl
  · refine HF.lst fun r hr c hc => ?_
    obtain ⟨n, _, rfl⟩ := List.mem_map.1 hr
    simp at hc
    rcases hc with rfl | rfl <;> exact HF.sc _
  · refine HF.lst fun r hr c hc => ?_
    obtain ⟨n, _, rfl⟩ := List.mem_map.1 hr
    exact hf_cField n c hc
  · exact s.hp
  · exact s.hf
theorem cutM_one (give : Nat → Bool) (mu : Mu) (c : Cell) (b : Nat) (hb : b = mu.length) (h : give b = true) : (cutM give (mu ++ [c]) 0)[b]? = some c := by
  subst hb
  rw [cutM_get, List.getElem?_append_right (Nat.le_refl _)]
  simp [h]

theorem stableU (sp : Sp) (sc : Sc) (u : GU sc) (hsp : sc.atoms.length = sp.sorts.length) (bs : List Bd) (gb : GBs (sumI sc.atoms) bs) :
    SoundP Tryz.prog 24 [eSp sp, eSc sc, lBd bs] (.tup [lI (stableS sp sc bs).1, aI (stableS sp sc bs).2]) := by
  refine SoundP.of_sound (Sound.of_awp Tryz.call24 Tryz.func24 rfl (Nat.le_of_ble_eq_true (by kernel_rfl)) (by kernel_rfl) (pl := {}) ?_)
  simp [go_sem]
  refine CallStep.pure (relationsL bs (by have := gb.len; omega)) (.cons (.hf (hf_lBd bs)) .nil) ?_
  simp [go_sem]
  refine CallStep.pure (atomsU sc u.g) (.cons (.hf (hf_eSc sc)) .nil) ?_
  obtain ⟨N, hN⟩ := Int.eq_ofNat_of_zero_le u.n0
  have hN12 : N ≤ 12 := by have := u.n12; omega
  simp [go_sem, hN, show (N : Int) ≤ 4294967296 by omega]
  have hisp : HF (.ip [.lst false (sp.sorts.map cSort), .lst false (sp.fields.map cField), .lst false sp.preds, .lst false sp.facts]) := hf_ipSp sp
  have hisc : HF (.ip [lI sc.atoms, aI sc.steps]) := hf_ipSc sc
  have hfv1 : HF (.fn (.func 50) [] [.ip [lI sc.atoms, aI sc.steps], .ip [.lst false (sp.sorts.map cSort), .lst false (sp.fields.map cField), .lst false sp.preds, .lst false sp.facts]]) := HF.fn (fun c hc => by simp at hc) (fun c hc => by
    simp at hc
    rcases hc with rfl | rfl
    · exact hisc
    · exact hisp)
  have hrel := gb.rels
  have hcs := split_ok (List.replicate N 0) _ (fun x y => alike0 sp sc x y) (by simp; omega) ⟨hfv1, _, _, rfl, fun x y hxy => ⟨_, .cons (.hf (HF.sc _)) (.cons (.hf (HF.sc _)) (.cons (.hf hisc) (.cons (.hf hisp) .nil))), stable1 sp sc u.g x y (by simp at hxy; omega) (by simp at hxy; omega) (by
    have := sortU_range u.g (x := x) (by omega) (by simp at hxy; omega)
    omega)⟩⟩
  have hc0 : cls0 sp sc = splitN (List.replicate N 0) (fun x y => alike0 sp sc x y) N := by unfold cls0; rw [hN]; rfl
  rw [List.length_replicate, ← hc0] at hcs
  refine CallStep.eff (caps := []) (Sound.freeze (args1 := [lI (List.replicate N 0), _]) (fun _ => true) ⟨.inr (OwnF.ofCells (lo := 0) (xs := List.replicate N 0) (Nat.zero_le _) (by simp [cutM]) (by simp)).rdI, .inl rfl, trivial⟩ (SoundP.toSound _ hcs (.cons (.hf (hf_lI _)) (.cons (.hf hfv1) .nil)))) ?_ (by rintro r m ⟨h, _⟩; cases h)
  rintro _ m ⟨he, rfl⟩
  cases he
  simp [go_sem]
  have hNn : (sumI sc.atoms).toNat = N := by omega
  have ok0 := splitN_ok (List.replicate N 0) (fun x y => alike0 sp sc x y) N
  have fs0 := firsts_split (List.replicate N 0) (fun x y => alike0 sp sc x y) N
  rw [← hc0] at ok0 fs0
  have hst : stableS sp sc bs = stabF (sumI sc.atoms) (relsOf bs) (N + 1) (cls0 sp sc) := by unfold stableS; rw [hNn]
  generalize cls0 sp sc = c0 at *
  generalize hres : stableS sp sc bs = res at *
  refine LoopGo.keep (fun f st => ∃ c : List Int × Int, st.tm 4 = .ip [lI sc.atoms, aI sc.steps] ∧ st.tm 8 = lRel (relsOf bs) ∧ st.tm 9 = lI c.1 ∧ st.tm 10 = aI c.2 ∧ c.1.length = N ∧ (∀ x, x ∈ c.1 → 0 ≤ x ∧ x < c.2) ∧ 0 ≤ c.2 ∧ c.2 ≤ N ∧ firstsN c.1 N = c.2 ∧ stabF (sumI sc.atoms) (relsOf bs) f c = res ∧ (N : Int) + 1 ≤ f + c.2) (N + 1) ?_ ?_
  · exact ⟨c0, by simp [go_sem], by simp [go_sem], by simp [go_sem], by simp [go_sem], ok0.1, ok0.2.2.2, ok0.2.1, ok0.2.2.1, fs0, hst.symm, by omega⟩
  rintro f st ⟨c, e4, e8, e9, e10, hcl, hcv, hm0, hmN, hfs, hsf, hf⟩
  obtain ⟨f, rfl⟩ : ∃ g, f = g + 1 := ⟨f - 1, by omega⟩
  have hsig := signaturesU sc u (relsOf bs) hrel.2 (by omega) c.1 (by omega) (fun x hx => by have := hcv x hx; omega)
  have hsl := sigsN_len (sumI sc.atoms) c.1 (relsOf bs) (relsOf bs).length
  have hsok := sigsOf_ok (cls := c.1) hrel.2 (by omega)
  have hal : ∀ x y, sigAl (sumI sc.atoms) (relsOf bs) c.1 x y = sigEq (gS (sigsOf (sumI sc.atoms) c.1 (relsOf bs)) x) (gS (sigsOf (sumI sc.atoms) c.1 (relsOf bs)) y) := fun _ _ => rfl
  have hr1 : roundS (sumI sc.atoms) (relsOf bs) c.1 = splitN c.1 (sigAl (sumI sc.atoms) (relsOf bs) c.1) N := by unfold roundS; rw [hcl]
  have hge := split_ge c.1 (sigAl (sumI sc.atoms) (relsOf bs) c.1) N
  have hfs1 := firsts_split c.1 (sigAl (sumI sc.atoms) (relsOf bs) c.1) N
  have ok1 := splitN_ok c.1 (sigAl (sumI sc.atoms) (relsOf bs) c.1) N
  rw [← hr1] at hge hfs1 ok1
  have hsl' : (sigsOf (sumI sc.atoms) c.1 (relsOf bs)).length = N := by unfold sigsOf; omega
  rw [stabF] at hsf
  generalize sigAl (sumI sc.atoms) (relsOf bs) c.1 = al at *
  generalize sigsOf (sumI sc.atoms) c.1 (relsOf bs) = ms at *
  have hims : HF (.ip [lSig ms]) := HF.ip fun c hc => by
    simp at hc; subst hc; exact hf_lSig ms
  have hfv2 : HF (.fn (.func 53) [] [.ip [lSig ms]]) := HF.fn (fun c hc => by simp at hc) (fun c hc => by
    simp at hc; subst hc; exact hims)
  have hsp2 := split_ok c.1 _ al (by omega) ⟨hfv2, _, _, rfl, fun x y hxy => ⟨_, .cons (.hf (HF.sc _)) (.cons (.hf (HF.sc _)) (.cons (.hf hims) .nil)), by
    have := stable2 ms x y (by omega) (by omega) hsok
    rw [hal, gS_eq (show x < ms.length by omega), gS_eq (show y < ms.length by omega)]
    exact this⟩⟩
  rw [hcl, ← hr1] at hsp2
  generalize roundS (sumI sc.atoms) (relsOf bs) c.1 = c1 at *
  simp [go_sem, e4, e8, e9, e10]
  refine CallStep.pure hsig (.cons (.hf (hf_eSc sc)) (.cons (.hf (hf_lRel _)) (.cons (.hf (hf_lI _)) .nil))) ?_
  simp [go_sem, e4, e8, e9, e10]
  have hL : (st.mu ++ [.arr [lSig ms]])[st.mu.length]? = some (.arr [lSig ms]) := by simp
  refine CallStep.eff (caps := []) (Sound.freeze (args1 := [lI c.1, .fn (.func 53) [] [.ip [lSig ms]]]) (fun _ => true) ⟨.inl rfl, .inr ?_, trivial⟩ (SoundP.toSound _ hsp2 (.cons (.hf (hf_lI _)) (.cons (.hf hfv2) .nil)))) ?_ (by rintro r m ⟨h, _⟩; cases h)
  · refine .fn _ [] [] [.ptr st.mu.length 0] [.ip [lSig ms]] rfl rfl (by simp) (fun k x y hx hy => ?_)
    match k with
    | 0 =>
      simp at hx hy
      subst hx; subst hy
      refine .ptr _ 0 [lSig ms] [lSig ms] (by rw [cutM_get, hL]; simp) (by simp) (fun k x y hx hy => ?_)
      match k with
      | 0 => simp at hx hy; subst hx; subst hy; exact .hf _ (hf_lSig ms)
      | k + 1 => simp at hx
    | k + 1 => simp at hx
  rintro _ m ⟨he, rfl⟩
  cases he
  by_cases hmm : c1.2 = c.2
  · rw [if_pos hmm] at hsf
    subst hsf
    simp [go_sem, e4, e8, e9, e10, hmm]
    exact Rd.tup2 (.hf _ (hf_lI _)) (.hf _ (HF.sc _))
  · rw [if_neg hmm] at hsf
    simp [go_sem, e4, e8, e9, e10, hmm]
    exact Keep.loop f (by omega) ⟨c1, by simp [go_sem, e4], by simp [go_sem, e8], by simp [go_sem], by simp [go_sem], ok1.1, ok1.2.2.2, ok1.2.1, ok1.2.2.1, hfs1, hsf, by omega⟩
end Go.Proofs.YtiophnmdopoeeaaGreat.C27

set_option linter.unusedVariables false
set_option linter.unusedSimpArgs false
set_option maxRecDepth 100000
namespace Go.Proofs.YtiophnmdopoeeaaGreat.C28
open Go Go.Ev Go.Proofs Go.Proofs.YtiophnmdopoeeaaGreat.C1 Go.Proofs.YtiophnmdopoeeaaGreat.C2 Go.Proofs.YtiophnmdopoeeaaGreat.C3 Go.Proofs.YtiophnmdopoeeaaGreat.C4 Go.Proofs.YtiophnmdopoeeaaGreat.C7 Go.Proofs.YtiophnmdopoeeaaGreat.C9 Go.Proofs.YtiophnmdopoeeaaGreat.C10 Go.Proofs.YtiophnmdopoeeaaGreat.C11 Go.Proofs.YtiophnmdopoeeaaGreat.C12 Go.Proofs.YtiophnmdopoeeaaGreat.C14 Go.Proofs.YtiophnmdopoeeaaGreat.C15 Go.Proofs.YtiophnmdopoeeaaGreat.C16 Go.Proofs.YtiophnmdopoeeaaGreat.C17 Go.Proofs.YtiophnmdopoeeaaGreat.C18 Go.Proofs.YtiophnmdopoeeaaGreat.C20 Go.Proofs.YtiophnmdopoeeaaGreat.C22 Go.Proofs.YtiophnmdopoeeaaGreat.C24 Go.Proofs.YtiophnmdopoeeaaGreat.C25 Go.Proofs.YtiophnmdopoeeaaGreat.C26 Go.Proofs.YtiophnmdopoeeaaGreat.C27

/-- an owned row of integers: nothing, or a block of its own -/
def OwnI (mu : Mu) (s : AV) (l : List Int) : Prop := (s = .lst true [] ∧ l = []) ∨ ∃ b, s = .sl b 1 0 l.length ∧ mu[b]? = some (.arr (l.map aI))
theorem AppendStep.int1 {P : Program} {mu : Mu} {t t' e bt : Nat} {s : AV} {l : List Int} {x z : Int} {K : AV → Mu → Prop} (hs : sliceOf P t = some (e, 1, bt)) (hs' : (sliceOf P t').isSome = true) (hz : zeroOf P e = some (aI z))
    (hb : bt ≤ 16384) (ho : OwnI mu s l) (hl : l.length + 1 ≤ 4294967296)
    (k : ∀ mu', mu'[mu.length]? = some (.arr ((l ++ [x]).map aI)) → (∀ i, i < mu.length → s ≠ .sl i 1 0 l.length → mu'[i]? = mu[i]?) → K (.sl mu.length 1 0 (l ++ [x]).length) mu') : AppendStep P mu #[t, t'] s (.lst true [[aI x]]) K := by
  rcases ho with ⟨rfl, rfl⟩ | ⟨b, rfl, hc⟩
  · refine .inl ⟨t, t', e, 1, bt, [[aI x]], rfl, hs, hs', ⟨_, hz, rfl, rfl⟩, by omega, hb, rfl, fun r hr => by simp at hr; subst hr; exact ⟨rfl, rfl⟩, .inl ⟨[], rfl, fun r hr => by simp at hr, by simp, fun h => by simp at h, fun _ => ?_⟩⟩
    exact k _ (by simp) (fun i hi _ => by rw [List.getElem?_append_left hi])
  · refine .inl ⟨t, t', e, 1, bt, [[aI x]], rfl, hs, hs', ⟨_, hz, rfl, rfl⟩, by omega, hb, rfl, fun r hr => by simp at hr; subst hr; exact ⟨rfl, rfl⟩, .inr ⟨b, l.length, _, rfl, hc, by simp, by simpa using hl, ?_⟩⟩
    have e1 : (l.map aI).take (l.length * 1) ++ [[aI x]].flatten = (l ++ [x]).map aI := by
      rw [List.take_of_length_le (by simp), List.map_append]; rfl
    have e2 : l.length + [[aI x]].length = (l ++ [x]).length := by simp
    rw [e1, e2]
    refine k _ ?_ (fun i hi hne => ?_)
    · rw [List.getElem?_append_right (by simp)]; simp
    · rw [List.getElem?_append_left (by simpa using hi), List.getElem?_set_ne (fun h => hne (by rw [h]))]

/-- a row of owned rows -/
structure RowsM (mu : Mu) (cells : List AV) (ls : List (List Int)) : Prop where
  at0 : mu[0]? = some (.arr cells)
  len : cells.length = ls.length
  own : ∀ (i : Nat) s l, cells[i]? = some s → ls[i]? = some l → OwnI mu s l
  pos : ∀ (i b n : Nat), cells[i]? = some (.sl b 1 0 n) → 0 < b
  inj : ∀ (i j b n m : Nat), cells[i]? = some (.sl b 1 0 n) → cells[j]? = some (.sl b 1 0 m) → i = j
theorem OwnI.lt {mu : Mu} {s : AV} {l : List Int} (h : OwnI mu s l) {b n : Nat} (e : s = .sl b 1 0 n) : b < mu.length := by
  rcases h with ⟨rfl, _⟩ | ⟨b', rfl, hc⟩
  · cases e
  · cases e; exact (List.getElem?_eq_some_iff.1 hc).1
theorem RowsM.step {mu mu' : Mu} {cells : List AV} {ls : List (List Int)} (r : RowsM mu cells ls) {c : Nat} {s : AV} {l : List Int} {x : Int} (hs : cells[c]? = some s) (hl : ls[c]? = some l)
    (hn : mu'[mu.length]? = some (.arr ((l ++ [x]).map aI))) (hsame : ∀ i, i < mu.length → s ≠ .sl i 1 0 l.length → mu'[i]? = mu[i]?) :
    RowsM (mu'.set 0 (.arr (cells.set c (.sl mu.length 1 0 (l ++ [x]).length)))) (cells.set c (.sl mu.length 1 0 (l ++ [x]).length)) (ls.set c (l ++ [x])) := by
  have h0 : 0 < mu.length := (List.getElem?_eq_some_iff.1 r.at0).1
  have hm' : mu.length < mu'.length := (List.getElem?_eq_some_iff.1 hn).1
  have hc : c < cells.length := (List.getElem?_eq_some_iff.1 hs).1
  have hown := r.own c s l hs hl
  refine ⟨by rw [List.getElem?_set_self (by omega)], by simp [r.len], ?_, ?_, ?_⟩
  · intro i s' l' hi hli
    by_cases e : c = i
    · subst e
      rw [List.getElem?_set_self hc] at hi
      rw [List.getElem?_set_self (by have := r.len; omega)] at hli
      cases hi; cases hli
      exact .inr ⟨mu.length, rfl, by rw [List.getElem?_set_ne (by omega)]; exact hn⟩
    · rw [List.getElem?_set_ne e] at hi hli
      rcases r.own i s' l' hi hli with h | ⟨b, rfl, hb⟩
      · exact .inl h
      · have hbl : b < mu.length := (List.getElem?_eq_some_iff.1 hb).1
        have hbp := r.pos i b _ hi
        refine .inr ⟨b, rfl, ?_⟩
        rw [List.getElem?_set_ne (by omega), hsame b hbl ?_]
        · exact hb
        · intro es
          rw [es] at hs
          exact e (r.inj c i b _ _ hs hi)
  · intro i b n hi
    by_cases e : c = i
    · subst e
      rw [List.getElem?_set_self hc] at hi
      cases hi; exact h0
    · rw [List.getElem?_set_ne e] at hi; exact r.pos i b n hi
  · intro i j b n m hi hj
    by_cases e : c = i <;> by_cases e' : c = j
    · omega
    · subst e
      rw [List.getElem?_set_self hc] at hi
      rw [List.getElem?_set_ne e'] at hj
      cases hi
      have hjl : j < ls.length := by have := (List.getElem?_eq_some_iff.1 hj).1; have := r.len; omega
      have := (r.own j _ _ hj (List.getElem?_eq_getElem hjl)).lt rfl
      omega
    · subst e'
      rw [List.getElem?_set_self hc] at hj
      rw [List.getElem?_set_ne e] at hi
      cases hj
      have hil : i < ls.length := by have := (List.getElem?_eq_some_iff.1 hi).1; have := r.len; omega
      have := (r.own i _ _ hi (List.getElem?_eq_getElem hil)).lt rfl
      omega
    · rw [List.getElem?_set_ne e] at hi
      rw [List.getElem?_set_ne e'] at hj
      exact r.inj i j b n m hi hj
theorem OwnI.rd {mu : Mu} {s : AV} {l : List Int} (h : OwnI mu s l) : Rd mu s (lI l) := by
  rcases h with ⟨rfl, rfl⟩ | ⟨b, rfl, hc⟩
  · exact .wk _ true _ (.hf _ (HF.lst fun r hr => by simp at hr))
  · exact (OwnF.ofCells (lo := 0) (xs := l) (Nat.zero_le _) hc rfl).rdI
theorem flat_lL (l : List (List Int)) : (l.map rL).flatten = l.map lI := by
  induction l with
  | nil => rfl
  | cons x l ih => simp only [List.map_cons, List.flatten_cons, ih]; rfl
theorem RowsM.rd {mu : Mu} {cells : List AV} {ls : List (List Int)} (r : RowsM mu cells ls) {n : Nat} (hn : n = ls.length) : Rd mu (.sl 0 1 0 n) (lL ls) := by
  subst hn
  refine .sl 0 1 0 _ cells _ r.at0 (by have := r.len; omega) (by simp) (fun x hx => by
    obtain ⟨l, _, rfl⟩ := List.mem_map.1 hx; rfl) (fun k x y hx hy => ?_)
  rw [Nat.zero_add] at hx
  rw [flat_lL, List.getElem?_map] at hy
  cases hq : ls[k]? with
  | none => rw [hq] at hy; simp at hy
  | some l =>
    rw [hq] at hy; simp at hy; subst hy
    exact (r.own k x l hx hq).rd

/-- the atoms of each class among the first k -/
def clsN (cls : List Int) (m k : Nat) : List (List Int) := foldN (fun x ls => ls.set (gI cls x).toNat (gL ls (gI cls x).toNat ++ [(x : Int)])) (List.replicate m []) k
theorem clsN_len (cls : List Int) (m : Nat) : ∀ k, (clsN cls m k).length = m
  | 0 => by simp [clsN, foldN]
  | k + 1 => by
    have := clsN_len cls m k
    rw [clsN, foldN_succ, ← clsN, List.length_set, this]
theorem clsN_small (cls : List Int) (m : Nat) : ∀ k l, l ∈ clsN cls m k → l.length ≤ k
  | 0, l, h => by
    rw [clsN, foldN_zero] at h
    rw [List.eq_of_mem_replicate h]; simp
  | k + 1, l, h => by
    have ih := clsN_small cls m k
    rw [clsN, foldN_succ, ← clsN] at h
    rcases List.mem_or_eq_of_mem_set h with h | h
    · have := ih l h; omega
    · subst h
      have : (gL (clsN cls m k) (gI cls k).toNat).length ≤ k := by
        unfold gL
        cases hq : (clsN cls m k)[(gI cls k).toNat]? with
        | none => simp
        | some l => exact ih l (List.mem_of_getElem? hq)
      simp; omega
def classesS (sp : Sp) (sc : Sc) (bs : List Bd) : List (List Int) := clsN (stableS sp sc bs).1 (stableS sp sc bs).2.toNat (stableS sp sc bs).1.length

theorem stabF_ok (N : Int) (rs : List Rl) (n : Nat) : ∀ (f : Nat) (c : List Int × Int), (c.1.length = n ∧ 0 ≤ c.2 ∧ c.2 ≤ n ∧ (∀ x, x ∈ c.1 → 0 ≤ x ∧ x < c.2) ∧ firstsN c.1 n = c.2) →
    ((stabF N rs f c).1.length = n ∧ 0 ≤ (stabF N rs f c).2 ∧ (stabF N rs f c).2 ≤ n ∧ (∀ x, x ∈ (stabF N rs f c).1 → 0 ≤ x ∧ x < (stabF N rs f c).2) ∧ firstsN (stabF N rs f c).1 n = (stabF N rs f c).2)
  | 0, c, h => h
  | f + 1, c, h => by
    rw [stabF]
    split
    · exact h
    · refine stabF_ok N rs n f _ ?_
      have ok := splitN_ok c.1 (sigAl N rs c.1) c.1.length
      have fs := firsts_split c.1 (sigAl N rs c.1) c.1.length
      rw [h.1] at ok fs
      unfold roundS
      rw [h.1]
      exact ⟨ok.1, ok.2.1, ok.2.2.1, ok.2.2.2, fs⟩
theorem stableS_ok (sp : Sp) (sc : Sc) (bs : List Bd) (n : Nat) (hn : (sumI sc.atoms).toNat = n) :
    (stableS sp sc bs).1.length = n ∧ 0 ≤ (stableS sp sc bs).2 ∧ (stableS sp sc bs).2 ≤ n ∧ (∀ x, x ∈ (stableS sp sc bs).1 → 0 ≤ x ∧ x < (stableS sp sc bs).2) ∧ firstsN (stableS sp sc bs).1 n = (stableS sp sc bs).2 := by
  refine stabF_ok _ _ n _ _ ?_
  have ok := splitN_ok (List.replicate n 0) (fun x y => alike0 sp sc x y) n
  have fs := firsts_split (List.replicate n 0) (fun x y => alike0 sp sc x y) n
  unfold cls0
  rw [hn]
  exact ⟨ok.1, ok.2.1, ok.2.2.1, ok.2.2.2, fs⟩

theorem classesU (sp : Sp) (sc : Sc) (u : GU sc) (hsp : sc.atoms.length = sp.sorts.length) (bs : List Bd) (gb : GBs (sumI sc.atoms) bs) :
    SoundP Tryz.prog 7 [eSp sp, eSc sc, lBd bs] (lL (classesS sp sc bs)) := by
  refine SoundP.of_sound (Sound.of_awp Tryz.call7 Tryz.func7 rfl (Nat.le_of_ble_eq_true (by kernel_rfl)) (by kernel_rfl) (pl := {}) ?_)
  simp [go_sem]
  refine CallStep.pure (stableU sp sc u hsp bs gb) (.cons (.hf (hf_eSp sp)) (.cons (.hf (hf_eSc sc)) (.cons (.hf (hf_lBd bs)) .nil))) ?_
  have ok := stableS_ok sp sc bs _ rfl
  unfold classesS
  have hn12 := u.n12
  generalize (stableS sp sc bs) = c at *
  obtain ⟨cls, m0⟩ := c
  simp only at ok
  obtain ⟨m, hm⟩ := Int.eq_ofNat_of_zero_le ok.2.1
  subst hm
  have hl12 : cls.length ≤ 12 := by omega
  have hm12 : m ≤ 12 := by omega
  have hcv := ok.2.2.2.1
  clear ok
  simp [go_sem, show (m : Int) ≤ 4294967296 by omega]
  refine LoopGo.up cls.length (fun k st => st.tm 9 = .sl 0 1 0 m ∧ st.tm 21 = lI cls ∧ st.tm 22 = aI cls.length ∧ st.tm 23 = aI k ∧ ∃ cells, RowsM st.mu cells (clsN cls m k)) ?_ ?_
  · simp [go_sem]
    refine ⟨List.replicate m (.lst true []), by simp, by simp [clsN, foldN], fun i s l hi hl => ?_, fun i b n hi => ?_, fun i j b n m' hi hj => ?_⟩
    · rw [clsN, foldN_zero] at hl
      exact .inl ⟨List.eq_of_mem_replicate (List.mem_of_getElem? hi), List.eq_of_mem_replicate (List.mem_of_getElem? hl)⟩
    · have := List.eq_of_mem_replicate (List.mem_of_getElem? hi); cases this
    · have := List.eq_of_mem_replicate (List.mem_of_getElem? hi); cases this
  rintro k st hk ⟨e9, e21, e22, e23, cells, hr⟩
  by_cases hlt : k < cls.length
  · have hv := hcv _ (List.getElem_mem hlt)
    have hvm : cls[k].toNat < m := by omega
    have hlen := clsN_len cls m k
    have hsmall := clsN_small cls m k
    have hs : clsN cls m (k + 1) = (clsN cls m k).set cls[k].toNat (gL (clsN cls m k) cls[k].toNat ++ [(k : Int)]) := by rw [clsN, foldN_succ, gI_eq hlt, ← clsN]
    have hcl := hr.len
    have hgl : gL (clsN cls m k) cls[k].toNat = (clsN cls m k)[cls[k].toNat]'(by omega) := gL_eq (by omega)
    have hlq : (clsN cls m k)[cls[k].toNat]? = some (gL (clsN cls m k) cls[k].toNat) := by rw [hgl, List.getElem?_eq_getElem]
    have hsz := hsmall _ (List.mem_of_getElem? hlq)
    generalize gL (clsN cls m k) cls[k].toNat = l at *
    have hcq : cells[cls[k].toNat]? = some (cells[cls[k].toNat]'(by omega)) := List.getElem?_eq_getElem _
    generalize cells[cls[k].toNat]'(by omega) = s at hcq
    have ht := take1_drop hcq
    have hown := hr.own _ _ _ hcq hlq
    simp [go_sem, e9, e21, e22, e23, hr.at0, hlt, hv.1, show cls[k] < (m : Int) by omega, show cls[k].toNat + 1 ≤ cells.length by omega, ht]
    refine AppendStep.int1 (e := 3) (bt := 8) (z := 0) (l := l) (by simp [go_sem]) (by simp [go_sem]) (by simp [go_sem]) (by omega) hown (by omega) ?_
    intro mu' h1 h2
    have hstep := hr.step hcq hlq h1 h2
    have h0l : 0 < st.mu.length := (List.getElem?_eq_some_iff.1 hr.at0).1
    have hne0 : s ≠ .sl 0 1 0 l.length := by
      intro e
      rw [e] at hcq
      have := hr.pos _ _ _ hcq
      omega
    have h00 : mu'[0]? = some (.arr cells) := by rw [h2 0 h0l hne0]; exact hr.at0
    simp [go_sem, e9, e21, e22, e23, hv.1, show cls[k] < (m : Int) by omega, h00, show cls[k].toNat + 1 ≤ cells.length by omega]
    refine ⟨hlt, wrap_i64 (by omega) (by omega), cells.set cls[k].toNat (.sl st.mu.length 1 0 (l ++ [(k : Int)]).length), ?_⟩
    rw [hs]
    simpa using hstep
  · have hge : k = cls.length := by omega
    subst hge
    simp [go_sem, e9, e21, e22, e23]
    exact hr.rd (clsN_len cls m _).symm
end Go.Proofs.YtiophnmdopoeeaaGreat.C28

set_option linter.unusedVariables false
set_option linter.unusedSimpArgs false
set_option maxRecDepth 100000
namespace Go.Proofs.YtiophnmdopoeeaaGreat.C29
open Go Go.Ev Go.Proofs Go.Proofs.YtiophnmdopoeeaaGreat.C1 Go.Proofs.YtiophnmdopoeeaaGreat.C2 Go.Proofs.YtiophnmdopoeeaaGreat.C3 Go.Proofs.YtiophnmdopoeeaaGreat.C4 Go.Proofs.YtiophnmdopoeeaaGreat.C5 Go.Proofs.YtiophnmdopoeeaaGreat.C6 Go.Proofs.YtiophnmdopoeeaaGreat.C7 Go.Proofs.YtiophnmdopoeeaaGreat.C9 Go.Proofs.YtiophnmdopoeeaaGreat.C10 Go.Proofs.YtiophnmdopoeeaaGreat.C11 Go.Proofs.YtiophnmdopoeeaaGreat.C12 Go.Proofs.YtiophnmdopoeeaaGreat.C14 Go.Proofs.YtiophnmdopoeeaaGreat.C15 Go.Proofs.YtiophnmdopoeeaaGreat.C16 Go.Proofs.YtiophnmdopoeeaaGreat.C17 Go.Proofs.YtiophnmdopoeeaaGreat.C18 Go.Proofs.YtiophnmdopoeeaaGreat.C20 Go.Proofs.YtiophnmdopoeeaaGreat.C22 Go.Proofs.YtiophnmdopoeeaaGreat.C24 Go.Proofs.YtiophnmdopoeeaaGreat.C25 Go.Proofs.YtiophnmdopoeeaaGreat.C26 Go.Proofs.YtiophnmdopoeeaaGreat.C27 Go.Proofs.YtiophnmdopoeeaaGreat.C28

theorem OwnF.same {lo : Nat} {mu mu' : Mu} {sz : Nat} {av : AV} {xs : List (List AV)} (h : OwnF lo mu sz av xs) (hl : mu.length ≤ mu'.length) (hs : ∀ i, i < mu.length → mu'[i]? = mu[i]?) : OwnF lo mu' sz av xs := by
  obtain ⟨ho, hb, hm⟩ := h
  refine ⟨?_, hb, by omega⟩
  rcases ho with rfl | ⟨b, rfl, hc⟩
  · exact .inl rfl
  · exact .inr ⟨b, rfl, by rw [hs b (List.getElem?_eq_some_iff.1 hc).1]; exact hc⟩
theorem rows_rP (xs : List (Int × Int)) : rowsWf 2 (xs.map rP) := fun r hr => by
  obtain ⟨n, _, rfl⟩ := List.mem_map.1 hr
  exact ⟨rfl, rfl⟩
theorem OwnF.rdP {lo : Nat} {mu : Mu} {av : AV} {xs : List (Int × Int)} (h : OwnF lo mu 2 av (xs.map rP)) : Rd mu av (lP xs) :=
  h.1.rd (rows_rP xs).ok fun r hr c hc => by
    obtain ⟨n, _, rfl⟩ := List.mem_map.1 hr
    simp at hc
    rcases hc with rfl | rfl <;> exact HF.sc _

def swapRow (cls : List Int) (sym : Nat → Nat → Bool) (x : Nat) (l : List (Int × Int)) (j : Nat) : List (Int × Int) := foldN (fun d l => if gI cls x = gI cls (x + 1 + d) ∧ sym x (x + 1 + d) = true then l ++ [((x : Int), ((x + 1 + d : Nat) : Int))] else l) l j
def swapsN (cls : List Int) (sym : Nat → Nat → Bool) (n k : Nat) : List (Int × Int) := foldN (fun x l => swapRow cls sym x l (n - (x + 1))) [] k
theorem swapRow_len (cls : List Int) (sym : Nat → Nat → Bool) (x : Nat) (l : List (Int × Int)) : ∀ j, (swapRow cls sym x l j).length ≤ l.length + j
  | 0 => by simp [swapRow, foldN]
  | j + 1 => by
    have := swapRow_len cls sym x l j
    rw [swapRow, foldN_succ, ← swapRow]
    split
    · simp; omega
    · omega
theorem swapsN_len (cls : List Int) (sym : Nat → Nat → Bool) (n : Nat) : ∀ k, (swapsN cls sym n k).length ≤ n * k
  | 0 => by simp [swapsN, foldN]
  | k + 1 => by
    have := swapsN_len cls sym n k
    rw [swapsN, foldN_succ, ← swapsN]
    have := swapRow_len cls sym k (swapsN cls sym n k) (n - (k + 1))
    rw [Nat.mul_add]; omega
def symSw (sc : Sc) (bs : List Bd) (n : Nat) (x y : Nat) : Bool := symB sc bs (swapL x y n)
def swapsS (sp : Sp) (sc : Sc) (bs : List Bd) : List (Int × Int) := swapsN (stableS sp sc bs).1 (symSw sc bs (stableS sp sc bs).1.length) (stableS sp sc bs).1.length (stableS sp sc bs).1.length

/-- the identity, filled up to i -/
def idN (n i : Nat) : List AV := (List.range i).map (fun j : Nat => aI j) ++ List.replicate (n - i) (aI 0)
theorem idN_len (n i : Nat) (h : i ≤ n) : (idN n i).length = n := by simp [idN]; omega
theorem idN_set (n i : Nat) (h : i < n) : (idN n i).set i (aI i) = idN n (i + 1) := by
  rw [idN, show n - i = (n - (i + 1)) + 1 by omega, List.replicate_succ, List.set_append_right _ _ (by simp)]
  simp [idN, List.range_succ]
theorem idN_swap (n x y : Nat) (hx : x < n) (hy : y < n) : ((idN n n).set x (aI y)).set y (aI x) = (swapL x y n).map aI := by
  apply List.ext_getElem?
  intro i
  rw [List.getElem?_set, List.getElem?_set]
  simp only [List.length_set, idN_len n n (Nat.le_refl _), swapL, List.map_map, List.getElem?_map]
  by_cases hi : i < n
  · rw [List.getElem?_range hi]
    by_cases h1 : y = i
    · subst h1
      rw [if_pos rfl, if_pos hy]
      simp [swap1]
      intro h; omega
    · rw [if_neg h1]
      by_cases h2 : x = i
      · subst h2
        rw [if_pos rfl, if_pos hx]
        simp [swap1]
      · rw [if_neg h2, idN, List.getElem?_append_left (by simpa using hi), List.getElem?_map, List.getElem?_range hi]
        simp [swap1, show ¬ (i : Int) = x by omega, show ¬ (i : Int) = y by omega]
  · rw [List.getElem?_eq_none (l := List.range n) (by simpa using hi)]
    rw [if_neg (by omega), if_neg (by omega), idN, List.getElem?_eq_none (by simp; omega)]
    rfl

theorem swapsU (sp : Sp) (sc : Sc) (u : GU sc) (hsp : sc.atoms.length = sp.sorts.length) (bs : List Bd) (gb : GBs (sumI sc.atoms) bs) :
    SoundP Tryz.prog 14 [eSp sp, eSc sc, lBd bs] (lP (swapsS sp sc bs)) := by
  refine SoundP.of_sound (Sound.of_awp Tryz.call14 Tryz.func14 rfl (Nat.le_of_ble_eq_true (by kernel_rfl)) (by kernel_rfl) (pl := {}) ?_)
  simp [go_sem]
  refine CallStep.pure (stableU sp sc u hsp bs gb) (.cons (.hf (hf_eSp sp)) (.cons (.hf (hf_eSc sc)) (.cons (.hf (hf_lBd bs)) .nil))) ?_
  have ok := stableS_ok sp sc bs _ rfl
  unfold swapsS
  have hn12 := u.n12
  generalize (stableS sp sc bs) = c at *
  obtain ⟨cls, m0⟩ := c
  simp only at ok
  have hl12 : cls.length ≤ 12 := by omega
  clear ok
  generalize hNN : cls.length = N at *
  generalize hsym : symSw sc bs N = sym
  simp [go_sem, hNN]
  refine LoopGo.up N (fun x st => st.tm 2 = lBd bs ∧ st.tm 4 = .ip [lI sc.atoms, aI sc.steps] ∧ st.tm 7 = lI cls ∧ st.tm 22 = aI N ∧ st.tm 23 = aI x ∧ OwnF 0 st.mu 2 (st.tm 9) ((swapsN cls sym N x).map rP)) ?_ ?_
  · simp [go_sem, swapsN, foldN]
    exact OwnF.nil (Nat.zero_le _)
  rintro x st hx ⟨e2, e4, e7, e22, e23, ho⟩
  by_cases hlt : x < N
  case neg =>
    have hge : x = N := by omega
    subst hge
    simp [go_sem, e2, e4, e7, e22, e23]
    exact OwnF.rdP ho
  have hs1 : swapsN cls sym N (x + 1) = swapRow cls sym x (swapsN cls sym N x) (N - (x + 1)) := by rw [swapsN, foldN_succ, ← swapsN]
  have hl1 := swapsN_len cls sym N x
  have hl2 : N * x ≤ 12 * 12 := Nat.mul_le_mul hl12 (by omega)
  generalize swapsN cls sym N x = l0 at *
  simp [go_sem, e2, e4, e7, e22, e23, hlt]
  refine LoopGo.up (N - (x + 1)) (fun d st => st.tm 2 = lBd bs ∧ st.tm 4 = .ip [lI sc.atoms, aI sc.steps] ∧ st.tm 7 = lI cls ∧ st.tm 22 = aI N ∧ st.tm 23 = aI x ∧ st.tm 10 = aI x ∧ st.tm 11 = aI (x + 1 + d : Nat) ∧ OwnF 0 st.mu 2 (st.tm 9) ((swapRow cls sym x l0 d).map rP)) ?_ ?_
  · simp [go_sem, e2, e4, e7, e22, e23, swapRow, foldN]
    exact ⟨wrap_i64 (by omega) (by omega), ho⟩
  clear ho e2 e4 e7 e22 e23
  clear st
  rintro d st hd ⟨e2, e4, e7, e22, e23, e10, e11, ho⟩
  by_cases hdl : d < N - (x + 1)
  case neg =>
    have hge : d = N - (x + 1) := by omega
    subst hge
    simp [go_sem, e2, e4, e7, e22, e23, e10, e11, hNN, show ¬ (x : Int) + 1 + ((N - (x + 1) : Nat) : Int) < N by omega]
    rw [hs1]
    exact ⟨hlt, wrap_i64 (by omega) (by omega), ho⟩
  have hs2 : swapRow cls sym x l0 (d + 1) = if gI cls x = gI cls (x + 1 + d) ∧ sym x (x + 1 + d) = true then swapRow cls sym x l0 d ++ [((x : Int), ((x + 1 + d : Nat) : Int))] else swapRow cls sym x l0 d := by rw [swapRow, foldN_succ, ← swapRow]
  have hl3 := swapRow_len cls sym x l0 d
  generalize swapRow cls sym x l0 d = l1 at *
  have hyN : x + 1 + d < N := by omega
  have hy1 : x + 1 + (d + 1) = x + 1 + d + 1 := by omega
  generalize hyd : x + 1 + d = y at *
  simp [go_sem, e2, e4, e7, e22, e23, e10, e11, hNN, hyN, show (N : Int) ≤ 4294967296 by omega]
  have hP0 : (st.mu ++ [.arr (List.replicate N (aI 0))])[st.mu.length]? = some (.arr (idN N 0)) := by simp [idN]
  have hPs : ∀ i, i < st.mu.length → (st.mu ++ [.arr (List.replicate N (aI 0))])[i]? = st.mu[i]? := fun i hi => by rw [List.getElem?_append_left hi]
  generalize hmu0 : st.mu = mu0 at *
  generalize hav : st.tm 9 = av at *
  generalize mu0 ++ [.arr (List.replicate N (aI 0))] = mu1 at *
  refine LoopGo.up N (fun i st => st.tm 2 = lBd bs ∧ st.tm 4 = .ip [lI sc.atoms, aI sc.steps] ∧ st.tm 7 = lI cls ∧ st.tm 22 = aI N ∧ st.tm 23 = aI x ∧ st.tm 10 = aI x ∧ st.tm 11 = aI y ∧ st.tm 9 = av ∧ st.tm 12 = .sl mu0.length 1 0 N ∧ st.tm 38 = aI N ∧ st.tm 39 = aI i ∧ st.mu[mu0.length]? = some (.arr (idN N i)) ∧ ∀ i, i < mu0.length → st.mu[i]? = mu0[i]?) ?_ ?_
  · simp [go_sem, e2, e4, e7, e22, e23, e10, e11, hav, hNN]
    exact ⟨hP0, hPs⟩
  clear hP0 hPs hav e2 e4 e7 e22 e23 e10 e11 hmu0
  clear mu1
  clear st
  rintro i st hi ⟨e2, e4, e7, e22, e23, e10, e11, e9, e12, e38, e39, hP, hPs⟩
  have hPl : mu0.length < st.mu.length := (List.getElem?_eq_some_iff.1 hP).1
  by_cases hiN : i < N
  · have hset := idN_set N i hiN
    have hil := idN_len N i hi
    generalize idN N i = cells at *
    simp [go_sem, e2, e4, e7, e22, e23, e10, e11, e9, e12, e38, e39, hP, hiN, hil, show i + 1 ≤ N by omega, hset]
    refine ⟨wrap_i64 (by omega) (by omega), by rw [List.getElem?_set_self hPl], fun j hj => ?_⟩
    rw [List.getElem?_set_ne (by omega)]; exact hPs j hj
  have hge : i = N := by omega
  subst hge
  have hil := idN_len i i (Nat.le_refl _)
  have hsw := idN_swap i x y hlt hyN
  have hP1 : (st.mu.set mu0.length (.arr (((idN i i).set x (aI y)).set y (aI x))))[mu0.length]? = some (.arr ((swapL x y i).map aI)) := by
    rw [List.getElem?_set_self hPl, hsw]
  have hP2 : ∀ j, j < mu0.length → (st.mu.set mu0.length (.arr (((idN i i).set x (aI y)).set y (aI x))))[j]? = mu0[j]? := fun j hj => by
    rw [List.getElem?_set_ne (by omega)]; exact hPs j hj
  have hP3 : mu0.length ≤ (st.mu.set mu0.length (.arr (((idN i i).set x (aI y)).set y (aI x)))).length := by simp; omega
  have hPm : (st.mu.set mu0.length (.arr ((idN i i).set x (aI y))))[mu0.length]? = some (.arr ((idN i i).set x (aI y))) := by rw [List.getElem?_set_self hPl]
  generalize idN i i = cells at *
  simp [go_sem, e2, e4, e7, e22, e23, e10, e11, e9, e12, e38, e39, hP, hil, hlt, hyN, show x + 1 ≤ i by omega, show y + 1 ≤ i by omega, hPm]
  generalize st.mu.set mu0.length (.arr ((cells.set x (aI y)).set y (aI x))) = mu2 at *
  have ho2 := OwnF.same ho hP3 hP2
  have hxc : x < cls.length := by omega
  have hyc : y < cls.length := by omega
  have hsl : (swapL x y i).length = i := by simp [swapL]
  have hrd := (OwnF.ofCells (lo := 0) (n := i) (xs := swapL x y i) (Nat.zero_le _) hP1 hsl).rdI
  refine DrawGo.intro (by kernel_rfl) ?_
  rw [gI_eq hxc, gI_eq hyc] at hs2
  by_cases hcc : cls[x] = cls[y]
  · simp [go_sem, e2, e4, e7, e22, e23, e10, e11, e9, e12, e38, e39, hxc, hyc, hcc, hNN, hlt, hyN]
    refine CallStep.lend (args' := [eSc sc, lBd bs, lI (swapL x y i)]) (symmetricU sc u bs gb _) ⟨.hf _ (hf_eSc sc), .hf _ (hf_lBd bs), hrd, trivial⟩ (FL.sc _) ?_
    have hss : symB sc bs (swapL x y i) = sym x y := by rw [← hsym]; rfl
    rw [hss]
    by_cases hb : sym x y = true
    · rw [if_pos ⟨hcc, hb⟩] at hs2
      simp [go_sem, e2, e4, e7, e22, e23, e10, e11, e9, e12, e38, e39, hcc, hb]
      refine AppendStep.ownF (lo := 0) (e := 52) (sz := 2) (bt := 16) (zv := .agg [aI 0, aI 0]) (xs := l1.map rP) (ys := [rP (x, y)]) (by simp [go_sem]) (by simp [go_sem]) (by simp [go_sem]) rfl rfl (by omega) (by omega) ho2 (by simp [rowsOf]) (rows_rP _) (rows_rP [((x : Int), (y : Int))]) (by simp; omega) ?_
      intro av' mu' ho' _
      simp [go_sem, e2, e4, e7, e22, e23, e10, e11, e9, e12, e38, e39]
      refine ⟨hdl, ?_, ?_⟩
      · rw [wrap_i64 (by omega) (by omega)]; omega
      · rw [hs2, List.map_append]; exact ho'
    · rw [if_neg (fun h => hb h.2)] at hs2
      simp only [Bool.not_eq_true] at hb
      simp [go_sem, e2, e4, e7, e22, e23, e10, e11, e9, e12, e38, e39, hcc, hb]
      refine ⟨hdl, ?_, ?_⟩
      · rw [wrap_i64 (by omega) (by omega)]; omega
      · rw [hs2]; exact ho2
  · rw [if_neg (fun h => hcc h.1)] at hs2
    simp [go_sem, e2, e4, e7, e22, e23, e10, e11, e9, e12, e38, e39, hxc, hyc, hcc, hNN, hlt, hyN]
    refine ⟨hdl, ?_, ?_⟩
    · rw [wrap_i64 (by omega) (by omega)]; omega
    · rw [hs2]; exact ho2
end Go.Proofs.YtiophnmdopoeeaaGreat.C29

set_option linter.unusedVariables false
set_option linter.unusedSimpArgs false
set_option maxRecDepth 100000
namespace Go.Proofs.YtiophnmdopoeeaaGreat.C30
open Go Go.Ev Go.Proofs Go.Proofs.YtiophnmdopoeeaaGreat.C1 Go.Proofs.YtiophnmdopoeeaaGreat.C2 Go.Proofs.YtiophnmdopoeeaaGreat.C3 Go.Proofs.YtiophnmdopoeeaaGreat.C4 Go.Proofs.YtiophnmdopoeeaaGreat.C5 Go.Proofs.YtiophnmdopoeeaaGreat.C6 Go.Proofs.YtiophnmdopoeeaaGreat.C7 Go.Proofs.YtiophnmdopoeeaaGreat.C9 Go.Proofs.YtiophnmdopoeeaaGreat.C10 Go.Proofs.YtiophnmdopoeeaaGreat.C11 Go.Proofs.YtiophnmdopoeeaaGreat.C12 Go.Proofs.YtiophnmdopoeeaaGreat.C14 Go.Proofs.YtiophnmdopoeeaaGreat.C15 Go.Proofs.YtiophnmdopoeeaaGreat.C16 Go.Proofs.YtiophnmdopoeeaaGreat.C17 Go.Proofs.YtiophnmdopoeeaaGreat.C18 Go.Proofs.YtiophnmdopoeeaaGreat.C19 Go.Proofs.YtiophnmdopoeeaaGreat.C20 Go.Proofs.YtiophnmdopoeeaaGreat.C22 Go.Proofs.YtiophnmdopoeeaaGreat.C24 Go.Proofs.YtiophnmdopoeeaaGreat.C25 Go.Proofs.YtiophnmdopoeeaaGreat.C26 Go.Proofs.YtiophnmdopoeeaaGreat.C27 Go.Proofs.YtiophnmdopoeeaaGreat.C28 Go.Proofs.YtiophnmdopoeeaaGreat.C29

theorem cloneI (p : List Int) (hl : p.length ≤ 1000000000) : SoundP Tryz.prog 36 [lI p] (lI p) := by
  refine SoundP.of_sound (Sound.of_awp Tryz.call36 Tryz.func36 rfl (Nat.le_of_ble_eq_true (by kernel_rfl)) (by kernel_rfl) (pl := {}) ?_)
  cases p with
  | nil =>
    simp [go_sem, lI]
    refine ⟨.wk _ true _ (.hf _ (HF.lst (full := true) (xs := []) fun r hr => by simp at hr)), ?_⟩
    refine AppendStep.ints (lo := 0) (e := 3) (bt := 8) (z := 0) (xs := []) (ys := []) (by simp [go_sem]) (by simp [go_sem]) (by simp [go_sem]) (by omega) (OwnF.nil (Nat.zero_le _)) (by simp [rowsOf]) (by simp) ?_
    intro av mu' ho _
    simp [go_sem]
    exact ho.rdI
  | cons x l =>
    simp [go_sem, lI]
    refine AppendStep.ints (lo := 0) (e := 3) (bt := 8) (z := 0) (xs := []) (ys := x :: l) (by simp [go_sem]) (by simp [go_sem]) (by simp [go_sem]) (by omega) (OwnF.nil (Nat.zero_le _)) (by simp [rowsOf]) (by simpa using (by simp at hl; omega)) ?_
    intro av mu' ho _
    simp [go_sem]
    exact ho.rdI
abbrev lTups (ts : List (List (List Int))) : AV := .lst false (ts.map fun l => [lL l])
abbrev eKT (t : Int) : AV × AV := (aI t, aB true)
abbrev eHas (l : List Int) : AV := .im (l.map eKT)
abbrev lHas (ls : List (List Int)) : AV := .lst false (ls.map fun l => [eHas l])
def tupsOf (n : Int) (r : Rl) : List (List Int) := r.ts.map fun t => digN n t r.ar.toNat
abbrev searchC (sc : Sc) (cls : List Int) (rs : List Rl) (n : Int) : List AV := [lI sc.atoms, aI sc.steps, lI cls, lRel rs, lTups (rs.map (tupsOf n)), lHas (rs.map Rl.ts)]
def cons1 (n : Int) (r : Rl) (p : List Int) (t : Int) : Bool := decide (maxF (digN n t r.ar.toNat) ≠ (p.length : Int) - 1) || decide (rankF n ((digN n t r.ar.toNat).map fun x => gI p x.toNat) ∈ r.ts)
def consR (n : Int) (p : List Int) (r : Rl) : Bool := r.ts.all (cons1 n r p)
def consB (n : Int) (rs : List Rl) (p : List Int) : Bool := rs.all (consR n p)

theorem hf_eHas (l : List Int) : HF (eHas l) := HF.im fun p hp => by
  obtain ⟨q, _, rfl⟩ := List.mem_map.1 hp
  exact ⟨HF.sc _, HF.sc _⟩
theorem hf_lHas (l : List (List Int)) : HF (lHas l) := HF.lst fun r hr c hc => by
  obtain ⟨n, _, rfl⟩ := List.mem_map.1 hr
  simp at hc; subst hc; exact hf_eHas _
theorem hf_lTups (l : List (List (List Int))) : HF (lTups l) := HF.lst fun r hr c hc => by
  obtain ⟨n, _, rfl⟩ := List.mem_map.1 hr
  simp at hc; subst hc; exact hf_lL _
theorem hf_search (sc : Sc) (cls : List Int) (rs : List Rl) (n : Int) : HF (.ip (searchC sc cls rs n)) := HF.ip fun c hc => by
  simp at hc
  rcases hc with rfl | rfl | rfl | rfl | rfl | rfl
  · exact hf_lI _
  · exact HF.sc _
  · exact hf_lI _
  · exact hf_lRel _
  · exact hf_lTups (rs.map (tupsOf n))
  · exact hf_lHas (rs.map Rl.ts)

theorem findA_int (x : Int) : ∀ (l : List Int) (i : Nat), ∃ r, findA Tryz.prog 3 (aI x) (l.map eKT) i = some r ∧ (r = none ↔ ¬ x ∈ l) ∧ ∀ j, r = some j → i ≤ j ∧ j < i + l.length
  | [], i => ⟨none, rfl, by simp, by simp⟩
  | y :: l, i => by
    obtain ⟨r, h1, h2, h3⟩ := findA_int x l (i + 1)
    have hk : keyEq Tryz.prog 3 (aI x) (aI y) = some (decide (x = y)) := by simp [go_sem]
    by_cases e : x = y
    · refine ⟨some i, ?_, by simp [e], fun j hj => ?_⟩
      · rw [List.map_cons, findA, hk]; simp [e]
      · simp only [Option.some.injEq] at hj; simp; omega
    · refine ⟨r, ?_, ?_, fun j hj => ?_⟩
      · rw [List.map_cons, findA, hk]; simp [e, h1]
      · rw [h2]; simp [e]
      · have := h3 j hj; simp; omega

theorem maxF_max : ∀ (l : List Int) (a : Int), a ≤ l.foldl max a ∧ ∀ y, y ∈ l → y ≤ l.foldl max a
  | [], a => by simp
  | x :: l, a => by
    have := maxF_max l (max a x)
    simp only [List.foldl_cons]
    refine ⟨by omega, fun y hy => ?_⟩
    rcases List.mem_cons.1 hy with rfl | h
    · omega
    · exact this.2 y h
theorem maxF_le {l : List Int} {y : Int} (h : y ∈ l) : y ≤ maxF l := by
  cases l with
  | nil => simp at h
  | cons x l =>
    have := maxF_max l x
    rcases List.mem_cons.1 h with rfl | h
    · exact this.1
    · exact this.2 y h

/-- the image of a tuple, filled up to q -/
def imgR (p tup : List Int) (T q : Nat) : List AV := ((tup.take q).map fun x => aI (gI p x.toNat)) ++ List.replicate (T - q) (aI 0)
theorem imgR_len (p tup : List Int) (T q : Nat) (hT : tup.length = T) (h : q ≤ T) : (imgR p tup T q).length = T := by simp [imgR]; omega
theorem imgR_set (p tup : List Int) (T q : Nat) (hT : tup.length = T) (h : q < T) : (imgR p tup T q).set q (aI (gI p (gI tup q).toNat)) = imgR p tup T (q + 1) := by
  have hq : q < tup.length := by omega
  rw [imgR, show T - q = (T - (q + 1)) + 1 by omega, List.replicate_succ, List.set_append_right _ _ (by simp; omega)]
  have : ((tup.take q).map fun x => aI (gI p x.toNat)).length = q := by simp; omega
  rw [this, Nat.sub_self, List.set_cons_zero, imgR, List.take_add_one, List.getElem?_eq_getElem hq, gI_eq hq, List.map_append, List.append_assoc]
  rfl
theorem imgR_full (p tup : List Int) (T : Nat) (hT : tup.length = T) : imgR p tup T T = (tup.map fun x => gI p x.toNat).map aI := by
  rw [imgR, List.take_of_length_le (by omega)]
  simp

theorem consistentU (sc : Sc) (u : GU sc) (cls : List Int) (rs : List Rl) (hr : ∀ r, r ∈ rs → GRel (sumI sc.atoms) r) (hrl : rs.length ≤ 100) (p : List Int) (hp : ∀ x, x ∈ p → 0 ≤ x ∧ x < sumI sc.atoms) (hpl : p.length ≤ 20) :
    SoundP Tryz.prog 38 [.ip (searchC sc cls rs (sumI sc.atoms)), lI p] (aB (consB (sumI sc.atoms) rs p)) := by
  refine SoundP.of_sound (Sound.of_awp Tryz.call38 Tryz.func38 rfl (Nat.le_of_ble_eq_true (by kernel_rfl)) (by kernel_rfl) (pl := {}) ?_)
  generalize hn : sumI sc.atoms = n at *
  simp [go_sem]
  refine LoopGo.up rs.length (fun k st => st.tm 0 = .ip (searchC sc cls rs n) ∧ st.tm 1 = lI p ∧ st.tm 5 = aI ((p.length : Int) - 1) ∧ st.tm 19 = lTups (rs.map (tupsOf n)) ∧ st.tm 20 = aI rs.length ∧ st.tm 21 = aI k ∧ ∀ (i : Nat) (h : i < rs.length), i < k → consR n p rs[i] = true) ?_ ?_
  · simp [go_sem]
    exact wrap_i64 (by omega) (by omega)
  rintro k st hk ⟨e0, e1, e5, e19, e20, e21, hall⟩
  by_cases hlt : k < rs.length
  case neg =>
    have hge : k = rs.length := by omega
    subst hge
    have : consB n rs p = true := all_iff_get.2 fun i hi => hall i hi hi
    rw [this]
    simp [go_sem, e0, e1, e5, e19, e20, e21]
    exact .hf _ (HF.sc _)
  have gr := hr _ (List.getElem_mem hlt)
  have hbad : consR n p rs[k] = false → consB n rs p = false := fun h => all_bad hlt h
  have hsmall := gr.small (by have := u.n0; omega) (by have := u.n12; omega)
  have hdig : ∀ t, t ∈ rs[k].ts → (∀ d, d ∈ digN n t rs[k].ar.toNat → 0 ≤ d ∧ d < n) := fun t ht => digN_mem (hsmall t ht).2.2 _
  have hrk : (rs.map (tupsOf n))[k]? = some (tupsOf n rs[k]) := by rw [List.getElem?_map, List.getElem?_eq_getElem hlt]; rfl
  have har1 := gr.ar1
  have har3 := gr.ar3
  have hlen := gr.len
  generalize hrr : rs[k] = r at *
  have htl : (tupsOf n r).length = r.ts.length := by simp [tupsOf]
  simp [go_sem, e0, e1, e5, e19, e20, e21, hlt, hrr, htl]
  refine LoopGo.up r.ts.length (fun j st => st.tm 0 = .ip (searchC sc cls rs n) ∧ st.tm 1 = lI p ∧ st.tm 5 = aI ((p.length : Int) - 1) ∧ st.tm 19 = lTups (rs.map (tupsOf n)) ∧ st.tm 20 = aI rs.length ∧ st.tm 21 = aI k ∧ st.tm 6 = aI k ∧ st.tm 26 = lL (tupsOf n r) ∧ st.tm 27 = aI r.ts.length ∧ st.tm 28 = aI j ∧
    ∀ (i : Nat) (h : i < r.ts.length), i < j → cons1 n r p r.ts[i] = true) ?_ ?_
  · simp [go_sem, e0, e1, e5, e19, e20, e21]
  clear e0 e1 e5 e19 e20 e21
  clear st
  rintro j st hj ⟨e0, e1, e5, e19, e20, e21, e6, e26, e27, e28, hallj⟩
  by_cases hjl : j < r.ts.length
  case neg =>
    have hge : j = r.ts.length := by omega
    subst hge
    simp [go_sem, e0, e1, e5, e19, e20, e21, e6, e26, e27, e28]
    refine ⟨hlt, wrap_i64 (by omega) (by omega), fun i h hi => ?_⟩
    rcases Nat.lt_succ_iff_lt_or_eq.1 hi with h2 | h2
    · exact hall i h h2
    · subst h2
      rw [hrr]
      exact all_iff_get.2 fun i hi => hallj i hi hi
  have hj' : j < (tupsOf n r).length := by omega
  have hget : (tupsOf n r)[j] = digN n r.ts[j] r.ar.toNat := by simp [tupsOf]
  have hd := hdig _ (List.getElem_mem hjl)
  have htlen := digN_len n r.ts[j] r.ar.toNat
  have hbadj : cons1 n r p r.ts[j] = false → consB n rs p = false := fun h => hbad (all_bad hjl h)
  have hc1 : cons1 n r p r.ts[j] = (decide (maxF (digN n r.ts[j] r.ar.toNat) ≠ (p.length : Int) - 1) || decide (rankF n ((digN n r.ts[j] r.ar.toNat).map fun x => gI p x.toNat) ∈ r.ts)) := rfl
  generalize hcb0 : cons1 n r p r.ts[j] = cb at *
  generalize digN n r.ts[j] r.ar.toNat = tup at *
  have hne : tup ≠ [] := by intro h; rw [h] at htlen; simp at htlen; omega
  have htl3 : tup.length ≤ 3 := by omega
  have hmaxle : ∀ y, y ∈ tup → y ≤ maxF tup := fun y hy => maxF_le hy
  have hmx : SoundP Tryz.prog 69 [lI tup] (aI (maxF tup)) := by
    cases tup with
    | nil => exact absurd rfl hne
    | cons x l => exact maxI x l (by simp at htl3; omega)
  generalize maxF tup = mx at *
  simp [go_sem, e0, e1, e5, e19, e20, e21, e6, e26, e27, e28, hjl, hj', hget]
  refine CallStep.pure hmx (.cons (.hf (hf_lI _)) .nil) ?_
  by_cases hm : mx = (p.length : Int) - 1
  case neg =>
    have hcb : cb = true := by rw [hc1]; simp [hm]
    simp [go_sem, e0, e1, e5, e19, e20, e21, e6, e26, e27, e28, hjl, hm]
    refine ⟨wrap_i64 (by omega) (by omega), fun i h hi => ?_⟩
    rcases Nat.lt_succ_iff_lt_or_eq.1 hi with h2 | h2
    · exact hallj i h h2
    · subst h2; rw [hcb0]; exact hcb
  have htp : ∀ y, y ∈ tup → 0 ≤ y ∧ y < p.length := fun y hy => by have := hmaxle y hy; have := hd y hy; omega
  generalize hT : tup.length = T at *
  simp [go_sem, e0, e1, e5, e19, e20, e21, e6, e26, e27, e28, hjl, hm, hT, show (T : Int) ≤ 4294967296 by omega]
  generalize hmu0 : st.mu = mu0 at *
  have hI0 : (mu0 ++ [.arr (List.replicate T (aI 0))])[mu0.length]? = some (.arr (imgR p tup T 0)) := by simp [imgR]
  generalize mu0 ++ [.arr (List.replicate T (aI 0))] = mu1 at *
  generalize mu0.length = L at *
  refine LoopGo.up T (fun q st => st.tm 0 = .ip (searchC sc cls rs n) ∧ st.tm 1 = lI p ∧ st.tm 5 = aI ((p.length : Int) - 1) ∧ st.tm 19 = lTups (rs.map (tupsOf n)) ∧ st.tm 20 = aI rs.length ∧ st.tm 21 = aI k ∧ st.tm 6 = aI k ∧ st.tm 26 = lL (tupsOf n r) ∧ st.tm 27 = aI r.ts.length ∧ st.tm 28 = aI j ∧
    st.tm 10 = .sl L 1 0 T ∧ st.tm 39 = lI tup ∧ st.tm 40 = aI T ∧ st.tm 41 = aI q ∧ st.mu[L]? = some (.arr (imgR p tup T q))) ?_ ?_
  · simp [go_sem, e0, e1, e5, e19, e20, e21, e6, e26, e27, e28, hT]
    exact hI0
  clear hI0 e0 e1 e5 e19 e20 e21 e6 e26 e27 e28 hmu0
  clear mu1
  clear st
  rintro q st hq ⟨e0, e1, e5, e19, e20, e21, e6, e26, e27, e28, e10, e39, e40, e41, hI⟩
  by_cases hqT : q < T
  · have hqt : q < tup.length := by omega
    have hy := htp _ (List.getElem_mem hqt)
    have hyn : tup[q].toNat < p.length := by omega
    have hset := imgR_set p tup T q hT hqT
    rw [gI_eq hqt, gI_eq hyn] at hset
    have hil := imgR_len p tup T q hT hq
    have hLl : L < st.mu.length := (List.getElem?_eq_some_iff.1 hI).1
    generalize imgR p tup T q = cells at *
    simp [go_sem, e0, e1, e5, e19, e20, e21, e6, e26, e27, e28, e10, e39, e40, e41, hI, hqT, hqt, hy.1, hy.2, hyn, hil, show q + 1 ≤ T by omega, hset]
    exact ⟨wrap_i64 (by omega) (by omega), by rw [List.getElem?_set_self hLl]⟩
  have hge : q = T := by omega
  subst hge
  have himg : imgR p tup q q = (tup.map fun x => gI p x.toNat).map aI := imgR_full p tup q hT
  rw [himg] at hI
  have hrd := (OwnF.ofCells (lo := 0) (n := q) (xs := tup.map fun x => gI p x.toNat) (Nat.zero_le _) hI (by simp [hT])).rdI
  have hiv : ∀ d, d ∈ (tup.map fun x => gI p x.toNat) → 0 ≤ d ∧ d < sumI sc.atoms := fun d hd => by
    obtain ⟨x, hx, rfl⟩ := List.mem_map.1 hd
    have := htp x hx
    have hx' : x.toNat < p.length := by omega
    rw [gI_eq hx', hn]
    exact hp _ (List.getElem_mem hx')
  have hhk : (rs.map Rl.ts)[k]? = some r.ts := by rw [List.getElem?_map, List.getElem?_eq_getElem hlt, hrr]; rfl
  have hrank := rankU sc u.g (tup.map fun x => gI p x.toNat) (by simp; omega) hiv
  rw [hn] at hrank
  generalize (tup.map fun x => gI p x.toNat) = img at *
  generalize rankF n img = rk at *
  simp [go_sem, e0, e1, e5, e19, e20, e21, e6, e26, e27, e28, e10, e39, e40, e41]
  refine DrawGo.intro (by kernel_rfl) ?_
  simp [go_sem, e0, e1, e5, e19, e20, e21, e6, e26, e27, e28, e10, e39, e40, e41, hlt, hrr]
  refine CallStep.lend (args' := [eSc sc, lI img]) hrank ⟨.hf _ (hf_eSc sc), hrd, trivial⟩ (FL.sc _) ?_
  obtain ⟨res, hf1, hf2, hf3⟩ := findA_int rk r.ts 0
  by_cases hin : rk ∈ r.ts
  · have hcb : cb = true := by rw [hc1]; simp [hin]
    cases res with
    | none => exact absurd hin (hf2.1 rfl)
    | some jj =>
      have hjj := (hf3 jj rfl).2
      have hjl2 : jj < r.ts.length := by omega
      simp [go_sem, e0, e1, e5, e19, e20, e21, e6, e26, e27, e28, e10, e39, e40, e41, hf1, hjl2]
      refine ⟨hjl, wrap_i64 (by omega) (by omega), fun i h hi => ?_⟩
      rcases Nat.lt_succ_iff_lt_or_eq.1 hi with h2 | h2
      · exact hallj i h h2
      · subst h2; rw [hcb0]; exact hcb
  · have hcb : cb = false := by rw [hc1]; simp [hin, hm]
    have hres := hf2.2 hin
    subst hres
    simp [go_sem, e0, e1, e5, e19, e20, e21, e6, e26, e27, e28, e10, e39, e40, e41, hf1]
    rw [hbadj hcb]
    exact .hf _ (HF.sc _)
end Go.Proofs.YtiophnmdopoeeaaGreat.C30

set_option linter.unusedVariables false
set_option linter.unusedSimpArgs false
set_option maxRecDepth 100000
namespace Go.Proofs.YtiophnmdopoeeaaGreat.C31
open Go Go.Ev Go.Proofs Go.Proofs.YtiophnmdopoeeaaGreat.C1 Go.Proofs.YtiophnmdopoeeaaGreat.C2 Go.Proofs.YtiophnmdopoeeaaGreat.C3 Go.Proofs.YtiophnmdopoeeaaGreat.C4 Go.Proofs.YtiophnmdopoeeaaGreat.C5 Go.Proofs.YtiophnmdopoeeaaGreat.C6 Go.Proofs.YtiophnmdopoeeaaGreat.C7 Go.Proofs.YtiophnmdopoeeaaGreat.C9 Go.Proofs.YtiophnmdopoeeaaGreat.C10 Go.Proofs.YtiophnmdopoeeaaGreat.C11 Go.Proofs.YtiophnmdopoeeaaGreat.C12 Go.Proofs.YtiophnmdopoeeaaGreat.C14 Go.Proofs.YtiophnmdopoeeaaGreat.C15 Go.Proofs.YtiophnmdopoeeaaGreat.C16 Go.Proofs.YtiophnmdopoeeaaGreat.C17 Go.Proofs.YtiophnmdopoeeaaGreat.C18 Go.Proofs.YtiophnmdopoeeaaGreat.C19 Go.Proofs.YtiophnmdopoeeaaGreat.C20 Go.Proofs.YtiophnmdopoeeaaGreat.C22 Go.Proofs.YtiophnmdopoeeaaGreat.C24 Go.Proofs.YtiophnmdopoeeaaGreat.C25 Go.Proofs.YtiophnmdopoeeaaGreat.C26 Go.Proofs.YtiophnmdopoeeaaGreat.C27 Go.Proofs.YtiophnmdopoeeaaGreat.C28 Go.Proofs.YtiophnmdopoeeaaGreat.C29 Go.Proofs.YtiophnmdopoeeaaGreat.C30

def goOn (cls : List Int) (cons : List Int → Bool) (p : List Int) (y : Nat) : Prop := gI cls y = gI cls p.length ∧ ¬ (y : Int) ∈ p ∧ cons (p ++ [(y : Int)]) = true
instance (cls : List Int) (cons : List Int → Bool) (p : List Int) (y : Nat) : Decidable (goOn cls cons p y) := by unfold goOn; infer_instance
/-- the search: all ways to go on from p, with d atoms to place -/
def extG (N : Nat) (cls : List Int) (cons : List Int → Bool) : Nat → List Int → List (List Int)
  | 0, p => [p]
  | d + 1, p => (List.range N).flatMap fun y => if goOn cls cons p y then extG N cls cons d (p ++ [(y : Int)]) else []
/-- .. the first k branches -/
def extK (N : Nat) (cls : List Int) (cons : List Int → Bool) (d : Nat) (p : List Int) (k : Nat) : List (List Int) := (List.range k).flatMap fun y => if goOn cls cons p y then extG N cls cons d (p ++ [(y : Int)]) else []
theorem extK_succ (N : Nat) (cls : List Int) (cons : List Int → Bool) (d : Nat) (p : List Int) (k : Nat) : extK N cls cons d p (k + 1) = extK N cls cons d p k ++ (if goOn cls cons p k then extG N cls cons d (p ++ [(k : Int)]) else []) := by
  rw [extK, List.range_succ, List.flatMap_append]; simp [extK]
theorem extK_all (N : Nat) (cls : List Int) (cons : List Int → Bool) (d : Nat) (p : List Int) : extK N cls cons d p N = extG N cls cons (d + 1) p := rfl
theorem extG_len (N : Nat) (cls : List Int) (cons : List Int → Bool) : ∀ (d : Nat) (p : List Int), (extG N cls cons d p).length ≤ N ^ d
  | 0, p => by simp [extG]
  | d + 1, p => by
    have key : ∀ k, (extK N cls cons d p k).length ≤ k * N ^ d := by
      intro k
      induction k with
      | zero => simp [extK]
      | succ k ih =>
        rw [extK_succ, List.length_append, Nat.succ_mul]
        have : (if goOn cls cons p k then extG N cls cons d (p ++ [(k : Int)]) else []).length ≤ N ^ d := by
          split
          · exact extG_len N cls cons d _
          · simp
        omega
    have := key N
    rw [extK_all] at this
    rw [Nat.pow_succ, Nat.mul_comm]; exact this
theorem extK_len (N : Nat) (cls : List Int) (cons : List Int → Bool) (d : Nat) (p : List Int) : ∀ k, (extK N cls cons d p k).length ≤ k * N ^ d
  | 0 => by simp [extK]
  | k + 1 => by
    have ih := extK_len N cls cons d p k
    rw [extK_succ, List.length_append, Nat.succ_mul]
    have : (if goOn cls cons p k then extG N cls cons d (p ++ [(k : Int)]) else []).length ≤ N ^ d := by
      split
      · exact extG_len N cls cons d _
      · simp
    omega

/-- the memory of the search: the list so far, the function itself -/
def GM (o x : Nat) (fnv : AV) (mu : Mu) (L : List (List Int)) : Prop := ∃ av, mu[o]? = some (.arr [av]) ∧ mu[x]? = some (.arr [fnv]) ∧ OwnF (max o x + 1) mu 1 av (L.map rL)
theorem GM.push {o x : Nat} {fnv : AV} {mu : Mu} {L : List (List Int)} (h : GM o x fnv mu L) (c : Cell) : GM o x fnv (mu ++ [c]) L := by
  obtain ⟨av, h1, h2, h3⟩ := h
  have l1 := (List.getElem?_eq_some_iff.1 h1).1
  have l2 := (List.getElem?_eq_some_iff.1 h2).1
  exact ⟨av, by rw [List.getElem?_append_left l1]; exact h1, by rw [List.getElem?_append_left l2]; exact h2, OwnF.push h3 _⟩
theorem GM.cut {o x : Nat} {fnv : AV} {mu : Mu} {L : List (List Int)} (h : GM o x fnv mu L) (c : Cell) : GM o x fnv (cutM (fun i => !(i == mu.length)) (mu ++ [c]) 0) L := by
  obtain ⟨av, h1, h2, ho, hb, hl⟩ := h
  have l1 := (List.getElem?_eq_some_iff.1 h1).1
  have l2 := (List.getElem?_eq_some_iff.1 h2).1
  have key : ∀ (i : Nat) (a : Cell), mu[i]? = some a → (cutM (fun i => !(i == mu.length)) (mu ++ [c]) 0)[i]? = some a := by
    intro i a hi
    have li := (List.getElem?_eq_some_iff.1 hi).1
    rw [cutM_get, List.getElem?_append_left li, hi]
    simp [show i ≠ mu.length by omega]
  refine ⟨av, key _ _ h1, key _ _ h2, ?_, hb, by rw [cutM_len]; simp; omega⟩
  rcases ho with rfl | ⟨b, rfl, hc⟩
  · exact .inl rfl
  · exact .inr ⟨b, rfl, key _ _ hc⟩

theorem AppendStep.litI {P : Program} {mu : Mu} {t t' e bt : Nat} {l : List Int} {x z : Int} {K : AV → Mu → Prop} (hs : sliceOf P t = some (e, 1, bt)) (hs' : (sliceOf P t').isSome = true) (hz : zeroOf P e = some (aI z))
    (hb : bt ≤ 16384) (hl : l.length + 1 ≤ 4294967296) (k : K (.sl mu.length 1 0 (l.length + 1)) (mu ++ [.arr ((l ++ [x]).map aI)])) : AppendStep P mu #[t, t'] (.lst true (l.map rI)) (.lst true [[aI x]]) K := by
  refine .inl ⟨t, t', e, 1, bt, [[aI x]], rfl, hs, hs', ⟨_, hz, rfl, rfl⟩, by omega, hb, rfl, fun r hr => by simp at hr; subst hr; exact ⟨rfl, rfl⟩, .inl ⟨l.map rI, rfl, rows_rI l, by simpa using hl, fun h => by simp at h, fun _ => ?_⟩⟩
  have e1 : (l.map rI ++ [[aI x]]).flatten = (l ++ [x]).map aI := by
    rw [List.flatten_append, flat_rI, List.map_append]; rfl
  rw [e1]
  simpa using k

theorem groupRec (sc : Sc) (u : GU sc) (N : Nat) (hN : sumI sc.atoms = N) (hN6 : N ≤ 6) (cls : List Int) (hcl : cls.length = N) (rs : List Rl) (hr : ∀ r, r ∈ rs → GRel (sumI sc.atoms) r) (hrl : rs.length ≤ 100) (o x : Nat) (hox : o ≠ x) (fnv : AV)
    (hfn : fnv = .fn (.func 35) [] [.ip [lI cls], .ptr o 0, .ip [.ip (searchC sc cls rs N)], .ptr x 0]) :
    ∀ (d : Nat) (p : List Int) (mu : Mu) (L : List (List Int)), p.length + d = N → (∀ v, v ∈ p → 0 ≤ v ∧ v < N) → L.length + N ^ d ≤ 4294967296 → GM o x fnv mu L →
    Sound Tryz.prog 35 [lI p, .ip [lI cls], .ptr o 0, .ip [.ip (searchC sc cls rs N)], .ptr x 0] mu fun e m => e = .ret (.tup []) ∧ GM o x fnv m (L ++ extG N cls (consB N rs) d p) := by
  intro d
  induction d with
  | zero =>
    intro p mu L hpd hpv hL hgm
    obtain ⟨av, ho, hx, hown⟩ := hgm
    refine Sound.of_awp Tryz.call35 Tryz.func35 rfl (Nat.le_of_ble_eq_true (by kernel_rfl)) (by kernel_rfl) (pl := {}) ?_
    have hpl : p.length = N := by omega
    simp [go_sem, hcl, hpl]
    refine DrawGo.intro (by kernel_rfl) ?_
    simp [go_sem, ho]
    refine CallStep.pure (cloneI p (by omega)) (.cons (.hf (hf_lI p)) .nil) ?_
    simp [go_sem]
    refine AppendStep.ownF (lo := max o x + 1) (e := 28) (sz := 1) (bt := 24) (zv := .lst true []) (xs := L.map rL) (ys := [rL p]) (by simp [go_sem]) (by simp [go_sem]) (by simp [go_sem]) rfl rfl (by omega) (by omega) hown (by simp [rowsOf]) (rows_rL _) (rows_rL [p]) (by simpa using hL) ?_
    intro av' mu' ho' hs
    have h1 : mu'[o]? = some (.arr [av]) := by rw [hs o (by omega)]; exact ho
    have h2 : mu'[x]? = some (.arr [fnv]) := by rw [hs x (by omega)]; exact hx
    have hone := ho'.one
    have hcel := ho'.cells
    simp [go_sem, h1, hone, hcel]
    refine ⟨av', by rw [List.getElem?_set_self (List.getElem?_eq_some_iff.1 h1).1], by rw [List.getElem?_set_ne hox]; exact h2, ?_⟩
    have := OwnF.set (c := .arr [av']) (i := o) ho' (by omega)
    rw [List.map_append]
    simpa [extG] using this
  | succ d ih =>
    intro p mu L hpd hpv hL hgm
    refine Sound.of_awp Tryz.call35 Tryz.func35 rfl (Nat.le_of_ble_eq_true (by kernel_rfl)) (by kernel_rfl) (pl := {}) ?_
    have hpl : ¬ p.length = N := by omega
    simp [go_sem, hcl, hpl]
    have hpw : N ^ (d + 1) = N * N ^ d := by rw [Nat.pow_succ, Nat.mul_comm]
    refine LoopGo.up N (fun y st => st.tm 0 = lI p ∧ st.tm 1 = .ip [lI cls] ∧ st.tm 2 = .ptr o 0 ∧ st.tm 3 = .ip [.ip (searchC sc cls rs N)] ∧ st.tm 4 = .ptr x 0 ∧ st.tm 19 = lI cls ∧ st.tm 20 = aI N ∧ st.tm 21 = aI y ∧ GM o x fnv st.mu (L ++ extK N cls (consB N rs) d p y)) ?_ ?_
    · simp [go_sem, hcl, extK]
      exact hgm
    clear hgm
    rintro y st hy ⟨e0, e1, e2, e3, e4, e19, e20, e21, hgm⟩
    by_cases hyN : y < N
    case neg =>
      have hge : y = N := by omega
      subst hge
      simp [go_sem, e0, e1, e2, e3, e4, e19, e20, e21]
      exact hgm
    have hes := extK_succ N cls (consB N rs) d p y
    have hlenK := extK_len N cls (consB N rs) d p y
    have hmul : y * N ^ d + N ^ d ≤ N * N ^ d := by
      have : (y + 1) * N ^ d ≤ N * N ^ d := Nat.mul_le_mul_right _ hyN
      rw [Nat.succ_mul] at this; exact this
    generalize extK N cls (consB N rs) d p y = E at *
    have hyc : y < cls.length := by omega
    have hpc : p.length < cls.length := by omega
    by_cases hc : cls[y] = cls[p.length]
    case neg =>
      have hng : ¬ goOn cls (consB N rs) p y := by
        rintro ⟨h, _⟩
        rw [gI_eq hyc, gI_eq hpc] at h; exact hc h
      rw [if_neg hng, List.append_nil] at hes
      simp [go_sem, e0, e1, e2, e3, e4, e19, e20, e21, hyN, hyc, hpc, hc]
      exact ⟨wrap_i64 (by omega) (by omega), by rw [hes]; exact hgm⟩
    by_cases hin : (y : Int) ∈ p
    · have hng : ¬ goOn cls (consB N rs) p y := fun h => h.2.1 hin
      rw [if_neg hng, List.append_nil] at hes
      simp [go_sem, e0, e1, e2, e3, e4, e19, e20, e21, hyN, hyc, hpc, hc]
      refine CallStep.pure (containsI p y (by omega)) (.cons (.hf (hf_lI p)) (.cons (.hf (HF.sc _)) .nil)) ?_
      simp [go_sem, e0, e1, e2, e3, e4, e19, e20, e21, hyN, hyc, hpc, hc, hin]
      exact ⟨wrap_i64 (by omega) (by omega), by rw [hes]; exact hgm⟩
    simp [go_sem, e0, e1, e2, e3, e4, e19, e20, e21, hyN, hyc, hpc, hc]
    refine CallStep.pure (containsI p y (by omega)) (.cons (.hf (hf_lI p)) (.cons (.hf (HF.sc _)) .nil)) ?_
    simp [go_sem, e0, e1, e2, e3, e4, e19, e20, e21, hyN, hyc, hpc, hc, hin]
    have htake : List.take p.length (List.map rI p) = List.map rI p := List.take_of_length_le (by simp)
    rw [htake]
    refine ⟨⟨_, _, ⟨rfl, rfl⟩, (rows_rI p).ok⟩, ?_⟩
    refine AppendStep.litI (e := 3) (bt := 8) (z := 0) (l := p) (x := (y : Int)) (by simp [go_sem]) (by simp [go_sem]) (by simp [go_sem]) (by omega) (by omega) ?_
    have hq : (st.mu ++ [.arr ((p ++ [(y : Int)]).map aI)])[st.mu.length]? = some (.arr ((p ++ [(y : Int)]).map aI)) := by simp
    have hgp := hgm.push (.arr ((p ++ [(y : Int)]).map aI))
    have hgc := hgm.cut (.arr ((p ++ [(y : Int)]).map aI))
    have hqc := cutM_one (fun i => i == st.mu.length) st.mu (.arr ((p ++ [(y : Int)]).map aI)) _ rfl (by simp)
    have hqv : ∀ v, v ∈ p ++ [(y : Int)] → 0 ≤ v ∧ v < N := fun v hv => by
      rcases List.mem_append.1 hv with h | h
      · exact hpv v h
      · simp at h; subst h; omega
    have hql : (p ++ [(y : Int)]).length = p.length + 1 := by simp
    have hgo : goOn cls (consB N rs) p y ↔ consB N rs (p ++ [(y : Int)]) = true := by
      unfold goOn
      rw [gI_eq hyc, gI_eq hpc]
      simp [hc, hin]
    have hqrd := (OwnF.ofCells (lo := 0) (n := p.length + 1) (xs := p ++ [(y : Int)]) (Nat.zero_le _) hq hql).rdI
    have hqrc := (OwnF.ofCells (lo := 0) (n := p.length + 1) (xs := p ++ [(y : Int)]) (Nat.zero_le _) hqc hql).rdI
    have hcu := consistentU sc u cls rs hr hrl (p ++ [(y : Int)]) (by rw [hN]; exact hqv) (by omega)
    rw [hN] at hcu
    have hih := ih (p ++ [(y : Int)]) (cutM (fun i => !(i == st.mu.length)) (st.mu ++ [.arr ((p ++ [(y : Int)]).map aI)]) 0) (L ++ E) (by omega) hqv (by simp; omega) hgc
    generalize p ++ [(y : Int)] = q at *
    have hfz : Sound Tryz.prog 35 [.sl st.mu.length 1 0 (p.length + 1), .ip [lI cls], .ptr o 0, .ip [.ip (searchC sc cls rs N)], .ptr x 0] (st.mu ++ [.arr (q.map aI)]) _ :=
      Sound.freeze (args1 := [lI q, .ip [lI cls], .ptr o 0, .ip [.ip (searchC sc cls rs N)], .ptr x 0]) (fun i => i == st.mu.length) ⟨.inr hqrc, .inl rfl, .inl rfl, .inl rfl, .inl rfl, trivial⟩ hih
    generalize st.mu.length = M at *
    generalize st.mu ++ [.arr (q.map aI)] = mu1 at *
    simp [go_sem, e0, e1, e2, e3, e4, e19, e20, e21]
    refine CallStep.lend (args' := [.ip (searchC sc cls rs N), lI q]) hcu ⟨.hf _ (hf_search sc cls rs N), hqrd, trivial⟩ (FL.sc _) ?_
    by_cases hcb : consB N rs q = true
    case neg =>
      rw [if_neg (fun h => hcb (hgo.1 h)), List.append_nil] at hes
      simp only [Bool.not_eq_true] at hcb
      simp [go_sem, e0, e1, e2, e3, e4, e19, e20, e21, hcb]
      exact ⟨hyN, wrap_i64 (by omega) (by omega), by rw [hes]; exact hgp⟩
    rw [if_pos (hgo.2 hcb)] at hes
    obtain ⟨av, h1, h2, h3⟩ := hgp
    simp [go_sem, e0, e1, e2, e3, e4, e19, e20, e21, hcb, h2]
    rw [hfn]
    refine CallStep.eff (caps := [.ip [lI cls], .ptr o 0, .ip [.ip (searchC sc cls rs N)], .ptr x 0]) hfz ?_ (by rintro r m ⟨h, _⟩; cases h)
    rintro _ m ⟨hr', hg'⟩
    cases hr'
    simp [go_sem, e0, e1, e2, e3, e4, e19, e20, e21]
    rw [← hfn]
    exact ⟨hyN, wrap_i64 (by omega) (by omega), by rw [hes, ← List.append_assoc]; exact hg'⟩
end Go.Proofs.YtiophnmdopoeeaaGreat.C31

set_option linter.unusedVariables false
set_option linter.unusedSimpArgs false
set_option maxRecDepth 100000
namespace Go.Proofs.YtiophnmdopoeeaaGreat.C32
open Go Go.Ev Go.Proofs Go.Proofs.YtiophnmdopoeeaaGreat.C1 Go.Proofs.YtiophnmdopoeeaaGreat.C2 Go.Proofs.YtiophnmdopoeeaaGreat.C3 Go.Proofs.YtiophnmdopoeeaaGreat.C4 Go.Proofs.YtiophnmdopoeeaaGreat.C5 Go.Proofs.YtiophnmdopoeeaaGreat.C6 Go.Proofs.YtiophnmdopoeeaaGreat.C7 Go.Proofs.YtiophnmdopoeeaaGreat.C9 Go.Proofs.YtiophnmdopoeeaaGreat.C10 Go.Proofs.YtiophnmdopoeeaaGreat.C11 Go.Proofs.YtiophnmdopoeeaaGreat.C12 Go.Proofs.YtiophnmdopoeeaaGreat.C14 Go.Proofs.YtiophnmdopoeeaaGreat.C15 Go.Proofs.YtiophnmdopoeeaaGreat.C16 Go.Proofs.YtiophnmdopoeeaaGreat.C17 Go.Proofs.YtiophnmdopoeeaaGreat.C18 Go.Proofs.YtiophnmdopoeeaaGreat.C19 Go.Proofs.YtiophnmdopoeeaaGreat.C20 Go.Proofs.YtiophnmdopoeeaaGreat.C22 Go.Proofs.YtiophnmdopoeeaaGreat.C24 Go.Proofs.YtiophnmdopoeeaaGreat.C25 Go.Proofs.YtiophnmdopoeeaaGreat.C26 Go.Proofs.YtiophnmdopoeeaaGreat.C27 Go.Proofs.YtiophnmdopoeeaaGreat.C28 Go.Proofs.YtiophnmdopoeeaaGreat.C29 Go.Proofs.YtiophnmdopoeeaaGreat.C30 Go.Proofs.YtiophnmdopoeeaaGreat.C31

/-- an owned row of one-cell elements: nothing yet, or a block of its own -/
def OwnR (mu : Mu) (s : AV) (xs : List AV) : Prop := (s = .lst true [] ∧ xs = []) ∨ ∃ b, s = .sl b 1 0 xs.length ∧ mu[b]? = some (.arr xs)
def blkOf : AV → Option Nat
  | .sl b _ _ _ => some b
  | _ => none
theorem OwnR.same {mu mu' : Mu} {s : AV} {xs : List AV} (h : OwnR mu s xs) (hs : ∀ b, blkOf s = some b → mu'[b]? = mu[b]?) : OwnR mu' s xs := by
  rcases h with h | ⟨b, rfl, hc⟩
  · exact .inl h
  · exact .inr ⟨b, rfl, by rw [hs b rfl]; exact hc⟩
theorem OwnR.lt {mu : Mu} {s : AV} {xs : List AV} (h : OwnR mu s xs) {b : Nat} (hb : blkOf s = some b) : b < mu.length := by
  rcases h with ⟨rfl, _⟩ | ⟨b', rfl, hc⟩
  · cases hb
  · cases hb; exact (List.getElem?_eq_some_iff.1 hc).1
theorem flat_cells (l : List AV) : (l.map fun c => [c]).flatten = l := flat_one l
theorem AppendStep0.row1 {P : Program} {mu : Mu} {t t' e bt : Nat} {zv s : AV} {l : List AV} {x : AV} {K : AV → Mu → Prop} (hs : sliceOf P t = some (e, 1, bt)) (hs' : (sliceOf P t').isSome = true) (hz : zeroOf P e = some zv) (hz1 : zv.cells.length = 1) (hz2 : zv.cells.all AV.one = true)
    (hb : bt ≤ 16384) (ho : OwnR mu s l) (hx : x.one = true) (hl : l.length + 1 ≤ 4294967296)
    (k : ∀ mu', mu'[mu.length]? = some (.arr (l ++ [x])) → (∀ i, i < mu.length → blkOf s ≠ some i → mu'[i]? = mu[i]?) → K (.sl mu.length 1 0 (l ++ [x]).length) mu') : AppendStep0 P mu #[t, t'] s (.lst true [[x]]) K := by
  rcases ho with ⟨rfl, rfl⟩ | ⟨b, rfl, hc⟩
  · refine ⟨t, t', e, 1, bt, [[x]], rfl, hs, hs', ⟨_, hz, hz1, hz2⟩, by omega, hb, rfl, fun r hr => by simp at hr; subst hr; exact ⟨rfl, by simp [hx]⟩, .inl ⟨[], rfl, fun r hr => by simp at hr, by simp, fun h => by simp at h, fun _ => ?_⟩⟩
    exact k _ (by simp) (fun i hi _ => by rw [List.getElem?_append_left hi])
  · refine ⟨t, t', e, 1, bt, [[x]], rfl, hs, hs', ⟨_, hz, hz1, hz2⟩, by omega, hb, rfl, fun r hr => by simp at hr; subst hr; exact ⟨rfl, by simp [hx]⟩, .inr ⟨b, l.length, _, rfl, hc, by simp, by simpa using hl, ?_⟩⟩
    have e1 : l.take (l.length * 1) ++ [[x]].flatten = l ++ [x] := by
      rw [List.take_of_length_le (by simp)]; rfl
    have e2 : l.length + [[x]].length = (l ++ [x]).length := by simp
    rw [e1, e2]
    refine k _ ?_ (fun i hi hne => ?_)
    · rw [List.getElem?_append_right (by simp)]; simp
    · rw [List.getElem?_append_left (by simpa using hi), List.getElem?_set_ne (fun h => hne (by rw [h]; rfl))]

/-- the memory of Group while the tables are made -/
structure GT (B C : Nat) (sc : Sc) (cls : List Int) (rs : List Rl) (mu : Mu) (avT avH : AV) (xT xH : List AV) : Prop where
  ne : B = 1 ∧ C = 2 ∨ B = 2 ∧ C = 1
  m0 : mu[0]? = some (.arr [lI cls])
  m1 : mu[B]? = some (.arr [lI sc.atoms, aI sc.steps, lI cls, lRel rs, avT, avH])
  m2 : mu[C]? = some (.arr [.ptr B 0])
  oT : OwnR mu avT xT
  oH : OwnR mu avH xH
  bT : ∀ b, blkOf avT = some b → 3 ≤ b
  bH : ∀ b, blkOf avH = some b → 3 ≤ b
  dj : ∀ b, blkOf avT = some b → blkOf avH ≠ some b

theorem OwnF.rdLL {lo : Nat} {mu : Mu} {av : AV} {xs : List (List Int)} (h : OwnF lo mu 1 av (xs.map rL)) : Rd mu av (lL xs) :=
  h.1.rd (rows_rL xs).ok fun r hr c hc => by
    obtain ⟨n, _, rfl⟩ := List.mem_map.1 hr
    simp at hc; subst hc; exact hf_lI _
theorem GT.same {B C : Nat} {sc : Sc} {cls : List Int} {rs : List Rl} {mu mu' : Mu} {avT avH : AV} {xT xH : List AV} (g : GT B C sc cls rs mu avT avH xT xH) {R : Nat} (hR : 3 ≤ R) (hT : ∀ b, blkOf avT = some b → b < R) (hH : ∀ b, blkOf avH = some b → b < R)
    (hs : ∀ i, i < R → mu'[i]? = mu[i]?) : GT B C sc cls rs mu' avT avH xT xH := by
  have hne := g.ne
  exact ⟨g.ne, by rw [hs 0 (by omega)]; exact g.m0, by rw [hs B (by omega)]; exact g.m1, by rw [hs C (by omega)]; exact g.m2, g.oT.same fun b hb => hs b (hT b hb), g.oH.same fun b hb => hs b (hH b hb), g.bT, g.bH, g.dj⟩
theorem findA_new (x : Int) (l : List Int) (h : ¬ x ∈ l) : findA Tryz.prog 3 (aI x) (l.map eKT) 0 = some none := by
  obtain ⟨r, h1, h2, _⟩ := findA_int x l 0
  rw [h1, h2.2 h]

theorem Rd.row1 {mu : Mu} {x y : AV} (h : Rd mu x y) : Rd mu (.lst true [[x]]) (.lst true [[y]]) := by
  refine .lst true _ _ rfl (fun k a b ha hb => ?_) (fun k a b ha hb => ?_)
  · cases k with
    | zero => simp at ha hb; subst ha; subst hb; rfl
    | succ k => simp at ha
  · cases k with
    | zero => simp at ha hb; subst ha; subst hb; exact h
    | succ k => simp at ha
theorem AppendStep.giveRow {P : Program} {mu : Mu} {t t' e bt : Nat} {zv s : AV} {l : List AV} {x y : AV} {K : AV → Mu → Prop} (give : Nat → Bool) (hs : sliceOf P t = some (e, 1, bt)) (hs' : (sliceOf P t').isSome = true) (hz : zeroOf P e = some zv) (hz1 : zv.cells.length = 1) (hz2 : zv.cells.all AV.one = true)
    (hb : bt ≤ 16384) (ho : OwnR mu s l) (hg : ∀ b, blkOf s = some b → give b = false) (hrd : Rd (cutM give mu 0) x y) (hx : y.one = true) (hl : l.length + 1 ≤ 4294967296)
    (k : ∀ mu', mu'[mu.length]? = some (.arr (l ++ [y])) → (∀ i, i < mu.length → give i = false → blkOf s ≠ some i → mu'[i]? = mu[i]?) → K (.sl mu.length 1 0 (l ++ [y]).length) mu') : AppendStep P mu #[t, t'] s (.lst true [[x]]) K := by
  refine .inr ⟨give, .lst true [[y]], Rd.row1 hrd, ?_⟩
  have cg : ∀ i, give i = false → (cutM (fun i => !give i) mu 0)[i]? = mu[i]? := fun i h => by
    rw [cutM_get]
    simp only [Nat.zero_add, h, Bool.not_false, if_true]
    cases mu[i]? <;> rfl
  have := AppendStep0.row1 (K := K) hs hs' hz hz1 hz2 hb (ho.same fun b h => cg b (hg b h)) hx hl (fun mu' h1 h2 => by
    rw [cutM_len] at h1 h2 ⊢
    exact k mu' h1 fun i hi hg hne => by rw [h2 i hi hne, cg i hg])
  exact this
theorem OwnR.one {mu : Mu} {s : AV} {xs : List AV} (h : OwnR mu s xs) : s.one = true := by
  rcases h with ⟨rfl, _⟩ | ⟨b, rfl, _⟩ <;> rfl
theorem GT.stepT {B C : Nat} {sc : Sc} {cls : List Int} {rs : List Rl} {mu mu' : Mu} {avT avH : AV} {xT xH : List AV} (g : GT B C sc cls rs mu avT avH xT xH) {R n : Nat} {y : AV} (hR : 3 ≤ R) (hl : R ≤ mu.length) (hH : ∀ b, blkOf avH = some b → b < R)
    (h1 : mu'[mu.length]? = some (.arr (xT ++ [y]))) (h2 : ∀ i, i < R → blkOf avT ≠ some i → mu'[i]? = mu[i]?) (hn : n = (xT ++ [y]).length) : GT B C sc cls rs (mu'.set B (.arr [lI sc.atoms, aI sc.steps, lI cls, lRel rs, .sl mu.length 1 0 n, avH])) (.sl mu.length 1 0 n) avH (xT ++ [y]) xH := by
  subst hn
  have hne := g.ne
  have l0 : mu.length < mu'.length := (List.getElem?_eq_some_iff.1 h1).1
  have low : ∀ i, i < 3 → mu'[i]? = mu[i]? := fun i hi => h2 i (by omega) (fun h => by have := g.bT i h; omega)
  refine ⟨g.ne, ?_, ?_, ?_, ?_, ?_, ?_, g.bH, ?_⟩
  · rw [List.getElem?_set_ne (by omega), low 0 (by omega)]; exact g.m0
  · rw [List.getElem?_set_self (by omega)]
  · rw [List.getElem?_set_ne (by omega), low C (by omega)]; exact g.m2
  · exact .inr ⟨mu.length, rfl, by rw [List.getElem?_set_ne (by omega)]; exact h1⟩
  · refine g.oH.same fun b hb => ?_
    have := g.bH b hb
    rw [List.getElem?_set_ne (by omega), h2 b (hH b hb) (fun h => g.dj b h hb)]
  · intro b hb; cases hb; omega
  · intro b hb h; cases hb; have := hH _ h; omega
theorem GT.stepH {B C : Nat} {sc : Sc} {cls : List Int} {rs : List Rl} {mu mu' : Mu} {avT avH : AV} {xT xH : List AV} (g : GT B C sc cls rs mu avT avH xT xH) {n : Nat} {y : AV} (hl : 3 ≤ mu.length)
    (h1 : mu'[mu.length]? = some (.arr (xH ++ [y]))) (h2 : ∀ i, i < mu.length → (i < 3 ∨ blkOf avT = some i) → blkOf avH ≠ some i → mu'[i]? = mu[i]?) (hn : n = (xH ++ [y]).length) : GT B C sc cls rs (mu'.set B (.arr [lI sc.atoms, aI sc.steps, lI cls, lRel rs, avT, .sl mu.length 1 0 n])) avT (.sl mu.length 1 0 n) xT (xH ++ [y]) := by
  subst hn
  have hne := g.ne
  have l0 : mu.length < mu'.length := (List.getElem?_eq_some_iff.1 h1).1
  have low : ∀ i, i < 3 → mu'[i]? = mu[i]? := fun i hi => h2 i (by omega) (.inl hi) (fun h => by have := g.bH i h; omega)
  refine ⟨g.ne, ?_, ?_, ?_, ?_, ?_, g.bT, ?_, ?_⟩
  · rw [List.getElem?_set_ne (by omega), low 0 (by omega)]; exact g.m0
  · rw [List.getElem?_set_self (by omega)]
  · rw [List.getElem?_set_ne (by omega), low C (by omega)]; exact g.m2
  · refine g.oT.same fun b hb => ?_
    have := g.bT b hb
    rw [List.getElem?_set_ne (by omega), h2 b (g.oT.lt hb) (.inr hb) (g.dj b hb)]
  · exact .inr ⟨mu.length, rfl, by rw [List.getElem?_set_ne (by omega)]; exact h1⟩
  · intro b hb; cases hb; omega
  · intro b hb h; cases h; have := g.oT.lt hb; omega

theorem OwnR.rd {mu : Mu} {s : AV} {xs : List AV} (h : OwnR mu s xs) (hf : ∀ x, x ∈ xs → HF x) : Rd mu s (.lst false (xs.map fun c => [c])) := by
  rcases h with ⟨rfl, rfl⟩ | ⟨b, rfl, hc⟩
  · exact .wk _ true _ (.hf _ (HF.lst fun r hr => by simp at hr))
  · refine .sl b 1 0 _ xs _ hc (by simp) (by simp) (fun x hx => by
      obtain ⟨l, _, rfl⟩ := List.mem_map.1 hx; rfl) (fun k x y hx hy => ?_)
    rw [Nat.zero_add] at hx
    rw [flat_cells, hx] at hy
    cases hy
    exact .hf _ (hf x (List.mem_of_getElem? hx))
theorem Rd.ptr1 {mu : Mu} {b : Nat} {x y : AV} (hc : mu[b]? = some (.arr [x])) (h : Rd mu x y) : Rd mu (.ptr b 0) (.ip [y]) := by
  refine .ptr b 0 [x] [y] hc (by simp) (fun k u v hu hv => ?_)
  cases k with
  | zero => simp at hu hv; subst hu; subst hv; exact h
  | succ k => simp at hu
/-- the memory that the search is called with -/
theorem GT.search {B C : Nat} {sc : Sc} {cls : List Int} {rs : List Rl} {mu : Mu} {avT avH : AV} {N : Nat} (g : GT B C sc cls rs mu avT avH ((rs.map (tupsOf N)).map lL) ((rs.map Rl.ts).map eHas)) (keep : Nat → Bool) (hk : ∀ i, i < mu.length → keep i = true) (rest : Mu) :
    Rd (cutM keep (mu ++ rest) 0) (.ptr 0 0) (.ip [lI cls]) ∧ Rd (cutM keep (mu ++ rest) 0) (.ptr C 0) (.ip [.ip (searchC sc cls rs N)]) := by
  have key : ∀ i c, mu[i]? = some c → (cutM keep (mu ++ rest) 0)[i]? = some c := fun i c h => by
    have hi := (List.getElem?_eq_some_iff.1 h).1
    rw [cutM_get, List.getElem?_append_left hi, h]
    simp [hk i hi]
  refine ⟨Rd.ptr1 (key 0 _ g.m0) (.hf _ (hf_lI _)), Rd.ptr1 (key C _ g.m2) ?_⟩
  refine .ptr B 0 _ _ (key B _ g.m1) (by simp) (fun k u v hu hv => ?_)
  have hT := (g.oT.same (mu' := cutM keep (mu ++ rest) 0) fun b hb => by
    have := g.oT.lt hb
    rw [key b _ (List.getElem?_eq_getElem this), List.getElem?_eq_getElem this]).rd (fun x hx => by
      obtain ⟨l, _, rfl⟩ := List.mem_map.1 hx; exact hf_lL _)
  have hH := (g.oH.same (mu' := cutM keep (mu ++ rest) 0) fun b hb => by
    have := g.oH.lt hb
    rw [key b _ (List.getElem?_eq_getElem this), List.getElem?_eq_getElem this]).rd (fun x hx => by
      obtain ⟨l, _, rfl⟩ := List.mem_map.1 hx; exact hf_eHas _)
  rw [List.map_map] at hT hH
  match k with
  | 0 => simp at hu hv; subst hu; subst hv; exact .hf _ (hf_lI _)
  | 1 => simp at hu hv; subst hu; subst hv; exact .hf _ (HF.sc _)
  | 2 => simp at hu hv; subst hu; subst hv; exact .hf _ (hf_lI _)
  | 3 => simp at hu hv; subst hu; subst hv; exact .hf _ (hf_lRel _)
  | 4 => simp only [searchC, List.getElem?_cons_succ, List.getElem?_cons_zero, Nat.zero_add, Option.some.injEq] at hu hv; subst hu; subst hv; exact hT
  | 5 => simp only [searchC, List.getElem?_cons_succ, List.getElem?_cons_zero, Nat.zero_add, Option.some.injEq] at hu hv; subst hu; subst hv; exact hH
  | k + 6 => simp at hu

theorem groupU (sp : Sp) (sc : Sc) (u : GU sc) (N : Nat) (hN : sumI sc.atoms = N) (hN6 : N ≤ 6) (hsp : sc.atoms.length = sp.sorts.length) (bs : List Bd) (gb : GBs (sumI sc.atoms) bs) :
    SoundP Tryz.prog 11 [eSp sp, eSc sc, lBd bs] (lL (extG N (stableS sp sc bs).1 (consB N (relsOf bs)) N [])) := by
  refine SoundP.of_sound (Sound.of_awp Tryz.call11 Tryz.func11 rfl (Nat.le_of_ble_eq_true (by kernel_rfl)) (by kernel_rfl) (pl := { mt := [30] }) ?_)
  have ok := stableS_ok sp sc bs N (by omega)
  have hst := stableU sp sc u hsp bs gb
  generalize (stableS sp sc bs) = c at *
  obtain ⟨cls, m0⟩ := c
  simp only at ok hst
  obtain ⟨hcl, -, -, -, -⟩ := ok
  obtain ⟨hrl, hrel⟩ := gb.rels
  simp [go_sem]
  refine CallStep.pure hst (.cons (.hf (hf_eSp sp)) (.cons (.hf (hf_eSc sc)) (.cons (.hf (hf_lBd bs)) .nil))) ?_
  simp [go_sem]
  generalize hrs : relsOf bs = rs at *
  refine DrawGo.moveJ 5 1 (fun st => st.tm 4 = .ip [lI sc.atoms, aI sc.steps] ∧ st.tm 7 = .ptr 0 0 ∧ ∃ B C, st.tm 9 = .ptr C 0 ∧ GT B C sc cls rs st.mu (.lst true []) (.lst true []) [] [] ∧ st.mu.length = 3) (by kernel_rfl) (by kernel_rfl) ?_ ?_ ?_
  · simp [go_sem]
    refine CallStep.pure (relationsL bs (by have := gb.len; omega)) (.cons (.hf (hf_lBd bs)) .nil) ?_
    rw [hrs]
    simp [go_sem]
    exact ⟨1, .inl ⟨rfl, rfl⟩, rfl, rfl, rfl, .inl ⟨rfl, rfl⟩, .inl ⟨rfl, rfl⟩, fun b h => by simp [blkOf] at h, fun b h => by simp [blkOf] at h, fun b h => by simp [blkOf] at h⟩
  · simp [go_sem]
    refine CallStep.pure (relationsL bs (by have := gb.len; omega)) (.cons (.hf (hf_lBd bs)) .nil) ?_
    rw [hrs]
    simp [go_sem]
    exact ⟨2, .inr ⟨rfl, rfl⟩, rfl, rfl, rfl, .inl ⟨rfl, rfl⟩, .inl ⟨rfl, rfl⟩, fun b h => by simp [blkOf] at h, fun b h => by simp [blkOf] at h, fun b h => by simp [blkOf] at h⟩
  · intro st hJ
    obtain ⟨e4, e7, B, C, e9, g, hl⟩ := hJ
    have m1 := g.m1
    have m2 := g.m2
    simp [go_sem, e4, e7, e9, m1, m2]
    refine LoopGo.up rs.length (fun k st => st.tm 4 = .ip [lI sc.atoms, aI sc.steps] ∧ st.tm 7 = .ptr 0 0 ∧ st.tm 9 = .ptr C 0 ∧ st.tm 34 = lRel rs ∧ st.tm 35 = aI rs.length ∧ st.tm 36 = aI k ∧ 3 ≤ st.mu.length ∧
      ∃ avT avH, GT B C sc cls rs st.mu avT avH (((rs.take k).map (tupsOf N)).map lL) (((rs.take k).map Rl.ts).map eHas)) ?_ ?_
    · simp [go_sem, e4, e7, e9, hl]
      exact ⟨_, _, g⟩
    clear g hl e4 e7 e9 m1 m2
    clear st
    rintro k st hk ⟨e4, e7, e9, e34, e35, e36, hl3, avT, avH, g⟩
    have m1 := g.m1
    have m2 := g.m2
    by_cases hlt : k < rs.length
    case neg =>
      have hge : k = rs.length := by omega
      subst hge
      simp [go_sem, e4, e7, e9, e34, e35, e36]
      rw [List.take_of_length_le (Nat.le_refl _)] at g
      generalize ho : st.mu.length = o at *
      obtain ⟨r1, r2⟩ := g.search (fun i => decide (i < o)) (fun i hi => by simp; omega) [.arr [.lst true []], .arr [.fn (.func 35) [] [.ptr 0 0, .ptr o 0, .ptr C 0, .ptr (o + 1) 0]]]
      have hgr := groupRec sc u N hN hN6 cls hcl rs hrel (by omega) o (o + 1) (by omega) _ rfl N [] (List.replicate o .dead ++ [.arr [.lst true []], .arr [.fn (.func 35) [] [.ip [lI cls], .ptr o 0, .ip [.ip (searchC sc cls rs N)], .ptr (o + 1) 0]]]) [] (by simp) (fun v hv => by simp at hv)
        (by have : N ^ N ≤ 6 ^ 6 := Nat.le_trans (Nat.pow_le_pow_left hN6 N) (Nat.pow_le_pow_right (by omega) hN6)
            simp at this ⊢; omega) ⟨.lst true [], by simp, by rw [List.getElem?_append_right (by simp)]; simp, OwnF.nil (by simp)⟩
      have gargs : Gvs (st.mu ++ [.arr [.lst true []], .arr [.fn (.func 35) [] [.ptr 0 0, .ptr o 0, .ptr C 0, .ptr (o + 1) 0]]]) (fun i => decide (i < o)) [.lst true [], .ptr 0 0, .ptr o 0, .ptr C 0, .ptr (o + 1) 0] [lI [], .ip [lI cls], .ptr o 0, .ip [.ip (searchC sc cls rs N)], .ptr (o + 1) 0] :=
        ⟨.rd _ _ (.wk _ true _ (.hf _ (HF.lst (full := true) (xs := []) fun r hr => by simp at hr))), .rd _ _ r1, .same _, .rd _ _ r2, .same _, trivial⟩
      have hfz := Sound.freezeM (fun i => decide (i < o)) gargs ?_ hgr
      · refine CallStep.eff (caps := [.ptr 0 0, .ptr o 0, .ptr C 0, .ptr (o + 1) 0]) hfz ?_ (by rintro r m ⟨h, _⟩; cases h)
        rintro _ m ⟨hr', hg'⟩
        cases hr'
        obtain ⟨av, h1, h2, h3⟩ := hg'
        simp [go_sem, ho, h1]
        rw [List.nil_append] at h3
        exact OwnF.rdLL h3
      · refine ⟨by simp [ho], fun i c' hi hc => ?_⟩
        by_cases hio : i < o
        · rw [List.getElem?_append_left (by simpa using hio)] at hi
          have := List.eq_of_mem_replicate (List.mem_of_getElem? hi)
          exact absurd this hc
        · refine ⟨by simpa using hio, ?_⟩
          rw [List.getElem?_append_right (by simp; omega)] at hi
          rw [List.getElem?_append_right (by omega), ho]
          simp only [List.length_replicate] at hi
          match hq : i - o with
          | 0 => rw [hq] at hi; simp at hi; subst hi; exact ⟨_, rfl, by simp, .inl rfl⟩
          | 1 =>
            rw [hq] at hi
            simp at hi; subst hi
            refine ⟨_, rfl, by simp, .inr ⟨_, _, rfl, rfl, ⟨?_, trivial⟩, by simp [AV.one]⟩⟩
            refine .fn _ [] [] _ _ rfl rfl (fun k x y hx => by simp at hx) (fun k x y hx hy => ?_)
            exact (Gvs.get gargs.2).2 k x y hx hy
          | q + 2 => rw [hq] at hi; simp at hi
    have gr := hrel _ (List.getElem_mem hlt)
    have htk : rs.take (k + 1) = rs.take k ++ [rs[k]] := by rw [List.take_add_one, List.getElem?_eq_getElem hlt]; rfl
    simp [go_sem, e4, e7, e9, e34, e35, e36, hlt]
    generalize hrr : rs[k] = r at *
    have hT : ∀ b, blkOf avT = some b → b < st.mu.length := fun b hb => g.oT.lt hb
    have hH : ∀ b, blkOf avH = some b → b < st.mu.length := fun b hb => g.oH.lt hb
    have g2 := GT.same (mu' := st.mu ++ [.arr [aI r.ar, lI r.ts], .mp []]) g hl3 hT hH (fun i hi => by rw [List.getElem?_append_left hi])
    have g2' := g2
    simp only [List.map_take, List.map_map] at g2'
    generalize hR : st.mu.length = R at *
    have hl3' := hl3
    have hsmall := gr.small (by have := u.n0; omega) (by have := u.n12; omega)
    have har1 := gr.ar1
    have har3 := gr.ar3
    have hlen := gr.len
    obtain ⟨ar, har⟩ := Int.eq_ofNat_of_zero_le (show 0 ≤ r.ar by omega)
    refine LoopGo.up r.ts.length (fun j st => st.tm 4 = .ip [lI sc.atoms, aI sc.steps] ∧ st.tm 7 = .ptr 0 0 ∧ st.tm 9 = .ptr C 0 ∧ st.tm 34 = lRel rs ∧ st.tm 35 = aI rs.length ∧ st.tm 36 = aI k ∧ st.tm 11 = .ptr R 0 ∧ st.tm 13 = .mp (R + 1) ∧
      st.tm 42 = lI r.ts ∧ st.tm 43 = aI r.ts.length ∧ st.tm 44 = aI j ∧ st.mu[R]? = some (.arr [aI r.ar, lI r.ts]) ∧ st.mu[R + 1]? = some (.mp ((r.ts.take j).map eKT)) ∧ GT B C sc cls rs st.mu avT avH (((rs.take k).map (tupsOf N)).map lL) (((rs.take k).map Rl.ts).map eHas) ∧
      ∃ av, st.tm 12 = av ∧ OwnF (R + 2) st.mu 1 av (((tupsOf N r).take j).map rL)) ?_ ?_
    · simp [go_sem, e4, e7, e9, e34, e35, e36, hR]
      exact ⟨g2', OwnF.nil (by simp; omega)⟩
    clear g2' g2 g e4 e7 e9 e34 e35 e36 m1 m2 hR hl3
    clear st
    rintro j st hj ⟨e4, e7, e9, e34, e35, e36, e11, e13, e42, e43, e44, mR, mM, g, av, e12, hown⟩
    by_cases hjl : j < r.ts.length
    case pos =>
      have htake : r.ts.take (j + 1) = r.ts.take j ++ [r.ts[j]] := by rw [List.take_add_one, List.getElem?_eq_getElem hjl]; rfl
      have hjt : j < (tupsOf N r).length := by simpa [tupsOf] using hjl
      have htakeT : (tupsOf N r).take (j + 1) = (tupsOf N r).take j ++ [digN N r.ts[j] ar] := by
        rw [List.take_add_one, List.getElem?_eq_getElem hjt]; simp [tupsOf, har]
      have hv := gr.val _ (List.getElem_mem hjl)
      have hsm := hsmall _ (List.getElem_mem hjl)
      have hnew : ¬ r.ts[j] ∈ r.ts.take j := by
        intro hm
        obtain ⟨i, hi, he⟩ := List.mem_iff_getElem.1 hm
        have hij : i < j := by simp at hi; omega
        rw [List.getElem_take] at he
        have := List.pairwise_iff_getElem.1 gr.srt i j (by omega) hjl hij
        omega
      simp [go_sem, e4, e7, e9, e34, e35, e36, e11, e13, e42, e43, e44, mR, mM, hjl]
      have htu := tupleU sc u.g (by omega) ar (by omega) r.ts[j] hsm.1 (by rw [har] at hv; simpa using hv.2)
      rw [hN] at htu
      generalize htt : r.ts[j] = t at *
      rw [har]
      refine CallStep.pure htu (.cons (.hf (hf_eSc sc)) (.cons (.hf (HF.sc _)) (.cons (.hf (HF.sc _)) .nil))) ?_
      simp [go_sem, e4, e7, e9, e34, e35, e36, e11, e12, e13, e42, e43, e44, mR, mM, hjl]
      refine AppendStep.ownF (lo := R + 2) (e := 28) (sz := 1) (bt := 24) (zv := .lst true []) (xs := ((tupsOf N r).take j).map rL) (ys := [rL (digN N t ar)]) (by simp [go_sem]) (by simp [go_sem]) (by simp [go_sem]) rfl rfl (by omega) (by omega) hown (by simp [rowsOf]) (rows_rL _) (rows_rL [_]) (by simp; omega) ?_
      intro av' mu' ho' hs
      have mR' : mu'[R]? = some (.arr [aI r.ar, lI r.ts]) := by rw [hs R (by omega)]; exact mR
      have mM' : mu'[R + 1]? = some (.mp ((r.ts.take j).map eKT)) := by rw [hs (R + 1) (by omega)]; exact mM
      have g' := GT.same (mu' := mu') g hl3' hT hH (fun i hi => hs i (by omega))
      have hone := ho'.one
      have hcel := ho'.cells
      have hfn := findA_new t (r.ts.take j) hnew
      simp only [List.map_take] at hfn
      simp [go_sem, e4, e7, e9, e34, e35, e36, e11, e13, e42, e43, e44, mR', mM', hjl, hfn]
      have hRl : R + 1 < mu'.length := (List.getElem?_eq_some_iff.1 mM').1
      refine ⟨wrap_i64 (by omega) (by omega), har, ?_, ?_, ?_⟩
      · rw [List.getElem?_set_self hRl]; simp only [← List.map_take, htake, List.map_append]; rfl
      · have := GT.same (mu' := mu'.set (R + 1) (.mp (List.take j (List.map eKT r.ts) ++ [(AV.sc (Value.int IntKind.i64 t), AV.sc (Value.bool true))]))) g' hl3' hT hH (fun i hi => by rw [List.getElem?_set_ne (by omega)])
        simpa only [List.map_take, List.map_map] using this
      · have := OwnF.set (c := .mp (List.take j (List.map eKT r.ts) ++ [(AV.sc (Value.int IntKind.i64 t), AV.sc (Value.bool true))])) (i := R + 1) ho' (by omega)
        simp only [← List.map_take, htakeT, List.map_append] at this ⊢
        exact this
    have hge : j = r.ts.length := by omega
    subst hge
    have m1 := g.m1
    have m2 := g.m2
    have hown2 : OwnF (R + 2) st.mu 1 av ((tupsOf N r).map rL) := by rw [List.take_of_length_le (by simp [tupsOf])] at hown; exact hown
    have mM2 : st.mu[R + 1]? = some (.mp (r.ts.map eKT)) := by rw [List.take_of_length_le (Nat.le_refl _)] at mM; exact mM
    have hne := g.ne
    have hB3 : B < 3 := by omega
    have hC3 : C < 3 := by omega
    have hRl : R + 1 < st.mu.length := (List.getElem?_eq_some_iff.1 mM2).1
    clear mM hown
    simp [go_sem, e4, e7, e9, e34, e35, e36, e11, e13, e42, e43, e44, mR, mM2, m1, m2]
    -- the tuples are given away
    have hrd : Rd (cutM (fun i => decide (R + 2 ≤ i)) st.mu 0) av (lL (tupsOf N r)) := by
      have hcut : OwnF (R + 2) (cutM (fun i => decide (R + 2 ≤ i)) st.mu 0) 1 av ((tupsOf N r).map rL) := by
        obtain ⟨ho, hb, hm⟩ := hown2
        refine ⟨?_, hb, by rw [cutM_len]; exact hm⟩
        rcases ho with h | ⟨b, rfl, hc⟩
        · exact .inl h
        · refine .inr ⟨b, rfl, ?_⟩
          have := hb b _ _ _ rfl
          rw [cutM_get, hc]; simp [this]
      exact OwnF.rdLL hcut
    have hone := hown2.one
    have hcel := hown2.cells
    have hTlen : (((rs.take k).map (tupsOf N)).map lL).length + 1 ≤ 4294967296 := by simp; omega
    have hHlen : (((rs.take k).map Rl.ts).map eHas).length + 1 ≤ 4294967296 := by simp; omega
    have eT : ((rs.take (k + 1)).map (tupsOf N)).map lL = ((rs.take k).map (tupsOf N)).map lL ++ [lL (tupsOf N r)] := by rw [htk]; simp
    have eH : ((rs.take (k + 1)).map Rl.ts).map eHas = ((rs.take k).map Rl.ts).map eHas ++ [eHas r.ts] := by rw [htk]; simp
    generalize ((rs.take k).map (tupsOf N)).map lL = xT at *
    generalize ((rs.take k).map Rl.ts).map eHas = xH at *
    generalize tupsOf N r = tu at *
    refine DrawGo.moveJ 0 7 (fun st => st.tm 4 = .ip [lI sc.atoms, aI sc.steps] ∧ st.tm 7 = .ptr 0 0 ∧ st.tm 9 = .ptr C 0 ∧ st.tm 34 = lRel rs ∧ st.tm 35 = aI rs.length ∧ st.tm 36 = aI k ∧ st.tm 13 = .mp (R + 1) ∧ st.mu[R + 1]? = some (.mp (r.ts.map eKT)) ∧ R + 2 < st.mu.length ∧
      ∃ avT, GT B C sc cls rs st.mu avT avH (xT ++ [lL tu]) xH ∧ (∀ b, blkOf avT = some b → R + 2 ≤ b)) (by kernel_rfl) (by kernel_rfl) ?_ ?_ ?_
    · simp [go_sem, e4, e7, e9, e34, e35, e36, e11, e12, e13, e42, e43, e44, mR, mM2, m1, m2, hone, hcel, g.oT.one]
      refine AppendStep.giveRow (e := 35) (bt := 24) (zv := .lst true []) (fun i => decide (R + 2 ≤ i)) (by simp [go_sem]) (by simp [go_sem]) (by simp [go_sem]) rfl rfl (by omega) g.oT (fun b h => by have := hT b h; simp; omega) hrd rfl hTlen ?_
      intro mu' h1 h2
      have low : ∀ i, i < R + 2 → blkOf avT ≠ some i → mu'[i]? = st.mu[i]? := fun i hi hne => h2 i (by omega) (by simp; omega) hne
      have m1' : mu'[B]? = _ := (low B (by omega) (fun h => by have := g.bT B h; omega)).trans m1
      have m2' : mu'[C]? = _ := (low C (by omega) (fun h => by have := g.bT C h; omega)).trans m2
      have mM' : mu'[R + 1]? = _ := (low (R + 1) (by omega) (fun h => by have := hT _ h; omega)).trans mM2
      have gs := g.stepT hl3' (by omega) hH h1 (fun i hi hne => low i (by omega) hne) (by simp : xT.length + 1 = _)
      have hml : st.mu.length < mu'.length := (List.getElem?_eq_some_iff.1 h1).1
      simp [go_sem, e4, e7, e9, e34, e35, e36, e11, e12, e13, e42, e43, e44, mR, mM2, m1', m2', g.oT.one, g.oH.one]
      refine ⟨by rw [List.getElem?_set_ne (by omega)]; exact mM', by omega, _, gs, fun b hb => by cases hb; omega⟩
    · simp [go_sem, e4, e7, e9, e34, e35, e36, e11, e12, e13, e42, e43, e44, mR, mM2, m1, m2, hone, hcel, g.oT.one]
      refine AppendStep.giveRow (e := 35) (bt := 24) (zv := .lst true []) (fun i => decide (R + 2 ≤ i)) (by simp [go_sem]) (by simp [go_sem]) (by simp [go_sem]) rfl rfl (by omega) g.oT (fun b h => by have := hT b h; simp; omega) hrd rfl hTlen ?_
      intro mu' h1 h2
      have low : ∀ i, i < R + 2 → blkOf avT ≠ some i → mu'[i]? = st.mu[i]? := fun i hi hne => h2 i (by omega) (by simp; omega) hne
      have m1' : mu'[B]? = _ := (low B (by omega) (fun h => by have := g.bT B h; omega)).trans m1
      have m2' : mu'[C]? = _ := (low C (by omega) (fun h => by have := g.bT C h; omega)).trans m2
      have mM' : mu'[R + 1]? = _ := (low (R + 1) (by omega) (fun h => by have := hT _ h; omega)).trans mM2
      have gs := g.stepT hl3' (by omega) hH h1 (fun i hi hne => low i (by omega) hne) (by simp : xT.length + 1 = _)
      have hml : st.mu.length < mu'.length := (List.getElem?_eq_some_iff.1 h1).1
      simp [go_sem, e4, e7, e9, e34, e35, e36, e11, e12, e13, e42, e43, e44, mR, mM2, m1', m2', g.oT.one, g.oH.one]
      refine ⟨by rw [List.getElem?_set_ne (by omega)]; exact mM', by omega, _, gs, fun b hb => by cases hb; omega⟩
    clear e4 e7 e9 e34 e35 e36 e11 e12 e13 e42 e43 e44 mR mM2 m1 m2 hrd hone hcel hown2 hRl hT g
    clear st
    rintro st ⟨e4, e7, e9, e34, e35, e36, e13, mM, hRl, avT, g, hT⟩
    have m1 := g.m1
    have m2 := g.m2
    have hrd : Rd (cutM (fun i => decide (i = R + 1)) st.mu 0) (.mp (R + 1)) (eHas r.ts) := by
      refine .mp (R + 1) (r.ts.map eKT) (r.ts.map eKT) (by rw [cutM_get, mM]; simp) rfl (fun q x y hx hy => ?_) (fun q x y hx hy => ?_)
      · rw [hx] at hy; cases hy
        obtain ⟨z, _, rfl⟩ := List.mem_map.1 (List.mem_of_getElem? hx)
        exact .hf _ (HF.sc _)
      · rw [hx] at hy; cases hy
        obtain ⟨z, _, rfl⟩ := List.mem_map.1 (List.mem_of_getElem? hx)
        exact .hf _ (HF.sc _)
    simp [go_sem, e4, e7, e9, e34, e35, e36, e13, m1, m2]
    refine DrawGo.moveJ 0 7 (fun st => st.tm 4 = .ip [lI sc.atoms, aI sc.steps] ∧ st.tm 7 = .ptr 0 0 ∧ st.tm 9 = .ptr C 0 ∧ st.tm 34 = lRel rs ∧ st.tm 35 = aI rs.length ∧ st.tm 36 = aI k ∧ 3 ≤ st.mu.length ∧
      ∃ avT avH, GT B C sc cls rs st.mu avT avH (xT ++ [lL tu]) (xH ++ [eHas r.ts])) (by kernel_rfl) (by kernel_rfl) ?_ ?_ ?_
    · simp [go_sem, e4, e7, e9, e34, e35, e36, e13, m1, m2, g.oT.one, g.oH.one]
      refine AppendStep.giveRow (e := 71) (bt := 8) (zv := .sc (.map none)) (fun i => decide (i = R + 1)) (by simp [go_sem]) (by simp [go_sem]) (by simp [go_sem]) rfl rfl (by omega) g.oH (fun b h => by have := hH b h; simp; omega) hrd rfl hHlen ?_
      intro mu' h1 h2
      have low : ∀ i, i < st.mu.length → (i < 3 ∨ blkOf avT = some i) → blkOf avH ≠ some i → mu'[i]? = st.mu[i]? := fun i hi hc hne => h2 i hi (by simp; rcases hc with h | h; omega; have := hT i h; omega) hne
      have m1' : mu'[B]? = _ := (low B (by omega) (.inl hB3) (fun h => by have := g.bH B h; omega)).trans m1
      have m2' : mu'[C]? = _ := (low C (by omega) (.inl hC3) (fun h => by have := g.bH C h; omega)).trans m2
      have gs := g.stepH (by omega) h1 low (by simp : xH.length + 1 = _)
      have hml : st.mu.length < mu'.length := (List.getElem?_eq_some_iff.1 h1).1
      simp [go_sem, e4, e7, e9, e34, e35, e36, e13, m1', m2', g.oT.one, g.oH.one]
      refine ⟨by omega, _, _, gs⟩
    · simp [go_sem, e4, e7, e9, e34, e35, e36, e13, m1, m2, g.oT.one, g.oH.one]
      refine AppendStep.giveRow (e := 71) (bt := 8) (zv := .sc (.map none)) (fun i => decide (i = R + 1)) (by simp [go_sem]) (by simp [go_sem]) (by simp [go_sem]) rfl rfl (by omega) g.oH (fun b h => by have := hH b h; simp; omega) hrd rfl hHlen ?_
      intro mu' h1 h2
      have low : ∀ i, i < st.mu.length → (i < 3 ∨ blkOf avT = some i) → blkOf avH ≠ some i → mu'[i]? = st.mu[i]? := fun i hi hc hne => h2 i hi (by simp; rcases hc with h | h; omega; have := hT i h; omega) hne
      have m1' : mu'[B]? = _ := (low B (by omega) (.inl hB3) (fun h => by have := g.bH B h; omega)).trans m1
      have m2' : mu'[C]? = _ := (low C (by omega) (.inl hC3) (fun h => by have := g.bH C h; omega)).trans m2
      have gs := g.stepH (by omega) h1 low (by simp : xH.length + 1 = _)
      have hml : st.mu.length < mu'.length := (List.getElem?_eq_some_iff.1 h1).1
      simp [go_sem, e4, e7, e9, e34, e35, e36, e13, m1', m2', g.oT.one, g.oH.one]
      refine ⟨by omega, _, _, gs⟩
    clear e4 e7 e9 e34 e35 e36 e13 m1 m2 hrd mM hRl hT hH g avT avH
    clear st
    rintro st ⟨e4, e7, e9, e34, e35, e36, hl3, avT, avH, g⟩
    simp [go_sem, e4, e7, e9, e34, e35, e36]
    refine ⟨hlt, wrap_i64 (by omega) (by omega), hl3, avT, avH, ?_⟩
    have := g
    rw [← eT, ← eH] at this
    simpa only [List.map_take, List.map_map] using this
end Go.Proofs.YtiophnmdopoeeaaGreat.C32

set_option linter.unusedVariables false
set_option linter.unusedSimpArgs false
set_option maxRecDepth 100000
namespace Go.Proofs.YtiophnmdopoeeaaGreat.C33
open Go Go.Ev Go.Proofs Go.Proofs.YtiophnmdopoeeaaGreat.C1 Go.Proofs.YtiophnmdopoeeaaGreat.C2 Go.Proofs.YtiophnmdopoeeaaGreat.C3 Go.Proofs.YtiophnmdopoeeaaGreat.C4 Go.Proofs.YtiophnmdopoeeaaGreat.C5 Go.Proofs.YtiophnmdopoeeaaGreat.C6 Go.Proofs.YtiophnmdopoeeaaGreat.C7 Go.Proofs.YtiophnmdopoeeaaGreat.C9 Go.Proofs.YtiophnmdopoeeaaGreat.C10 Go.Proofs.YtiophnmdopoeeaaGreat.C11 Go.Proofs.YtiophnmdopoeeaaGreat.C12 Go.Proofs.YtiophnmdopoeeaaGreat.C14 Go.Proofs.YtiophnmdopoeeaaGreat.C15 Go.Proofs.YtiophnmdopoeeaaGreat.C16 Go.Proofs.YtiophnmdopoeeaaGreat.C17 Go.Proofs.YtiophnmdopoeeaaGreat.C18 Go.Proofs.YtiophnmdopoeeaaGreat.C19 Go.Proofs.YtiophnmdopoeeaaGreat.C20 Go.Proofs.YtiophnmdopoeeaaGreat.C21 Go.Proofs.YtiophnmdopoeeaaGreat.C22 Go.Proofs.YtiophnmdopoeeaaGreat.C24 Go.Proofs.YtiophnmdopoeeaaGreat.C25 Go.Proofs.YtiophnmdopoeeaaGreat.C26 Go.Proofs.YtiophnmdopoeeaaGreat.C27 Go.Proofs.YtiophnmdopoeeaaGreat.C28 Go.Proofs.YtiophnmdopoeeaaGreat.C29 Go.Proofs.YtiophnmdopoeeaaGreat.C30 Go.Proofs.YtiophnmdopoeeaaGreat.C31 Go.Proofs.YtiophnmdopoeeaaGreat.C32

def anyP (_ : List Int) : Bool := true
/-- all permutations that keep the sorts -/
def allS (N : Nat) (sc : Sc) : List (List Int) := extG N (sortsL sc) anyP N []

/-- which atoms are used -/
def usedN (n : Nat) (p : List Int) : List Int := (List.range n).map fun (i : Nat) => if ((i : Nat) : Int) ∈ p then (1 : Int) else 0
theorem usedN_len (n : Nat) (p : List Int) : (usedN n p).length = n := by simp [usedN]
theorem usedN_get {n : Nat} {p : List Int} {i : Nat} (h : i < n) : (usedN n p)[i]? = some (if (i : Int) ∈ p then 1 else 0) := by simp [usedN, h]
theorem usedN_set {n : Nat} {p : List Int} {y : Nat} (h : ¬ (y : Int) ∈ p) : (usedN n p).set y 1 = usedN n (p ++ [(y : Int)]) := by
  apply List.ext_getElem?
  intro i
  rw [List.getElem?_set]
  by_cases e : y = i
  · subst e
    rw [if_pos rfl, usedN_len]
    by_cases hl : y < n
    · rw [if_pos hl, usedN_get hl]; simp
    · rw [if_neg hl, List.getElem?_eq_none (by rw [usedN_len]; omega)]
  · rw [if_neg e]
    by_cases hl : i < n
    · rw [usedN_get hl, usedN_get hl]
      have : ¬ (i : Int) = (y : Int) := by omega
      simp [this]
    · rw [List.getElem?_eq_none (by rw [usedN_len]; omega), List.getElem?_eq_none (by rw [usedN_len]; omega)]
theorem usedN_unset {n : Nat} {p : List Int} {y : Nat} (h : ¬ (y : Int) ∈ p) : (usedN n (p ++ [(y : Int)])).set y 0 = usedN n p := by
  apply List.ext_getElem?
  intro i
  rw [List.getElem?_set]
  by_cases e : y = i
  · subst e
    rw [if_pos rfl, usedN_len]
    by_cases hl : y < n
    · rw [if_pos hl, usedN_get hl]; simp [h]
    · rw [if_neg hl, List.getElem?_eq_none (by rw [usedN_len]; omega)]
  · rw [if_neg e]
    by_cases hl : i < n
    · rw [usedN_get hl, usedN_get hl]
      have : ¬ (i : Int) = (y : Int) := by omega
      simp [this]
    · rw [List.getElem?_eq_none (by rw [usedN_len]; omega), List.getElem?_eq_none (by rw [usedN_len]; omega)]

/-- a row that may be longer than what is seen of it -/
def OwnV (mu : Mu) (s : AV) (l : List Int) : Prop := (s = .lst true [] ∧ l = []) ∨ ∃ b cells, s = .sl b 1 0 l.length ∧ mu[b]? = some (.arr cells) ∧ l.length ≤ cells.length ∧ cells.take l.length = l.map aI
theorem OwnV.one {mu : Mu} {s : AV} {l : List Int} (h : OwnV mu s l) : s.one = true := by
  rcases h with ⟨rfl, _⟩ | ⟨b, c, rfl, _⟩ <;> rfl
theorem OwnV.same {mu mu' : Mu} {s : AV} {l : List Int} (h : OwnV mu s l) (hs : ∀ b, blkOf s = some b → mu'[b]? = mu[b]?) : OwnV mu' s l := by
  rcases h with h | ⟨b, c, rfl, hc, h1, h2⟩
  · exact .inl h
  · exact .inr ⟨b, c, rfl, by rw [hs b rfl]; exact hc, h1, h2⟩
theorem OwnV.lt {mu : Mu} {s : AV} {l : List Int} (h : OwnV mu s l) {b : Nat} (hb : blkOf s = some b) : b < mu.length := by
  rcases h with ⟨rfl, _⟩ | ⟨b', c, rfl, hc, _⟩
  · cases hb
  · cases hb; exact (List.getElem?_eq_some_iff.1 hc).1
theorem OwnV.rd {mu : Mu} {s : AV} {l : List Int} (h : OwnV mu s l) : Rd mu s (lI l) := by
  rcases h with ⟨rfl, rfl⟩ | ⟨b, cells, rfl, hc, h1, h2⟩
  · exact .wk _ true _ (.hf _ (HF.lst fun r hr => by simp at hr))
  · refine .sl b 1 0 _ cells _ hc (by simpa using h1) (by simp) (fun x hx => by
      obtain ⟨l, _, rfl⟩ := List.mem_map.1 hx; rfl) (fun k x y hx hy => ?_)
    rw [Nat.zero_add] at hx
    rw [flat_rI, ← h2, List.getElem?_take] at hy
    split at hy
    · rw [hx] at hy; cases hy
      have : x ∈ cells.take l.length := by
        refine List.mem_of_getElem? (i := k) ?_
        rw [List.getElem?_take, if_pos (by assumption)]; exact hx
      rw [h2] at this
      obtain ⟨z, _, rfl⟩ := List.mem_map.1 this
      exact .hf _ (HF.sc _)
    · exact absurd hy (by simp)
theorem AppendStep.ownV1 {P : Program} {mu : Mu} {t t' e bt : Nat} {s : AV} {l : List Int} {x z : Int} {K : AV → Mu → Prop} (hs : sliceOf P t = some (e, 1, bt)) (hs' : (sliceOf P t').isSome = true) (hz : zeroOf P e = some (aI z))
    (hb : bt ≤ 16384) (ho : OwnV mu s l) (hl : l.length + 1 ≤ 4294967296)
    (k : ∀ mu', mu'[mu.length]? = some (.arr ((l ++ [x]).map aI)) → (∀ i, i < mu.length → blkOf s ≠ some i → mu'[i]? = mu[i]?) → K (.sl mu.length 1 0 (l ++ [x]).length) mu') : AppendStep P mu #[t, t'] s (.lst true [[aI x]]) K := by
  rcases ho with ⟨rfl, rfl⟩ | ⟨b, cells, rfl, hc, h1, h2⟩
  · refine .inl ⟨t, t', e, 1, bt, [[aI x]], rfl, hs, hs', ⟨_, hz, rfl, rfl⟩, by omega, hb, rfl, fun r hr => by simp at hr; subst hr; exact ⟨rfl, rfl⟩, .inl ⟨[], rfl, fun r hr => by simp at hr, by simp, fun h => by simp at h, fun _ => ?_⟩⟩
    exact k _ (by simp) (fun i hi _ => by rw [List.getElem?_append_left hi])
  · refine .inl ⟨t, t', e, 1, bt, [[aI x]], rfl, hs, hs', ⟨_, hz, rfl, rfl⟩, by omega, hb, rfl, fun r hr => by simp at hr; subst hr; exact ⟨rfl, rfl⟩, .inr ⟨b, l.length, cells, rfl, hc, by simpa using h1, by simpa using hl, ?_⟩⟩
    have e1 : cells.take (l.length * 1) ++ [[aI x]].flatten = (l ++ [x]).map aI := by
      rw [Nat.mul_one, h2, List.map_append]; rfl
    have e2 : l.length + [[aI x]].length = (l ++ [x]).length := by simp
    rw [e1, e2]
    refine k _ ?_ (fun i hi hne => ?_)
    · rw [List.getElem?_append_right (by simp)]; simp
    · rw [List.getElem?_append_left (by simpa using hi), List.getElem?_set_ne (fun h => hne (by rw [h]; rfl))]

theorem OwnV.len {mu : Mu} {s : AV} {l : List Int} (h : OwnV mu s l) : lenA Tryz.prog mu 28 s = some (aI l.length) := by
  rcases h with ⟨rfl, rfl⟩ | ⟨b, c, rfl, _⟩ <;> simp [go_sem]

theorem AppendStep.copyI {P : Program} {mu : Mu} {t t' e bt : Nat} {full : Bool} {l : List Int} {z : Int} {K : AV → Mu → Prop} (hs : sliceOf P t = some (e, 1, bt)) (hs' : (sliceOf P t').isSome = true) (hz : zeroOf P e = some (aI z))
    (hb : bt ≤ 16384) (hl : l.length ≤ 4294967296) (k0 : l = [] → K (.lst true []) mu) (k : l ≠ [] → K (.sl mu.length 1 0 l.length) (mu ++ [.arr (l.map aI)])) : AppendStep P mu #[t, t'] (.lst true []) (.lst full (l.map rI)) K := by
  refine .inl ⟨t, t', e, 1, bt, l.map rI, rfl, hs, hs', ⟨_, hz, rfl, rfl⟩, by omega, hb, by simp [rowsOf], rows_rI l, .inl ⟨[], rfl, fun r hr => by simp at hr, by simpa using hl, fun h => ?_, fun h => ?_⟩⟩
  · exact k0 (by simpa using h)
  · have := k (by simpa using h)
    simpa [flat_rI] using this
theorem cloneF (p : List Int) (hl : p.length ≤ 1000000000) : SoundF Tryz.prog 36 [lI p] (lI p) := by
  refine SoundF.of_sound ?_
  refine Sound.of_awp Tryz.call36 Tryz.func36 rfl (Nat.le_of_ble_eq_true (by kernel_rfl)) (by kernel_rfl) (pl := {}) ?_
  cases p with
  | nil =>
    simp [go_sem, lI]
    refine ⟨RdN.nil (.inl rfl), ?_⟩
    refine AppendStep.copyI (e := 3) (bt := 8) (z := 0) (l := []) (by simp [go_sem]) (by simp [go_sem]) (by simp [go_sem]) (by omega) (by simp) (fun _ => ?_) (fun h => absurd rfl h)
    simp [go_sem]
    exact RdN.nil (.inl rfl)
  | cons x l =>
    simp [go_sem, lI]
    refine AppendStep.copyI (e := 3) (bt := 8) (z := 0) (l := x :: l) (by simp [go_sem]) (by simp [go_sem]) (by simp [go_sem]) (by omega) (by simp at hl ⊢; omega) (fun h => by cases h) (fun _ => ?_)
    simp [go_sem]
    refine RdN.sl (cells := (x :: l).map aI) (by simp) (by simp) (by simp) (rows_rI (x :: l)).ok (fun k y hy => ?_) (fun k u y hu hy => ?_)
    · rw [show ([aI x] :: List.map rI l).flatten = (x :: l).map aI from flat_rI (x :: l)] at hy
      obtain ⟨z, _, rfl⟩ := List.mem_map.1 (List.mem_of_getElem? hy)
      exact FL.sc _
    · rw [show ([aI x] :: List.map rI l).flatten = (x :: l).map aI from flat_rI (x :: l)] at hy
      rw [Nat.zero_add, hy] at hu
      cases hu; rfl

/-- the memory of All: 0 the sorts, 1 the row of used atoms, 2 its variable, 3 the result, 4 the permutation, 5 the function -/
structure AM (n : Nat) (so : List Int) (fnv : AV) (mu : Mu) (p : List Int) (L : List (List Int)) (avO avP : AV) : Prop where
  m0 : mu[0]? = some (.arr [lI so])
  m1 : mu[1]? = some (.arr ((usedN n p).map aI))
  m2 : mu[2]? = some (.arr [.sl 1 1 0 n])
  m3 : mu[3]? = some (.arr [avO])
  m4 : mu[4]? = some (.arr [avP])
  m5 : mu[5]? = some (.arr [fnv])
  oO : OwnR mu avO (L.map lI)
  oP : OwnV mu avP p
  bO : ∀ b, blkOf avO = some b → 6 ≤ b
  bP : ∀ b, blkOf avP = some b → 6 ≤ b
  dj : ∀ b, blkOf avO = some b → blkOf avP ≠ some b
end Go.Proofs.YtiophnmdopoeeaaGreat.C33

set_option linter.unusedVariables false
set_option linter.unusedSimpArgs false
set_option maxRecDepth 100000
namespace Go.Proofs.YtiophnmdopoeeaaGreat.C34
open Go Go.Ev Go.Proofs Go.Proofs.YtiophnmdopoeeaaGreat.C1 Go.Proofs.YtiophnmdopoeeaaGreat.C2 Go.Proofs.YtiophnmdopoeeaaGreat.C3 Go.Proofs.YtiophnmdopoeeaaGreat.C4 Go.Proofs.YtiophnmdopoeeaaGreat.C5 Go.Proofs.YtiophnmdopoeeaaGreat.C6 Go.Proofs.YtiophnmdopoeeaaGreat.C7 Go.Proofs.YtiophnmdopoeeaaGreat.C9 Go.Proofs.YtiophnmdopoeeaaGreat.C10 Go.Proofs.YtiophnmdopoeeaaGreat.C11 Go.Proofs.YtiophnmdopoeeaaGreat.C12 Go.Proofs.YtiophnmdopoeeaaGreat.C13 Go.Proofs.YtiophnmdopoeeaaGreat.C14 Go.Proofs.YtiophnmdopoeeaaGreat.C15 Go.Proofs.YtiophnmdopoeeaaGreat.C16 Go.Proofs.YtiophnmdopoeeaaGreat.C17 Go.Proofs.YtiophnmdopoeeaaGreat.C18 Go.Proofs.YtiophnmdopoeeaaGreat.C19 Go.Proofs.YtiophnmdopoeeaaGreat.C20 Go.Proofs.YtiophnmdopoeeaaGreat.C21 Go.Proofs.YtiophnmdopoeeaaGreat.C22 Go.Proofs.YtiophnmdopoeeaaGreat.C23 Go.Proofs.YtiophnmdopoeeaaGreat.C24 Go.Proofs.YtiophnmdopoeeaaGreat.C25 Go.Proofs.YtiophnmdopoeeaaGreat.C26 Go.Proofs.YtiophnmdopoeeaaGreat.C27 Go.Proofs.YtiophnmdopoeeaaGreat.C28 Go.Proofs.YtiophnmdopoeeaaGreat.C29 Go.Proofs.YtiophnmdopoeeaaGreat.C30 Go.Proofs.YtiophnmdopoeeaaGreat.C31 Go.Proofs.YtiophnmdopoeeaaGreat.C32 Go.Proofs.YtiophnmdopoeeaaGreat.C33

theorem hf0 : HF (.lst false []) := HF.lst fun r hr => by simp at hr
def spA (o : Bool) : Sp := ⟨[(⟨#[65]⟩, o)], [⟨⟨#[102]⟩, [0], false⟩], [], [], hf0, hf0⟩
def scA : Sc := ⟨[3], 1⟩
def bsA (l : List Int) : List Bd := [⟨⟨1, l⟩, ⟨1, [0, 1, 2]⟩⟩]
def grpS (sp : Sp) (sc : Sc) (N : Nat) (bs : List Bd) : List (List Int) := extG N (stableS sp sc bs).1 (consB N (relsOf bs)) N []
theorem h1 : classesS (spA false) scA (bsA []) = [[0, 1, 2]] := by kernel_rfl
theorem h2 : classesS (spA false) scA (bsA [1]) = [[0, 2], [1]] := by kernel_rfl
theorem h3 : classesS (spA true) scA (bsA []) = [[0], [1], [2]] := by kernel_rfl
theorem h4 : (grpS (spA false) scA 3 (bsA [])).length = 6 := by kernel_rfl
theorem h5 : grpS (spA false) scA 3 (bsA [1]) = [[0, 1, 2], [2, 1, 0]] := by kernel_rfl
theorem h6 : (grpS (spA true) scA 3 (bsA [])).length = 1 := by kernel_rfl
/-- sorting, so that the kernel can do it -/
def insI (x : Int) : List Int → List Int
  | [] => [x]
  | y :: l => if x ≤ y then x :: y :: l else y :: insI x l
def isoI : List Int → List Int
  | [] => []
  | x :: l => insI x (isoI l)
theorem insI_perm (x : Int) : ∀ l, (insI x l).Perm (x :: l)
  | [] => .refl _
  | y :: l => by
    unfold insI
    split
    · exact .refl _
    · exact ((insI_perm x l).cons y).trans (.swap x y l)
theorem isoI_perm : ∀ l, (isoI l).Perm l
  | [] => .refl _
  | x :: l => (insI_perm x (isoI l)).trans ((isoI_perm l).cons x)
theorem insI_sorted (x : Int) : ∀ l, l.Pairwise (· ≤ ·) → (insI x l).Pairwise (· ≤ ·)
  | [], _ => by simp [insI]
  | y :: l, h => by
    rw [List.pairwise_cons] at h
    unfold insI
    split
    · rename_i hxy
      rw [List.pairwise_cons, List.pairwise_cons]
      refine ⟨fun z hz => ?_, h⟩
      rcases List.mem_cons.1 hz with rfl | hz
      · exact hxy
      · have := h.1 z hz; omega
    · rename_i hxy
      rw [List.pairwise_cons]
      refine ⟨fun z hz => ?_, insI_sorted x l h.2⟩
      rcases List.mem_cons.1 ((insI_perm x l).mem_iff.1 hz) with rfl | hz
      · omega
      · exact h.1 z hz
theorem isoI_sorted : ∀ l, (isoI l).Pairwise (· ≤ ·)
  | [] => .nil
  | x :: l => insI_sorted x _ (isoI_sorted l)
theorem srtI_perm (l : List Int) : (srtI l).Perm l := List.mergeSort_perm _ _
theorem srtI_sorted (l : List Int) : (srtI l).Pairwise (· ≤ ·) := by
  have := List.pairwise_mergeSort (le := fun x y : Int => decide (x ≤ y)) (fun a b c h1 h2 => by simp at *; omega) (fun a b => by simp; omega) l
  exact this.imp (fun h => by simpa using h)
theorem srtI_iso (l : List Int) : srtI l = isoI l :=
  List.Perm.eq_of_pairwise (le := (· ≤ ·)) (fun a b _ _ h1 h2 => by omega) (srtI_sorted l) (isoI_sorted l) ((srtI_perm l).trans (isoI_perm l).symm)
def relImgK (p : List Int) (r : Rl) : Rl := ⟨r.ar, isoI (r.ts.map fun t => imgN p p.length t r.ar.toNat)⟩
theorem relImg_K (p : List Int) (r : Rl) : relImg p r = relImgK p r := by unfold relImg relImgK; rw [srtI_iso]
def symK (sc : Sc) (bs : List Bd) (p : List Int) : Bool := validP sc p && (relsOf bs).all fun r => decide (r = relImgK p r)
theorem symB_K (sc : Sc) (bs : List Bd) (p : List Int) : symB sc bs p = symK sc bs p := by unfold symB symK; simp only [relImg_K]
def swapsK (sp : Sp) (sc : Sc) (bs : List Bd) : List (Int × Int) := swapsN (stableS sp sc bs).1 (fun x y => symK sc bs (C6.swapL x y (stableS sp sc bs).1.length)) (stableS sp sc bs).1.length (stableS sp sc bs).1.length
theorem swapsS_K (sp : Sp) (sc : Sc) (bs : List Bd) : swapsS sp sc bs = swapsK sp sc bs := by
  unfold swapsS swapsK
  congr 1
  funext x y
  unfold symSw
  rw [symB_K]
theorem h7 : swapsS (spA false) scA (bsA [1]) = [(0, 2)] := (swapsS_K _ _ _).trans (by kernel_rfl)
theorem h8 : (swapsS (spA false) scA (bsA [])).length = 3 := by rw [swapsS_K]; kernel_rfl
theorem h9 : symB scA (bsA [1]) [2, 1, 0] = true := (symB_K _ _ _).trans (by kernel_rfl)
theorem h10 : symB scA (bsA [1]) [1, 0, 2] = false := (symB_K _ _ _).trans (by kernel_rfl)
theorem h11 : symB scA (bsA [1]) [0, 1] = false := (symB_K _ _ _).trans (by kernel_rfl)
theorem h12 : validP scA [2, 1, 0] = true := by kernel_rfl
theorem uA : GU scA := ⟨⟨by decide, fun a h => by simp [scA] at h; subst h; omega⟩, by decide, by decide⟩
theorem nA : sumI scA.atoms = (3 : Nat) := by decide
theorem gA (l : List Int) (h : l = [] ∨ l = [1]) : GBs (sumI scA.atoms) (bsA l) := by
  have g1 : GRel 3 ⟨1, [0, 1, 2]⟩ := ⟨by decide, by decide, by decide, fun t ht => by
    simp at ht
    rcases ht with rfl | rfl | rfl <;> decide, by decide⟩
  have g2 : GRel 3 ⟨1, []⟩ := ⟨by decide, by decide, by decide, fun t ht => by simp at ht, by decide⟩
  have g3 : GRel 3 ⟨1, [1]⟩ := ⟨by decide, by decide, by decide, fun t ht => by simp at ht; subst ht; decide, by decide⟩
  refine ⟨by simp [bsA], fun b hb => ?_⟩
  simp [bsA] at hb
  subst hb
  rw [nA]
  rcases h with rfl | rfl
  · exact ⟨g2, g1⟩
  · exact ⟨g3, g1⟩

theorem WK.rows {full : Bool} {xs ys : List (List AV)} (hn : ys.length = xs.length) (hz : ∀ (k : Nat) x y, xs[k]? = some x → ys[k]? = some y → x.length = y.length) (h : ∀ (k : Nat) x y, xs.flatten[k]? = some x → ys.flatten[k]? = some y → WK x y) : WK (.lst full xs) (.lst false ys) := by
  intro G hp v r
  have hfl := flatten_len_eq hn hz
  cases r with
  | nil => cases ys with
    | nil => exact .nil _
    | cons => simp at hn
  | emp _ a cap hc => cases ys with
    | nil => exact .emp _ a cap (by simp)
    | cons => simp at hn
  | lst _ _ sz a cap cs e fr rd hb hs hl hc hi hz' hr hv =>
    rw [← hn]
    have hget : ∀ (k : Nat) y, ys.flatten[k]? = some y → ∃ x, xs.flatten[k]? = some x := by
      intro k y hy
      have hk : k < ys.flatten.length := (List.getElem?_eq_some_iff.1 hy).1
      exact ⟨xs.flatten[k]'(by omega), by simp only [List.getElem?_eq_getElem (show k < xs.flatten.length by omega)]⟩
    refine .lst false ys sz a cap cs e fr rd hb hs (by omega) (by simp) hi ?_ ?_ ?_
    · intro r hr'
      obtain ⟨k, hk⟩ := List.mem_iff_getElem?.1 hr'
      have hkl : k < ys.length := (List.getElem?_eq_some_iff.1 hk).1
      have hx : xs[k]? = some (xs[k]'(by omega)) := by simp [show k < xs.length by omega]
      rw [← hz k _ r hx hk]; exact hz' _ (List.mem_of_getElem? hx)
    · intro k y hy
      obtain ⟨x, hx⟩ := hget k y hy
      exact hr k x hx
    · intro k y hy
      obtain ⟨x, hx⟩ := hget k y hy
      exact h k x y hx hy G hp _ (hv k x hx)
theorem WK.ints {full : Bool} (l : List Int) : WK (.lst full (l.map rI)) (lI l) := WK.lst fun r hr c hc => by
  obtain ⟨n, _, rfl⟩ := List.mem_map.1 hr
  simp at hc; subst hc; exact HF.sc _
/-- one row -/
theorem WK.row {full : Bool} {xs ys : List AV} (h : WKs xs ys) : WK (.lst full [xs]) (.lst false [ys]) := by
  obtain ⟨h1, h2⟩ := h.get
  refine WK.rows rfl (fun k x y hx hy => ?_) (fun k x y hx hy => ?_)
  · cases k with
    | zero => simp at hx hy; subst hx; subst hy; exact h1.symm
    | succ k => simp at hx
  · simp at hx hy; exact h2 k x y hx hy
theorem WK.nil {full : Bool} : WK (.lst full []) (.lst false []) := WK.lst fun r hr => by simp at hr
theorem wkSp (o : Bool) : WK (.agg [.lst true [[.sc (.string ⟨#[65]⟩), .sc (.bool o)]], .lst true [[.sc (.string ⟨#[102]⟩), .lst true [[.sc (.int .i64 0)]], .sc (.bool false)]], .lst true [], .lst true []]) (eSp (spA o)) :=
  WK.aggs (.cons (WK.row (.cons (.hf (HF.sc _)) (.cons (.hf (HF.sc _)) .nil))) (.cons (WK.row (.cons (.hf (HF.sc _)) (.cons (WK.ints [0]) (.cons (.hf (HF.sc _)) .nil)))) (.cons WK.nil (.cons WK.nil .nil))))
theorem wkSc : WK (.agg [.lst true [[.sc (.int .i64 3)]], .sc (.int .i64 1)]) (eSc scA) := WK.aggs (.cons (WK.ints [3]) (.cons (.hf (HF.sc _)) .nil))
theorem wkBs (l : List Int) : WK (.lst true [[.sc (.int .i64 1), .lst true (l.map rI), .sc (.int .i64 1), .lst true [[.sc (.int .i64 0)], [.sc (.int .i64 1)], [.sc (.int .i64 2)]]]]) (lBd (bsA l)) :=
  WK.row (.cons (.hf (HF.sc _)) (.cons (WK.ints l) (.cons (.hf (HF.sc _)) (.cons (WK.ints [0, 1, 2]) .nil))))

theorem classesA (o : Bool) (l : List Int) (h : l = [] ∨ l = [1]) : SoundP Tryz.prog 7 [eSp (spA o), eSc scA, lBd (bsA l)] (lL (classesS (spA o) scA (bsA l))) := classesU (spA o) scA uA rfl (bsA l) (gA l h)
theorem groupA (o : Bool) (l : List Int) (h : l = [] ∨ l = [1]) : SoundP Tryz.prog 11 [eSp (spA o), eSc scA, lBd (bsA l)] (lL (grpS (spA o) scA 3 (bsA l))) := groupU (spA o) scA uA 3 nA (by omega) rfl (bsA l) (gA l h)
theorem swapsA (o : Bool) (l : List Int) (h : l = [] ∨ l = [1]) : SoundP Tryz.prog 14 [eSp (spA o), eSc scA, lBd (bsA l)] (lP (swapsS (spA o) scA (bsA l))) := swapsU (spA o) scA uA rfl (bsA l) (gA l h)
theorem listsA (a b : List (List Int)) (ha : a.length ≤ 100) (hi : ∀ l, l ∈ a → l.length ≤ 100) : SoundP Tryz.prog 6 [lL a, lL b] (aB (decide (a = b))) := lists12 a b (by omega) (fun l h => by have := hi l h; omega)

theorem WK.lls (ls : List (List Int)) : WK (.lst true (ls.map fun l => [.lst true (l.map rI)])) (lL ls) := by
  refine WK.rows (by simp) (fun k x y hx hy => ?_) (fun k x y hx hy => ?_)
  · rw [List.getElem?_map] at hx hy
    cases hq : ls[k]? with
    | none => rw [hq] at hx; simp at hx
    | some l => rw [hq] at hx hy; simp at hx hy; subst hx; subst hy; rfl
  · have e1 : (ls.map fun l => [AV.lst true (l.map rI)]).flatten = ls.map fun l => AV.lst true (l.map rI) := by
      clear hx hy
      induction ls with
      | nil => rfl
      | cons a l ih => rw [List.map_cons, List.flatten_cons, ih]; rfl
    have e2 : (ls.map rL).flatten = ls.map lI := flat_lL ls
    rw [e1, List.getElem?_map] at hx
    rw [e2, List.getElem?_map] at hy
    cases hq : ls[k]? with
    | none => rw [hq] at hx; simp at hx
    | some l => rw [hq] at hx hy; simp at hx hy; subst hx; subst hy; exact WK.ints l
theorem wkClasses (o : Bool) (l : List Int) : WKs [.agg [.lst true [[.sc (.string ⟨#[65]⟩), .sc (.bool o)]], .lst true [[.sc (.string ⟨#[102]⟩), .lst true [[.sc (.int .i64 0)]], .sc (.bool false)]], .lst true [], .lst true []],
    .agg [.lst true [[.sc (.int .i64 3)]], .sc (.int .i64 1)], .lst true [[.sc (.int .i64 1), .lst true (l.map rI), .sc (.int .i64 1), .lst true [[.sc (.int .i64 0)], [.sc (.int .i64 1)], [.sc (.int .i64 2)]]]]] [eSp (spA o), eSc scA, lBd (bsA l)] :=
  .cons (wkSp o) (.cons wkSc (.cons (wkBs l) .nil))
theorem symA (p : List Int) : SoundP Tryz.prog 9 [eSc scA, lBd (bsA [1]), lI p] (aB (symB scA (bsA [1]) p)) := symmetricU scA uA (bsA [1]) (gA [1] (.inr rfl)) p
theorem headU : SoundP Tryz.prog 4 [] (aB true) := by
  refine SoundP.of_sound (Sound.of_awp Tryz.call4 Tryz.func4 rfl (Nat.le_of_ble_eq_true (by kernel_rfl)) (by kernel_rfl) (pl := {}) ?_)
  simp [go_sem]
  refine CallStep.pure (validU scA uA.g (by decide) [2, 1, 0]) (.cons wkSc (.cons (WK.ints [2, 1, 0]) .nil)) ?_
  rw [h12]
  simp [go_sem]
  refine CallStep.pure (atomsU scA uA.g) (.cons wkSc .nil) ?_
  rw [nA]
  simp [go_sem]
  refine CallStep.pure (classesA false [] (.inl rfl)) (wkClasses false []) ?_
  rw [h1]
  simp [go_sem]
  refine CallStep.pure (listsA [[0, 1, 2]] [[0, 1, 2]] (by decide) (by decide)) (.cons (.hf (hf_lL _)) (.cons (WK.lls [[0, 1, 2]]) .nil)) ?_
  simp [go_sem]
  refine CallStep.pure (classesA false [1] (.inr rfl)) (wkClasses false [1]) ?_
  rw [h2]
  simp [go_sem]
  refine CallStep.pure (listsA [[0, 2], [1]] [[0, 2], [1]] (by decide) (by decide)) (.cons (.hf (hf_lL _)) (.cons (WK.lls [[0, 2], [1]]) .nil)) ?_
  simp [go_sem]
  refine CallStep.pure (classesA true [] (.inl rfl)) (wkClasses true []) ?_
  rw [h3]
  simp [go_sem]
  refine CallStep.pure (listsA [[0], [1], [2]] [[0], [1], [2]] (by decide) (by decide)) (.cons (.hf (hf_lL _)) (.cons (WK.lls [[0], [1], [2]]) .nil)) ?_
  simp [go_sem]
  refine CallStep.pure (groupA false [] (.inl rfl)) (wkClasses false []) ?_
  simp [go_sem, h4]
  refine CallStep.pure (groupA false [1] (.inr rfl)) (wkClasses false [1]) ?_
  rw [h5]
  simp [go_sem]
  refine CallStep.pure (listsA [[0, 1, 2], [2, 1, 0]] [[0, 1, 2], [2, 1, 0]] (by decide) (by decide)) (.cons (.hf (hf_lL _)) (.cons (WK.lls [[0, 1, 2], [2, 1, 0]]) .nil)) ?_
  simp [go_sem]
  refine CallStep.pure (groupA true [] (.inl rfl)) (wkClasses true []) ?_
  simp [go_sem, h6]
  refine CallStep.pure (swapsA false [1] (.inr rfl)) (wkClasses false [1]) ?_
  rw [h7]
  simp [go_sem]
  refine CallStep.pure (pairs12 [(0, 2)] [(0, 2)] (by decide)) (.cons (.hf (hf_lP _)) (.cons (WK.row (.cons (.hf (HF.sc _)) (.cons (.hf (HF.sc _)) .nil))) .nil)) ?_
  simp [go_sem]
  refine CallStep.pure (swapsA false [] (.inl rfl)) (wkClasses false []) ?_
  simp [go_sem, h8]
  refine CallStep.pure (symA [2, 1, 0]) (.cons wkSc (.cons (wkBs [1]) (.cons (WK.ints [2, 1, 0]) .nil))) ?_
  rw [h9]
  simp [go_sem]
  refine CallStep.pure (symA [1, 0, 2]) (.cons wkSc (.cons (wkBs [1]) (.cons (WK.ints [1, 0, 2]) .nil))) ?_
  rw [h10]
  simp [go_sem]
  refine CallStep.pure (symA [0, 1]) (.cons wkSc (.cons (wkBs [1]) (.cons (WK.ints [0, 1]) .nil))) ?_
  rw [h11]
  simp [go_sem]
  exact .hf _ (HF.sc _)
end Go.Proofs.YtiophnmdopoeeaaGreat.C34

set_option linter.unusedVariables false
set_option linter.unusedSimpArgs false
set_option maxRecDepth 100000
namespace Go.Proofs.YtiophnmdopoeeaaGreat.C35
open Go Go.Ev Go.Proofs Go.Proofs.YtiophnmdopoeeaaGreat.C1 Go.Proofs.YtiophnmdopoeeaaGreat.C2 Go.Proofs.YtiophnmdopoeeaaGreat.C3 Go.Proofs.YtiophnmdopoeeaaGreat.C4 Go.Proofs.YtiophnmdopoeeaaGreat.C5 Go.Proofs.YtiophnmdopoeeaaGreat.C6 Go.Proofs.YtiophnmdopoeeaaGreat.C7 Go.Proofs.YtiophnmdopoeeaaGreat.C9 Go.Proofs.YtiophnmdopoeeaaGreat.C10 Go.Proofs.YtiophnmdopoeeaaGreat.C11 Go.Proofs.YtiophnmdopoeeaaGreat.C12 Go.Proofs.YtiophnmdopoeeaaGreat.C13 Go.Proofs.YtiophnmdopoeeaaGreat.C14 Go.Proofs.YtiophnmdopoeeaaGreat.C15 Go.Proofs.YtiophnmdopoeeaaGreat.C16 Go.Proofs.YtiophnmdopoeeaaGreat.C17 Go.Proofs.YtiophnmdopoeeaaGreat.C18 Go.Proofs.YtiophnmdopoeeaaGreat.C19 Go.Proofs.YtiophnmdopoeeaaGreat.C20 Go.Proofs.YtiophnmdopoeeaaGreat.C21 Go.Proofs.YtiophnmdopoeeaaGreat.C22 Go.Proofs.YtiophnmdopoeeaaGreat.C23 Go.Proofs.YtiophnmdopoeeaaGreat.C24 Go.Proofs.YtiophnmdopoeeaaGreat.C25 Go.Proofs.YtiophnmdopoeeaaGreat.C26 Go.Proofs.YtiophnmdopoeeaaGreat.C27 Go.Proofs.YtiophnmdopoeeaaGreat.C28 Go.Proofs.YtiophnmdopoeeaaGreat.C29 Go.Proofs.YtiophnmdopoeeaaGreat.C30 Go.Proofs.YtiophnmdopoeeaaGreat.C31 Go.Proofs.YtiophnmdopoeeaaGreat.C32 Go.Proofs.YtiophnmdopoeeaaGreat.C33 Go.Proofs.YtiophnmdopoeeaaGreat.C34

/-- the atoms of class c -/
def filt (cls : List Int) (n : Nat) (c : Int) : List Nat := (List.range n).filter fun x => decide (gI cls x = c)
theorem filt_succ (cls : List Int) (n : Nat) (c : Int) : filt cls (n + 1) c = filt cls n c ++ (if gI cls n = c then [n] else []) := by
  unfold filt
  rw [List.range_succ, List.filter_append]
  by_cases h : gI cls n = c <;> simp [h]
theorem clsN_eq (cls : List Int) (m : Nat) : ∀ k, (∀ x, x < k → 0 ≤ gI cls x ∧ gI cls x < m) → clsN cls m k = (List.range m).map fun (c : Nat) => (filt cls k (c : Int)).map fun (x : Nat) => (x : Int)
  | 0, _ => by
    rw [clsN, foldN_zero]
    apply List.ext_getElem?
    intro i
    by_cases h : i < m <;> simp [h, filt]
  | k + 1, h => by
    have ih := clsN_eq cls m k fun x hx => h x (by omega)
    have hk := h k (by omega)
    rw [clsN, foldN_succ, ← clsN, ih]
    apply List.ext_getElem?
    intro i
    rw [List.getElem?_set]
    by_cases hi : i < m
    · by_cases e : (gI cls k).toNat = i
      · rw [if_pos e, if_pos (by simp; omega)]
        have hkc : gI cls k = (i : Int) := by omega
        simp only [List.getElem?_map, List.getElem?_range hi, Option.map_some, Option.some.injEq]
        rw [filt_succ, if_pos hkc, List.map_append, e, gL]
        simp [hi]
      · rw [if_neg e]
        have hkc : ¬ gI cls k = (i : Int) := by omega
        simp only [List.getElem?_map, List.getElem?_range hi, Option.map_some, Option.some.injEq]
        rw [filt_succ, if_neg hkc, List.append_nil]
    · rw [if_neg (by omega), List.getElem?_eq_none (by simp; omega), List.getElem?_eq_none (by simp; omega)]
theorem filt_nodup (cls : List Int) (n : Nat) (c : Int) : (filt cls n c).Nodup := List.Pairwise.filter _ List.nodup_range
theorem mem_filt {cls : List Int} {n : Nat} {c : Int} {x : Nat} : x ∈ filt cls n c ↔ x < n ∧ gI cls x = c := by simp [filt]

def outN (cls : List Int) (n : Nat) (c : Int) (i : Nat) : List Int := (List.range n).map fun x => if gI cls x < c ∨ (gI cls x = c ∧ x ∈ (filt cls n c).take i) then gI cls x else -1
theorem outN_len (cls : List Int) (n : Nat) (c : Int) (i : Nat) : (outN cls n c i).length = n := by simp [outN]
theorem outN_get (cls : List Int) (n : Nat) (c : Int) (i : Nat) {x : Nat} (hx : x < n) : (outN cls n c i)[x]? = some (if gI cls x < c ∨ (gI cls x = c ∧ x ∈ (filt cls n c).take i) then gI cls x else -1) := by simp [outN, hx]
theorem take_mem_succ {l : List Nat} {i x : Nat} (h : i < l.length) : x ∈ l.take (i + 1) ↔ x ∈ l.take i ∨ x = l[i] := by
  rw [List.take_add_one, List.getElem?_eq_getElem h, Option.toList_some, List.mem_append, List.mem_singleton]
theorem nodup_take {l : List Nat} (hn : l.Nodup) {i : Nat} (h : i < l.length) : ¬ l[i] ∈ l.take i := by
  intro hm
  obtain ⟨j, hj, e⟩ := List.mem_iff_getElem.1 hm
  have hji : j < i := by simp at hj; omega
  rw [List.getElem_take] at e
  exact List.pairwise_iff_getElem.1 hn j i (by omega) h hji e
theorem outN_step (cls : List Int) (n : Nat) (c : Int) (i : Nat) (h : i < (filt cls n c).length) : (outN cls n c i).set (filt cls n c)[i] c = outN cls n c (i + 1) ∧ (outN cls n c i)[(filt cls n c)[i]]? = some (-1) ∧ (filt cls n c)[i] < n := by
  have hm := mem_filt.1 (List.getElem_mem h)
  have hnd := nodup_take (filt_nodup cls n c) h
  refine ⟨?_, ?_, hm.1⟩
  · apply List.ext_getElem?
    intro x
    rw [List.getElem?_set]
    by_cases hx : x < n
    · rw [outN_get _ _ _ _ hx, outN_get _ _ _ _ hx]
      by_cases e : (filt cls n c)[i] = x
      · rw [if_pos e, if_pos (by rw [outN_len]; omega), if_pos (.inr ⟨by rw [← e]; exact hm.2, (take_mem_succ h).2 (.inr e.symm)⟩)]
        rw [← e, hm.2]
      · rw [if_neg e]
        have : (x ∈ (filt cls n c).take (i + 1)) ↔ (x ∈ (filt cls n c).take i) := by
          rw [take_mem_succ h]
          exact ⟨fun h => h.elim id (fun h => absurd h.symm e), .inl⟩
        simp only [this]
    · rw [if_neg (by omega), List.getElem?_eq_none (by rw [outN_len]; omega), List.getElem?_eq_none (by rw [outN_len]; omega)]
  · rw [outN_get _ _ _ _ hm.1, if_neg]
    rintro (h1 | ⟨_, h1⟩)
    · omega
    · exact hnd h1
theorem outN_next (cls : List Int) (n : Nat) (c : Int) : outN cls n c (filt cls n c).length = outN cls n (c + 1) 0 := by
  unfold outN
  refine List.map_congr_left fun x hx => ?_
  have hx : x < n := by simpa using hx
  rw [List.take_of_length_le (Nat.le_refl _)]
  have : (gI cls x < c ∨ (gI cls x = c ∧ x ∈ filt cls n c)) ↔ (gI cls x < c + 1 ∨ (gI cls x = c + 1 ∧ x ∈ (filt cls n (c + 1)).take 0)) := by
    rw [mem_filt]
    simp
    omega
  simp only [this]
theorem outN_zero (cls : List Int) (n : Nat) (h : ∀ x, x < n → 0 ≤ gI cls x) : outN cls n 0 0 = List.replicate n (-1) := by
  rw [List.eq_replicate_iff]
  refine ⟨outN_len _ _ _ _, fun y hy => ?_⟩
  obtain ⟨x, hx, rfl⟩ := List.mem_map.1 hy
  have := h x (by simpa using hx)
  rw [if_neg]
  simp; omega
theorem outN_all (cls : List Int) (n m : Nat) (hl : cls.length = n) (h : ∀ x, x < n → gI cls x < m) : outN cls n m 0 = cls := by
  apply List.ext_getElem?
  intro x
  by_cases hx : x < n
  · rw [outN_get _ _ _ _ hx, if_pos (.inl (h x hx)), List.getElem?_eq_getElem (by omega), gI_eq (by omega)]
  · rw [List.getElem?_eq_none (by rw [outN_len]; omega), List.getElem?_eq_none (by omega)]

end Go.Proofs.YtiophnmdopoeeaaGreat.C35

set_option linter.unusedVariables false
set_option linter.unusedSimpArgs false
set_option maxRecDepth 100000
/-
  Plain: digits, permutations, images of relations.
-/
namespace Go.Proofs.YtiophnmdopoeeaaGreat.L1
open Go Go.Ev Go.Proofs Go.Proofs.YtiophnmdopoeeaaGreat.C1 Go.Proofs.YtiophnmdopoeeaaGreat.C2 Go.Proofs.YtiophnmdopoeeaaGreat.C3 Go.Proofs.YtiophnmdopoeeaaGreat.C4 Go.Proofs.YtiophnmdopoeeaaGreat.C5 Go.Proofs.YtiophnmdopoeeaaGreat.C6 Go.Proofs.YtiophnmdopoeeaaGreat.C7 Go.Proofs.YtiophnmdopoeeaaGreat.C9 Go.Proofs.YtiophnmdopoeeaaGreat.C10 Go.Proofs.YtiophnmdopoeeaaGreat.C11 Go.Proofs.YtiophnmdopoeeaaGreat.C12 Go.Proofs.YtiophnmdopoeeaaGreat.C13 Go.Proofs.YtiophnmdopoeeaaGreat.C14 Go.Proofs.YtiophnmdopoeeaaGreat.C15 Go.Proofs.YtiophnmdopoeeaaGreat.C16 Go.Proofs.YtiophnmdopoeeaaGreat.C17 Go.Proofs.YtiophnmdopoeeaaGreat.C18 Go.Proofs.YtiophnmdopoeeaaGreat.C19 Go.Proofs.YtiophnmdopoeeaaGreat.C20 Go.Proofs.YtiophnmdopoeeaaGreat.C21 Go.Proofs.YtiophnmdopoeeaaGreat.C22 Go.Proofs.YtiophnmdopoeeaaGreat.C23 Go.Proofs.YtiophnmdopoeeaaGreat.C24 Go.Proofs.YtiophnmdopoeeaaGreat.C25 Go.Proofs.YtiophnmdopoeeaaGreat.C26 Go.Proofs.YtiophnmdopoeeaaGreat.C27 Go.Proofs.YtiophnmdopoeeaaGreat.C28 Go.Proofs.YtiophnmdopoeeaaGreat.C29 Go.Proofs.YtiophnmdopoeeaaGreat.C30 Go.Proofs.YtiophnmdopoeeaaGreat.C31 Go.Proofs.YtiophnmdopoeeaaGreat.C32 Go.Proofs.YtiophnmdopoeeaaGreat.C33 Go.Proofs.YtiophnmdopoeeaaGreat.C34 Go.Proofs.YtiophnmdopoeeaaGreat.C35

/-! ### digits -/
/-- the value of digits, the highest first -/
def valD (n : Int) : List Int → Int
  | [] => 0
  | d :: l => d * n ^ l.length + valD n l
theorem rankF_go (n : Int) : ∀ (l : List Int) (a : Int), l.foldl (fun o t => o * n + t) a = a * n ^ l.length + valD n l
  | [], a => by simp [valD]
  | d :: l, a => by
    rw [List.foldl_cons, rankF_go n l, valD, List.length_cons, Int.pow_succ]
    rw [Int.add_mul, Int.mul_assoc, Int.mul_comm n (n ^ l.length), Int.add_assoc]
theorem rankF_val (n : Int) (l : List Int) : rankF n l = valD n l := by rw [rankF, rankF_go]; simp
theorem imgN_val (p : List Int) (n t : Int) : ∀ k, imgN p n t k = valD n ((digN n t k).map fun x => gI p x.toNat)
  | 0 => rfl
  | k + 1 => by
    rw [imgN, imgN_val p n t k, digN, List.map_cons, valD, List.length_map, digN_len, Int.add_comm]
/-- all digits are digits -/
def Dg (n : Int) (l : List Int) : Prop := ∀ d, d ∈ l → 0 ≤ d ∧ d < n
theorem Dg.cons {n d : Int} {l : List Int} (h : Dg n (d :: l)) : (0 ≤ d ∧ d < n) ∧ Dg n l := ⟨h d (by simp), fun x hx => h x (by simp [hx])⟩
theorem valD_ok {n : Int} (hn : 1 ≤ n) : ∀ {l : List Int}, Dg n l → 0 ≤ valD n l ∧ valD n l < n ^ l.length
  | [], _ => by simp [valD]
  | d :: l, h => by
    obtain ⟨h1, h2⟩ := h.cons
    have ih := valD_ok hn h2
    have hp : 0 < n ^ l.length := Int.pow_pos (by omega)
    rw [valD, List.length_cons, Int.pow_succ]
    have e1 : 0 ≤ d * n ^ l.length := Int.mul_nonneg h1.1 (by omega)
    have e2 : (d + 1) * n ^ l.length ≤ n * n ^ l.length := Int.mul_le_mul_of_nonneg_right (by omega) (by omega)
    rw [Int.add_mul, Int.one_mul] at e2
    rw [Int.mul_comm (n ^ l.length) n]
    omega
theorem divN_eq (n t : Int) : ∀ k, 0 ≤ n → divN n t k = t / n ^ k
  | 0, _ => by simp [divN]
  | k + 1, h => by
    rw [divN, divN_eq n t k h, Int.pow_succ, Int.ediv_ediv_of_nonneg (Int.pow_nonneg h)]
theorem digN_dg {n t : Int} (hn : 1 ≤ n) : ∀ k, Dg n (digN n t k)
  | 0 => fun d hd => by simp [digN] at hd
  | k + 1 => by
    intro d hd
    rw [digN] at hd
    rcases List.mem_cons.1 hd with rfl | hd
    · exact ⟨Int.emod_nonneg _ (by omega), Int.emod_lt_of_pos _ (by omega)⟩
    · exact digN_dg hn k d hd
/-- the digits of a value are the digits -/
theorem digN_mod {n : Int} (hn : 1 ≤ n) (c : Int) : ∀ (k : Nat) (v : Int), digN n (c * n ^ k + v) k = digN n v k
  | 0, v => rfl
  | k + 1, v => by
    have hp : (0 : Int) < n ^ k := Int.pow_pos (by omega)
    rw [digN, digN, divN_eq n _ k (by omega), divN_eq n _ k (by omega)]
    have e : c * n ^ (k + 1) + v = (c * n) * n ^ k + v := by rw [Int.pow_succ, Int.mul_comm (n ^ k) n, ← Int.mul_assoc]
    rw [e, digN_mod hn (c * n) k v, Int.add_comm, Int.add_mul_ediv_right _ _ (by omega), Int.add_mul_emod_self_right]
theorem digN_val {n : Int} (hn : 1 ≤ n) : ∀ {l : List Int}, Dg n l → digN n (valD n l) l.length = l
  | [], _ => rfl
  | d :: l, h => by
    obtain ⟨h1, h2⟩ := h.cons
    have hv := valD_ok hn h2
    have hp : (0 : Int) < n ^ l.length := Int.pow_pos (by omega)
    rw [valD, List.length_cons, digN, digN_mod hn d l.length, digN_val hn h2, divN_eq n _ _ (by omega)]
    rw [Int.add_comm, Int.add_mul_ediv_right _ _ (by omega), Int.ediv_eq_zero_of_lt hv.1 hv.2, Int.zero_add, Int.emod_eq_of_lt h1.1 h1.2]
theorem val_digN {n : Int} (hn : 1 ≤ n) : ∀ (k : Nat) (t : Int), 0 ≤ t → t < n ^ k → valD n (digN n t k) = t
  | 0, t, h0, h1 => by simp at h1; simp [digN, valD]; omega
  | k + 1, t, h0, h1 => by
    have hp : (0 : Int) < n ^ k := Int.pow_pos (by omega)
    have hdm := Int.mul_ediv_add_emod t (n ^ k)
    have hlt : t / n ^ k < n := by
      rw [Int.pow_succ, Int.mul_comm] at h1
      exact Int.ediv_lt_of_lt_mul hp h1
    have hge : 0 ≤ t / n ^ k := Int.ediv_nonneg h0 (by omega)
    rw [digN, valD, digN_len, divN_eq n t k (by omega), Int.emod_eq_of_lt hge hlt]
    have e : digN n t k = digN n (t % n ^ k) k := by
      have := digN_mod hn (t / n ^ k) k (t % n ^ k)
      rw [Int.mul_comm, hdm] at this
      exact this
    rw [e, val_digN hn k _ (Int.emod_nonneg _ (by omega)) (Int.emod_lt_of_pos _ hp), Int.mul_comm]
    exact hdm
end Go.Proofs.YtiophnmdopoeeaaGreat.L1

set_option linter.unusedVariables false
set_option linter.unusedSimpArgs false
set_option maxRecDepth 100000
namespace Go.Proofs.YtiophnmdopoeeaaGreat.L2
open Go Go.Ev Go.Proofs Go.Proofs.YtiophnmdopoeeaaGreat.C1 Go.Proofs.YtiophnmdopoeeaaGreat.C2 Go.Proofs.YtiophnmdopoeeaaGreat.C3 Go.Proofs.YtiophnmdopoeeaaGreat.C4 Go.Proofs.YtiophnmdopoeeaaGreat.C5 Go.Proofs.YtiophnmdopoeeaaGreat.C6 Go.Proofs.YtiophnmdopoeeaaGreat.C7 Go.Proofs.YtiophnmdopoeeaaGreat.C9 Go.Proofs.YtiophnmdopoeeaaGreat.C10 Go.Proofs.YtiophnmdopoeeaaGreat.C11 Go.Proofs.YtiophnmdopoeeaaGreat.C12 Go.Proofs.YtiophnmdopoeeaaGreat.C13 Go.Proofs.YtiophnmdopoeeaaGreat.C14 Go.Proofs.YtiophnmdopoeeaaGreat.C15 Go.Proofs.YtiophnmdopoeeaaGreat.C16 Go.Proofs.YtiophnmdopoeeaaGreat.C17 Go.Proofs.YtiophnmdopoeeaaGreat.C18 Go.Proofs.YtiophnmdopoeeaaGreat.C19 Go.Proofs.YtiophnmdopoeeaaGreat.C20 Go.Proofs.YtiophnmdopoeeaaGreat.C21 Go.Proofs.YtiophnmdopoeeaaGreat.C22 Go.Proofs.YtiophnmdopoeeaaGreat.C23 Go.Proofs.YtiophnmdopoeeaaGreat.C24 Go.Proofs.YtiophnmdopoeeaaGreat.C25 Go.Proofs.YtiophnmdopoeeaaGreat.C26 Go.Proofs.YtiophnmdopoeeaaGreat.C27 Go.Proofs.YtiophnmdopoeeaaGreat.C28 Go.Proofs.YtiophnmdopoeeaaGreat.C29 Go.Proofs.YtiophnmdopoeeaaGreat.C30 Go.Proofs.YtiophnmdopoeeaaGreat.C31 Go.Proofs.YtiophnmdopoeeaaGreat.C32 Go.Proofs.YtiophnmdopoeeaaGreat.C33 Go.Proofs.YtiophnmdopoeeaaGreat.C34 Go.Proofs.YtiophnmdopoeeaaGreat.C35 Go.Proofs.YtiophnmdopoeeaaGreat.L1

/-- a permutation of 0 .. N-1 -/
structure PermL (N : Nat) (p : List Int) : Prop where
  len : p.length = N
  rng : ∀ v, v ∈ p → 0 ≤ v ∧ v < N
  nd : p.Nodup

theorem PermL.surj {N : Nat} {p : List Int} (h : PermL N p) {v : Int} (h0 : 0 ≤ v) (h1 : v < N) : v ∈ p := by
  refine Decidable.byContradiction fun hv => ?_
  have : (v :: p).length ≤ ((List.range N).map fun (i : Nat) => (i : Int)).length := List.Nodup.length_le_of_subset (List.nodup_cons.2 ⟨hv, h.nd⟩) (fun x hx => by
    have hx : 0 ≤ x ∧ x < N := by
      rcases List.mem_cons.1 hx with rfl | hx
      · exact ⟨h0, h1⟩
      · exact h.rng x hx
    exact List.mem_map.2 ⟨x.toNat, by simp; omega, by omega⟩)
  simp [h.len] at this
  omega
theorem nodup_of_surj {N : Nat} {p : List Int} (hl : p.length = N) (h : ∀ v : Int, 0 ≤ v → v < N → v ∈ p) : p.Nodup := by
  unfold List.Nodup
  rw [List.pairwise_iff_getElem]
  intro i j hi hj hij e
  have hsub : ∀ x, x ∈ ((List.range N).map fun (i : Nat) => (i : Int)) → x ∈ p.eraseIdx i := by
    intro x hx
    obtain ⟨k, hk, rfl⟩ := List.mem_map.1 hx
    have hm := h k (by omega) (by simp at hk; omega)
    obtain ⟨q, hq, hqe⟩ := List.mem_iff_getElem.1 hm
    rw [List.mem_eraseIdx_iff_getElem]
    by_cases hqi : q = i
    · subst hqi; exact ⟨j, hj, by omega, by rw [← e]; exact hqe⟩
    · exact ⟨q, hq, hqi, hqe⟩
  have hnd : ((List.range N).map fun (i : Nat) => (i : Int)).Nodup := List.Pairwise.map _ (fun a b hab e => hab (by omega)) List.nodup_range
  have := List.Nodup.length_le_of_subset hnd hsub
  rw [List.length_eraseIdx, if_pos hi] at this
  simp at this; omega
theorem PermL.of_surj {N : Nat} {p : List Int} (hl : p.length = N) (hr : ∀ v, v ∈ p → 0 ≤ v ∧ v < N) (h : ∀ v : Int, 0 ≤ v → v < N → v ∈ p) : PermL N p := ⟨hl, hr, nodup_of_surj hl h⟩

theorem gI_mem {p : List Int} {i : Nat} (h : i < p.length) : gI p i ∈ p := by rw [gI_eq h]; exact List.getElem_mem h
theorem gI_inj {p : List Int} (h : p.Nodup) {i j : Nat} (hi : i < p.length) (hj : j < p.length) (e : gI p i = gI p j) : i = j := by
  rw [gI_eq hi, gI_eq hj] at e
  refine Decidable.byContradiction fun hne => ?_
  rcases Nat.lt_or_gt_of_ne hne with h1 | h1
  · exact List.pairwise_iff_getElem.1 h i j hi hj h1 e
  · exact List.pairwise_iff_getElem.1 h j i hj hi h1 e.symm
theorem mem_gI {p : List Int} {v : Int} (h : v ∈ p) : ∃ i, i < p.length ∧ gI p i = v := by
  obtain ⟨i, hi, e⟩ := List.mem_iff_getElem.1 h
  exact ⟨i, hi, by rw [gI_eq hi]; exact e⟩
theorem list_ext_gI {a b : List Int} (hl : a.length = b.length) (h : ∀ i, i < a.length → gI a i = gI b i) : a = b := by
  apply List.ext_getElem hl
  intro i h1 h2
  have := h i h1
  rwa [gI_eq h1, gI_eq h2] at this

/-- the atom that p maps x to -/
def ap (p : List Int) (x : Nat) : Nat := (gI p x).toNat
theorem PermL.ap_lt {N : Nat} {p : List Int} (h : PermL N p) {x : Nat} (hx : x < N) : ap p x < N := by
  have := h.rng _ (gI_mem (p := p) (i := x) (by rw [h.len]; exact hx))
  unfold ap; omega
theorem PermL.ap_eq {N : Nat} {p : List Int} (h : PermL N p) {x : Nat} (hx : x < N) : gI p x = (ap p x : Int) := by
  have := h.rng _ (gI_mem (p := p) (i := x) (by rw [h.len]; exact hx))
  unfold ap; omega
theorem PermL.ap_inj {N : Nat} {p : List Int} (h : PermL N p) {x y : Nat} (hx : x < N) (hy : y < N) (e : ap p x = ap p y) : x = y :=
  gI_inj h.nd (by rw [h.len]; exact hx) (by rw [h.len]; exact hy) (by rw [h.ap_eq hx, h.ap_eq hy, e])
theorem PermL.ap_surj {N : Nat} {p : List Int} (h : PermL N p) {y : Nat} (hy : y < N) : ∃ x, x < N ∧ ap p x = y := by
  obtain ⟨x, hx, e⟩ := mem_gI (h.surj (v := (y : Int)) (by omega) (by omega))
  exact ⟨x, by rw [← h.len]; exact hx, by unfold ap; omega⟩

/-! ### Valid -/
theorem cntN_get (p : List Int) (hr : ∀ v, v ∈ p → 0 ≤ v ∧ v < p.length) : ∀ k, k ≤ p.length → ∀ v, v < p.length → gI (cntN p k) v = ((p.take k).count (v : Int) : Nat)
  | 0, _, v, hv => by simp [cntN, foldN, gI, hv]
  | k + 1, hk, v, hv => by
    have ih := cntN_get p hr k (by omega)
    have hkl : k < p.length := by omega
    have hm := hr _ (gI_mem hkl)
    have hcl := cntN_len p k
    rw [cntN, foldN_succ, ← cntN, List.take_add_one, List.getElem?_eq_getElem hkl, List.count_append, ← gI_eq hkl]
    by_cases e : (gI p k).toNat = v
    · have : gI ((cntN p k).set (gI p k).toNat (gI (cntN p k) (gI p k).toNat + 1)) v = gI (cntN p k) v + 1 := by
        rw [e]; unfold gI; rw [List.getElem?_set_self (by omega)]; rfl
      rw [this, ih v hv]
      have e2 : gI p k = (v : Int) := by omega
      rw [e2]; simp
    · have : gI ((cntN p k).set (gI p k).toNat (gI (cntN p k) (gI p k).toNat + 1)) v = gI (cntN p k) v := by
        generalize gI (cntN p k) (gI p k).toNat + 1 = z
        generalize (gI p k).toNat = q at e ⊢
        unfold gI; rw [List.getElem?_set_ne e]
      rw [this, ih v hv]
      have e2 : ¬ gI p k = (v : Int) := by omega
      have : (some (gI p k)).toList.count (v : Int) = 0 := by simp [List.count_cons, e2]
      rw [this]; rfl
def KeepS (so : List Int) (N : Nat) (p : List Int) : Prop := ∀ x, x < N → gI so (ap p x) = gI so x
theorem validP_iff {sc : Sc} {N : Nat} (hN : sumI sc.atoms = N) {p : List Int} : validP sc p = true ↔ PermL N p ∧ KeepS (sortsL sc) N p := by
  unfold validP
  rw [Bool.and_eq_true, Bool.and_eq_true, decide_eq_true_eq, decide_eq_true_eq, allN_iff, hN]
  constructor
  · rintro ⟨⟨h1, h2⟩, h3⟩
    have hl : p.length = N := by omega
    have hr : ∀ v, v ∈ p → 0 ≤ v ∧ v < p.length := by
      intro v hv
      obtain ⟨i, hi, rfl⟩ := mem_gI hv
      have := h2 i hi
      simp only [okP, Bool.and_eq_true, decide_eq_true_eq] at this
      exact this.1
    have hs : ∀ v : Int, 0 ≤ v → v < N → v ∈ p := by
      intro v h0 hv
      refine Decidable.byContradiction fun hn => h3 ?_
      have hc := cntN_get p hr p.length (Nat.le_refl _) v.toNat (by omega)
      rw [List.take_length, List.count_eq_zero.2 (by rw [Int.toNat_of_nonneg h0]; exact hn)] at hc
      have hcl := cntN_len p p.length
      have : gI (cntN p p.length) v.toNat ∈ cntN p p.length := gI_mem (by omega)
      rw [hc] at this; exact this
    refine ⟨.of_surj hl (fun v hv => by have := hr v hv; omega) hs, fun x hx => ?_⟩
    have := h2 x (by omega)
    simp only [okP, Bool.and_eq_true, decide_eq_true_eq] at this
    exact this.2
  · rintro ⟨hp, hk⟩
    have hr : ∀ v, v ∈ p → 0 ≤ v ∧ v < p.length := fun v hv => by rw [hp.len]; exact hp.rng v hv
    refine ⟨⟨by rw [hp.len], fun x hx => ?_⟩, fun h0 => ?_⟩
    · have := hr _ (gI_mem hx)
      simp only [okP, Bool.and_eq_true, decide_eq_true_eq]
      exact ⟨this, hk x (by rw [← hp.len]; exact hx)⟩
    · obtain ⟨v, hv, e⟩ := mem_gI h0
      rw [cntN_len] at hv
      rw [cntN_get p hr p.length (Nat.le_refl _) v hv, List.take_length] at e
      have : (v : Int) ∈ p := hp.surj (by omega) (by rw [hp.len] at hv; omega)
      have := List.count_pos_iff.2 this
      omega
end Go.Proofs.YtiophnmdopoeeaaGreat.L2

set_option linter.unusedVariables false
set_option linter.unusedSimpArgs false
set_option maxRecDepth 100000
namespace Go.Proofs.YtiophnmdopoeeaaGreat.L3
open Go Go.Ev Go.Proofs Go.Proofs.YtiophnmdopoeeaaGreat.C1 Go.Proofs.YtiophnmdopoeeaaGreat.C2 Go.Proofs.YtiophnmdopoeeaaGreat.C3 Go.Proofs.YtiophnmdopoeeaaGreat.C4 Go.Proofs.YtiophnmdopoeeaaGreat.C5 Go.Proofs.YtiophnmdopoeeaaGreat.C6 Go.Proofs.YtiophnmdopoeeaaGreat.C7 Go.Proofs.YtiophnmdopoeeaaGreat.C9 Go.Proofs.YtiophnmdopoeeaaGreat.C10 Go.Proofs.YtiophnmdopoeeaaGreat.C11 Go.Proofs.YtiophnmdopoeeaaGreat.C12 Go.Proofs.YtiophnmdopoeeaaGreat.C13 Go.Proofs.YtiophnmdopoeeaaGreat.C14 Go.Proofs.YtiophnmdopoeeaaGreat.C15 Go.Proofs.YtiophnmdopoeeaaGreat.C16 Go.Proofs.YtiophnmdopoeeaaGreat.C17 Go.Proofs.YtiophnmdopoeeaaGreat.C18 Go.Proofs.YtiophnmdopoeeaaGreat.C19 Go.Proofs.YtiophnmdopoeeaaGreat.C20 Go.Proofs.YtiophnmdopoeeaaGreat.C21 Go.Proofs.YtiophnmdopoeeaaGreat.C22 Go.Proofs.YtiophnmdopoeeaaGreat.C23 Go.Proofs.YtiophnmdopoeeaaGreat.C24 Go.Proofs.YtiophnmdopoeeaaGreat.C25 Go.Proofs.YtiophnmdopoeeaaGreat.C26 Go.Proofs.YtiophnmdopoeeaaGreat.C27 Go.Proofs.YtiophnmdopoeeaaGreat.C28 Go.Proofs.YtiophnmdopoeeaaGreat.C29 Go.Proofs.YtiophnmdopoeeaaGreat.C30 Go.Proofs.YtiophnmdopoeeaaGreat.C31 Go.Proofs.YtiophnmdopoeeaaGreat.C32 Go.Proofs.YtiophnmdopoeeaaGreat.C33 Go.Proofs.YtiophnmdopoeeaaGreat.C34 Go.Proofs.YtiophnmdopoeeaaGreat.C35 Go.Proofs.YtiophnmdopoeeaaGreat.L1 Go.Proofs.YtiophnmdopoeeaaGreat.L2

theorem nodup_perm {α : Type} [DecidableEq α] {l₁ l₂ : List α} (h1 : l₁.Nodup) (h2 : l₂.Nodup) (hs : ∀ x, x ∈ l₁ → x ∈ l₂) (hl : l₂.length ≤ l₁.length) : l₁.Perm l₂ := by
  rw [List.perm_ext_iff_of_nodup h1 h2]
  intro a
  refine ⟨hs a, fun ha => Decidable.byContradiction fun hn => ?_⟩
  have := List.Nodup.length_le_of_subset (List.nodup_cons.2 ⟨hn, h1⟩) (l₂ := l₂) (fun x hx => by
    rcases List.mem_cons.1 hx with rfl | hx
    · exact ha
    · exact hs x hx)
  simp at this; omega
theorem sorted_nodup {l : List Int} (h : sorted l) : l.Nodup := List.Pairwise.imp (fun h e => by omega) h
theorem sorted_le {l : List Int} (h : sorted l) : l.Pairwise (· ≤ ·) := List.Pairwise.imp (fun h => by omega) h
theorem srtI_eq {l m : List Int} (hm : sorted m) (h : l.Perm m) : srtI l = m :=
  List.Perm.eq_of_pairwise (le := (· ≤ ·)) (fun a b _ _ h1 h2 => by omega) (srtI_sorted l) (sorted_le hm) ((srtI_perm l).trans h)
theorem srtI_strict {l : List Int} (h : l.Nodup) : sorted (srtI l) := by
  have h1 := srtI_sorted l
  have h2 : (srtI l).Nodup := (srtI_perm l).nodup_iff.2 h
  unfold sorted
  rw [List.pairwise_iff_getElem] at *
  intro i j hi hj hij
  have := h1 i j hi hj hij
  have := List.pairwise_iff_getElem.1 h2 i j hi hj hij
  omega

/-- what p makes of a tuple -/
abbrev act (p : List Int) (N : Nat) (k : Nat) (t : Int) : Int := imgN p N t k
theorem act_dig {N : Nat} {p : List Int} (hp : PermL N p) (hN : 1 ≤ N) (k : Nat) (t : Int) : digN N (act p N k t) k = (digN N t k).map (fun x => gI p x.toNat) ∧ 0 ≤ act p N k t ∧ act p N k t < (N : Int) ^ k := by
  have hd : Dg N ((digN N t k).map fun x => gI p x.toNat) := by
    intro d hd
    obtain ⟨x, hx, rfl⟩ := List.mem_map.1 hd
    have := digN_dg (n := N) (t := t) (by omega) k x hx
    exact hp.rng _ (gI_mem (by rw [hp.len]; omega))
  have hlen : ((digN N t k).map fun x => gI p x.toNat).length = k := by rw [List.length_map, digN_len]
  have h1 := digN_val (n := N) (by omega) hd
  have h2 := valD_ok (n := N) (by omega) hd
  rw [hlen] at h1 h2
  rw [act, imgN_val]
  exact ⟨h1, h2⟩
theorem map_gI_inj {N : Nat} {p : List Int} (hp : PermL N p) : ∀ {a b : List Int}, Dg N a → Dg N b → a.map (fun x => gI p x.toNat) = b.map (fun x => gI p x.toNat) → a = b
  | [], [], _, _, _ => rfl
  | [], _ :: _, _, _, h => by simp at h
  | _ :: _, [], _, _, h => by simp at h
  | x :: a, y :: b, ha, hb, h => by
    simp only [List.map_cons, List.cons.injEq] at h
    have hx := ha.cons.1
    have hy := hb.cons.1
    have := gI_inj hp.nd (by rw [hp.len]; omega) (by rw [hp.len]; omega) h.1
    have e : x = y := by omega
    rw [e, map_gI_inj hp ha.cons.2 hb.cons.2 h.2]
theorem act_inj {N : Nat} {p : List Int} (hp : PermL N p) (hN : 1 ≤ N) {k : Nat} {t u : Int} (ht : 0 ≤ t ∧ t < (N : Int) ^ k) (hu : 0 ≤ u ∧ u < (N : Int) ^ k) (h : act p N k t = act p N k u) : t = u := by
  have e := (act_dig hp hN k t).1.symm.trans ((congrArg (fun z => digN N z k) h).trans (act_dig hp hN k u).1)
  have := map_gI_inj hp (digN_dg (by omega) k) (digN_dg (by omega) k) e
  rw [← val_digN (n := N) (by omega) k t ht.1 ht.2, ← val_digN (n := N) (by omega) k u hu.1 hu.2, this]

def Closed (p : List Int) (N : Nat) (r : Rl) : Prop := ∀ t, t ∈ r.ts → act p N r.ar.toNat t ∈ r.ts
theorem GRel.pos {N : Nat} {r : Rl} (h : GRel N r) {t : Int} (ht : t ∈ r.ts) : 1 ≤ N := by
  have hv := h.val t ht
  have := h.ar1
  refine Decidable.byContradiction fun hc => ?_
  have : N = 0 := by omega
  subst this
  obtain ⟨k, hk⟩ : ∃ k, r.ar.toNat = k + 1 := ⟨r.ar.toNat - 1, by omega⟩
  rw [hk, Int.pow_succ] at hv
  simp at hv; omega
theorem img_nodup {N : Nat} {p : List Int} (hp : PermL N p) {r : Rl} (g : GRel N r) : (r.ts.map (act p N r.ar.toNat)).Nodup := by
  have hs := sorted_nodup g.srt
  unfold List.Nodup
  rw [List.pairwise_map]
  rw [List.Nodup, List.pairwise_iff_getElem] at hs
  rw [List.pairwise_iff_getElem]
  intro i j hi hj hij e
  exact hs i j hi hj hij (act_inj hp (GRel.pos g (List.getElem_mem hi)) (g.val _ (List.getElem_mem hi)) (g.val _ (List.getElem_mem hj)) e)
theorem relImg_iff {N : Nat} {p : List Int} (hp : PermL N p) {r : Rl} (g : GRel N r) : r = relImg p r ↔ Closed p N r := by
  unfold relImg
  rw [hp.len]
  constructor
  · intro h t ht
    have e : r.ts = srtI (r.ts.map fun t => imgN p N t r.ar.toNat) := congrArg Rl.ts h
    have : act p N r.ar.toNat t ∈ srtI (r.ts.map fun t => imgN p N t r.ar.toNat) := (srtI_perm _).mem_iff.2 (List.mem_map.2 ⟨t, ht, rfl⟩)
    rw [← e] at this; exact this
  · intro h
    have hperm : (r.ts.map fun t => imgN p N t r.ar.toNat).Perm r.ts := nodup_perm (img_nodup hp g) (sorted_nodup g.srt) (fun x hx => by
      obtain ⟨t, ht, rfl⟩ := List.mem_map.1 hx
      exact h t ht) (by simp)
    obtain ⟨ar, ts⟩ := r
    simp only at *
    rw [srtI_eq g.srt hperm]

/-- a symmetry -/
structure SymP (sc : Sc) (N : Nat) (rs : List Rl) (p : List Int) : Prop where
  perm : PermL N p
  keep : KeepS (sortsL sc) N p
  cl : ∀ r, r ∈ rs → Closed p N r
theorem symB_iff {sc : Sc} {bs : List Bd} {N : Nat} (hN : sumI sc.atoms = N) (gr : ∀ r, r ∈ relsOf bs → GRel N r) {p : List Int} : symB sc bs p = true ↔ SymP sc N (relsOf bs) p := by
  unfold symB
  rw [Bool.and_eq_true, validP_iff hN, List.all_eq_true]
  constructor
  · rintro ⟨⟨h1, h2⟩, h3⟩
    exact ⟨h1, h2, fun r hr => (relImg_iff h1 (gr r hr)).1 (by simpa using h3 r hr)⟩
  · rintro ⟨h1, h2, h3⟩
    exact ⟨⟨h1, h2⟩, fun r hr => by simpa using (relImg_iff h1 (gr r hr)).2 (h3 r hr)⟩

/-! ### identity, composition, inverse -/
def idL (N : Nat) : List Int := (List.range N).map fun (i : Nat) => (i : Int)
theorem idL_get {N x : Nat} (h : x < N) : gI (idL N) x = x := by simp [gI, idL, h]
theorem idL_perm (N : Nat) : PermL N (idL N) := .of_surj (by simp [idL]) (fun v hv => by
  obtain ⟨i, hi, rfl⟩ := List.mem_map.1 hv
  simp at hi; omega) (fun v h0 h1 => List.mem_map.2 ⟨v.toNat, by simp; omega, by omega⟩)
theorem comp_get {p q : List Int} {x : Nat} (h : x < q.length) : gI (composeL p q) x = gI p (ap q x) := by
  unfold composeL
  rw [gI_eq (by simpa using h), List.getElem_map, ← gI_eq h]; rfl
theorem comp_perm {N : Nat} {p q : List Int} (hp : PermL N p) (hq : PermL N q) : PermL N (composeL p q) := by
  refine .of_surj (by simp [composeL, hq.len]) (fun v hv => ?_) (fun v h0 h1 => ?_)
  · obtain ⟨x, hx, rfl⟩ := List.mem_map.1 hv
    have := hq.rng x hx
    exact hp.rng _ (gI_mem (by rw [hp.len]; omega))
  · obtain ⟨y, hy, e⟩ := mem_gI (hp.surj h0 h1)
    obtain ⟨x, hx, e2⟩ := hq.ap_surj (y := y) (by rw [← hp.len]; exact hy)
    refine List.mem_map.2 ⟨gI q x, gI_mem (by rw [hq.len]; exact hx), ?_⟩
    rw [← e, ← e2]; rfl
theorem comp_ap {N : Nat} {p q : List Int} (hq : PermL N q) {x : Nat} (h : x < N) : ap (composeL p q) x = ap p (ap q x) := by
  unfold ap; rw [comp_get (by rw [hq.len]; exact h)]; rfl
/-- the inverse, by what it does -/
theorem invN_get {N : Nat} {p : List Int} (hp : PermL N p) : ∀ k, k ≤ N → ∀ x, x < k → gI (invN p k) (ap p x) = x
  | 0, _, x, hx => by omega
  | k + 1, hk, x, hx => by
    have ih := invN_get hp k (by omega)
    rw [invN, foldN_succ, ← invN]
    show gI ((invN p k).set (ap p k) (k : Int)) (ap p x) = x
    have hl : (invN p k).length = N := by rw [invN_len, hp.len]
    by_cases e : x = k
    · subst e
      unfold gI
      rw [List.getElem?_set_self (by rw [hl]; exact hp.ap_lt (by omega))]; rfl
    · have hne : ap p k ≠ ap p x := fun h => e (hp.ap_inj (by omega) (by omega) h.symm)
      have := ih x (by omega)
      unfold gI at this ⊢
      rw [List.getElem?_set_ne hne]; exact this
theorem inv_ok {N : Nat} {p : List Int} (hp : PermL N p) : PermL N (invL p) ∧ ∀ x, x < N → ap (invL p) (ap p x) = x := by
  have hl : (invL p).length = N := by rw [invL, invN_len, hp.len]
  have hg : ∀ x, x < N → gI (invL p) (ap p x) = x := fun x hx => by
    rw [invL, hp.len]; exact invN_get hp N (Nat.le_refl _) x hx
  refine ⟨.of_surj hl (fun v hv => ?_) (fun v h0 h1 => ?_), fun x hx => by unfold ap; rw [show (gI p x).toNat = ap p x from rfl, hg x hx]; omega⟩
  · obtain ⟨y, hy, rfl⟩ := mem_gI hv
    obtain ⟨x, hx, e⟩ := hp.ap_surj (y := y) (by omega)
    rw [← e, hg x hx]; omega
  · have := hg v.toNat (by omega)
    rw [show v = gI (invL p) (ap p v.toNat) by rw [this]; omega]
    exact gI_mem (by rw [hl]; exact hp.ap_lt (by omega))
theorem inv_ap2 {N : Nat} {p : List Int} (hp : PermL N p) {y : Nat} (hy : y < N) : ap p (ap (invL p) y) = y := by
  obtain ⟨x, hx, e⟩ := hp.ap_surj hy
  rw [← e, (inv_ok hp).2 x hx]
theorem perm_ext {N : Nat} {p q : List Int} (hp : PermL N p) (hq : PermL N q) (h : ∀ x, x < N → ap p x = ap q x) : p = q := by
  refine list_ext_gI (by rw [hp.len, hq.len]) fun x hx => ?_
  rw [hp.len] at hx
  rw [hp.ap_eq hx, hq.ap_eq hx, h x hx]

theorem act_comp {N : Nat} {p q : List Int} (hp : PermL N p) (hq : PermL N q) (hN : 1 ≤ N) (k : Nat) (t : Int) : act (composeL p q) N k t = act p N k (act q N k t) := by
  rw [act, act, imgN_val, imgN_val, (act_dig hq hN k t).1, List.map_map]
  congr 1
  refine List.map_congr_left fun x hx => ?_
  have := digN_dg (n := N) (t := t) (by omega) k x hx
  exact comp_get (by rw [hq.len]; omega)
theorem act_id {N : Nat} (hN : 1 ≤ N) (k : Nat) {t : Int} (h0 : 0 ≤ t) (h1 : t < (N : Int) ^ k) : act (idL N) N k t = t := by
  rw [act, imgN_val]
  have : (digN N t k).map (fun x => gI (idL N) x.toNat) = digN N t k := by
    conv => rhs; rw [← List.map_id (digN N t k)]
    refine List.map_congr_left fun x hx => ?_
    have := digN_dg (n := N) (t := t) (by omega) k x hx
    rw [idL_get (by omega)]; simp; omega
  rw [this]; exact val_digN (by omega) k t h0 h1
/-- closed sets: an injection into itself is onto -/
theorem closed_onto {N : Nat} {p : List Int} (hp : PermL N p) {r : Rl} (g : GRel N r) (h : Closed p N r) {u : Int} (hu : u ∈ r.ts) : ∃ t, t ∈ r.ts ∧ act p N r.ar.toNat t = u := by
  have hperm : (r.ts.map (act p N r.ar.toNat)).Perm r.ts := nodup_perm (img_nodup hp g) (sorted_nodup g.srt) (fun x hx => by
    obtain ⟨t, ht, rfl⟩ := List.mem_map.1 hx
    exact h t ht) (by simp)
  obtain ⟨t, ht, e⟩ := List.mem_map.1 (hperm.mem_iff.2 hu)
  exact ⟨t, ht, e⟩

theorem SymP.id {sc : Sc} {N : Nat} {rs : List Rl} (gr : ∀ r, r ∈ rs → GRel N r) : SymP sc N rs (idL N) :=
  ⟨idL_perm N, fun x hx => by unfold ap; rw [idL_get hx]; rfl, fun r hr t ht => by
    have := (gr r hr).val t ht
    rw [act_id (GRel.pos (gr r hr) ht) _ this.1 this.2]; exact ht⟩
theorem SymP.comp {sc : Sc} {N : Nat} {rs : List Rl} (gr : ∀ r, r ∈ rs → GRel N r) {p q : List Int} (h : SymP sc N rs p) (k : SymP sc N rs q) : SymP sc N rs (composeL p q) :=
  ⟨comp_perm h.perm k.perm, fun x hx => by rw [comp_ap k.perm hx, h.keep _ (k.perm.ap_lt hx), k.keep x hx], fun r hr t ht => by
    rw [act_comp h.perm k.perm (GRel.pos (gr r hr) ht)]
    exact h.cl r hr _ (k.cl r hr t ht)⟩
theorem SymP.inv {sc : Sc} {N : Nat} {rs : List Rl} (gr : ∀ r, r ∈ rs → GRel N r) {p : List Int} (h : SymP sc N rs p) : SymP sc N rs (invL p) := by
  obtain ⟨h1, h2⟩ := inv_ok h.perm
  refine ⟨h1, fun x hx => ?_, fun r hr u hu => ?_⟩
  · have := h.keep (ap (invL p) x) (h1.ap_lt hx)
    rw [inv_ap2 h.perm hx] at this
    exact this.symm
  · obtain ⟨t, ht, rfl⟩ := closed_onto h.perm (gr r hr) (h.cl r hr) hu
    have hN := GRel.pos (gr r hr) ht
    have hv := (gr r hr).val t ht
    rw [← act_comp h1 h.perm hN]
    have : composeL (invL p) p = idL N := perm_ext (comp_perm h1 h.perm) (idL_perm N) fun x hx => by
      rw [comp_ap h.perm hx, h2 x hx]; unfold ap; rw [idL_get hx]; rfl
    rw [this, act_id hN _ hv.1 hv.2]; exact ht
end Go.Proofs.YtiophnmdopoeeaaGreat.L3

set_option linter.unusedVariables false
set_option linter.unusedSimpArgs false
set_option maxRecDepth 100000
namespace Go.Proofs.YtiophnmdopoeeaaGreat.L4
open Go Go.Ev Go.Proofs Go.Proofs.YtiophnmdopoeeaaGreat.C1 Go.Proofs.YtiophnmdopoeeaaGreat.C2 Go.Proofs.YtiophnmdopoeeaaGreat.C3 Go.Proofs.YtiophnmdopoeeaaGreat.C4 Go.Proofs.YtiophnmdopoeeaaGreat.C5 Go.Proofs.YtiophnmdopoeeaaGreat.C6 Go.Proofs.YtiophnmdopoeeaaGreat.C7 Go.Proofs.YtiophnmdopoeeaaGreat.C9 Go.Proofs.YtiophnmdopoeeaaGreat.C10 Go.Proofs.YtiophnmdopoeeaaGreat.C11 Go.Proofs.YtiophnmdopoeeaaGreat.C12 Go.Proofs.YtiophnmdopoeeaaGreat.C13 Go.Proofs.YtiophnmdopoeeaaGreat.C14 Go.Proofs.YtiophnmdopoeeaaGreat.C15 Go.Proofs.YtiophnmdopoeeaaGreat.C16 Go.Proofs.YtiophnmdopoeeaaGreat.C17 Go.Proofs.YtiophnmdopoeeaaGreat.C18 Go.Proofs.YtiophnmdopoeeaaGreat.C19 Go.Proofs.YtiophnmdopoeeaaGreat.C20 Go.Proofs.YtiophnmdopoeeaaGreat.C21 Go.Proofs.YtiophnmdopoeeaaGreat.C22 Go.Proofs.YtiophnmdopoeeaaGreat.C23 Go.Proofs.YtiophnmdopoeeaaGreat.C24 Go.Proofs.YtiophnmdopoeeaaGreat.C25 Go.Proofs.YtiophnmdopoeeaaGreat.C26 Go.Proofs.YtiophnmdopoeeaaGreat.C27 Go.Proofs.YtiophnmdopoeeaaGreat.C28 Go.Proofs.YtiophnmdopoeeaaGreat.C29 Go.Proofs.YtiophnmdopoeeaaGreat.C30 Go.Proofs.YtiophnmdopoeeaaGreat.C31 Go.Proofs.YtiophnmdopoeeaaGreat.C32 Go.Proofs.YtiophnmdopoeeaaGreat.C33 Go.Proofs.YtiophnmdopoeeaaGreat.C34 Go.Proofs.YtiophnmdopoeeaaGreat.C35 Go.Proofs.YtiophnmdopoeeaaGreat.L1 Go.Proofs.YtiophnmdopoeeaaGreat.L2 Go.Proofs.YtiophnmdopoeeaaGreat.L3

/-! ### signatures are multisets of words -/
theorem placeW_shift (w : List Int) : ∀ (m : Sig) (i : Nat), placeW w m i = (placeW w m 0).map (· + i)
  | [], i => rfl
  | p :: m, i => by
    rw [placeW, placeW]
    split
    · simp
    · rw [placeW_shift w m (i + 1), placeW_shift w m (0 + 1), Option.map_map]
      congr 1
      funext x
      simp; omega
theorem lookS_nil (w : List Int) : lookS [] w = 0 := rfl
theorem lookS_cons (p : List Int × Int) (m : Sig) (w : List Int) : lookS (p :: m) w = if w = p.1 then p.2 else lookS m w := by
  unfold lookS
  rw [placeW]
  by_cases h : w = p.1
  · rw [if_pos h, if_pos h]; rfl
  · rw [if_neg h, if_neg h, placeW_shift w m (0 + 1)]
    cases placeW w m 0 with
    | none => rfl
    | some i => simp
theorem bump_nil (w : List Int) : bump [] w = [(w, 1)] := rfl
theorem bump_cons (p : List Int × Int) (m : Sig) (w : List Int) : bump (p :: m) w = if w = p.1 then (w, p.2 + 1) :: m else p :: bump m w := by
  unfold bump
  rw [lookS_cons, placeW]
  split
  · rename_i h
    split at h
    · rename_i he
      simp only [Option.some.injEq] at h; subst h
      simp [he]
    · rename_i he
      rw [placeW_shift w m (0 + 1)] at h
      cases hq : placeW w m 0 with
      | none => rw [hq] at h; simp at h
      | some j =>
        rw [hq] at h
        simp at h; subst h
        simp [he, List.set_cons_succ]
  · rename_i h
    split at h
    · simp at h
    · rename_i he
      rw [placeW_shift w m (0 + 1)] at h
      cases hq : placeW w m 0 with
      | none => simp [he]
      | some j => rw [hq] at h; simp at h
theorem lookS_bump (w u : List Int) : ∀ m : Sig, lookS (bump m w) u = lookS m u + if u = w then 1 else 0
  | [] => by rw [bump_nil, lookS_cons, lookS_nil]; split <;> simp [*]
  | p :: m => by
    rw [bump_cons]
    by_cases h : w = p.1
    · rw [if_pos h, lookS_cons, lookS_cons]
      simp only
      by_cases h2 : u = w
      · rw [if_pos h2, if_pos (h2.trans h), if_pos h2]
      · rw [if_neg h2, if_neg (fun e => h2 (e.trans h.symm)), if_neg h2]; omega
    · rw [if_neg h, lookS_cons, lookS_cons, lookS_bump w u m]
      by_cases h2 : u = p.1
      · rw [if_pos h2, if_pos h2, if_neg (fun e => h (e.symm.trans h2))]; omega
      · rw [if_neg h2, if_neg h2]
/-- a well-made signature -/
structure SigW (m : Sig) : Prop where
  nd : (m.map Prod.fst).Nodup
  pos : ∀ p, p ∈ m → 1 ≤ p.2
theorem mem_bump (w : List Int) : ∀ (m : Sig) (u : List Int), u ∈ (bump m w).map Prod.fst ↔ u = w ∨ u ∈ m.map Prod.fst
  | [], u => by simp [bump_nil]
  | p :: m, u => by
    rw [bump_cons]
    by_cases h : w = p.1
    · rw [if_pos h]; simp [h]
    · rw [if_neg h, List.map_cons, List.map_cons, List.mem_cons, List.mem_cons, mem_bump w m u]
      constructor
      · rintro (h | h | h)
        · exact .inr (.inl h)
        · exact .inl h
        · exact .inr (.inr h)
      · rintro (h | h | h)
        · exact .inr (.inl h)
        · exact .inl h
        · exact .inr (.inr h)
theorem SigW.bump {w : List Int} : ∀ {m : Sig}, SigW m → SigW (bump m w)
  | [], h => by rw [bump_nil]; exact ⟨by simp, fun p hp => by simp at hp; subst hp; simp⟩
  | p :: m, h => by
    have hn := h.nd
    rw [List.map_cons, List.nodup_cons] at hn
    rw [bump_cons]
    by_cases e : w = p.1
    · rw [if_pos e]
      refine ⟨by rw [List.map_cons, List.nodup_cons, e]; exact hn, fun q hq => ?_⟩
      rcases List.mem_cons.1 hq with rfl | hq
      · have := h.pos p (by simp); simp; omega
      · exact h.pos q (by simp [hq])
    · rw [if_neg e]
      have ih := SigW.bump (w := w) (m := m) ⟨hn.2, fun q hq => h.pos q (by simp [hq])⟩
      refine ⟨?_, fun q hq => ?_⟩
      · rw [List.map_cons, List.nodup_cons, mem_bump]
        exact ⟨fun hc => hc.elim (fun h => e h.symm) hn.1, ih.nd⟩
      · rcases List.mem_cons.1 hq with rfl | hq
        · exact h.pos q (by simp)
        · exact ih.pos q hq
theorem lookS_mem : ∀ {m : Sig}, SigW m → ∀ p, p ∈ m → lookS m p.1 = p.2
  | [], _, p, hp => by simp at hp
  | q :: m, h, p, hp => by
    have hn := h.nd
    rw [List.map_cons, List.nodup_cons] at hn
    rw [lookS_cons]
    rcases List.mem_cons.1 hp with rfl | hp
    · rw [if_pos rfl]
    · rw [if_neg (fun e => hn.1 (by rw [← e]; exact List.mem_map.2 ⟨p, hp, rfl⟩))]
      exact lookS_mem ⟨hn.2, fun q hq => h.pos q (by simp [hq])⟩ p hp

def sigF (l : List (List Int)) (m : Sig) : Sig := l.foldl bump m
theorem sigF_look : ∀ (l : List (List Int)) (m : Sig) (u : List Int), lookS (sigF l m) u = lookS m u + (l.count u : Nat)
  | [], m, u => by simp [sigF]
  | w :: l, m, u => by
    have := sigF_look l (bump m w) u
    rw [lookS_bump] at this
    show lookS (sigF l (bump m w)) u = _
    rw [this, List.count_cons]
    by_cases h : u = w
    · subst h; simp; omega
    · have h2 : ¬ w = u := fun e => h e.symm
      simp [h, h2]
theorem sigF_mem : ∀ (l : List (List Int)) (m : Sig) (u : List Int), u ∈ (sigF l m).map Prod.fst ↔ u ∈ l ∨ u ∈ m.map Prod.fst
  | [], m, u => by simp [sigF]
  | w :: l, m, u => by
    show u ∈ (sigF l (bump m w)).map Prod.fst ↔ _
    rw [sigF_mem l, mem_bump, List.mem_cons]
    constructor
    · rintro (h | h | h)
      · exact .inl (.inr h)
      · exact .inl (.inl h)
      · exact .inr h
    · rintro ((h | h) | h)
      · exact .inr (.inl h)
      · exact .inl h
      · exact .inr (.inr h)
theorem sigF_w : ∀ (l : List (List Int)) {m : Sig}, SigW m → SigW (sigF l m)
  | [], m, h => h
  | w :: l, m, h => sigF_w l h.bump

theorem sigEq_iff (a b : List (List Int)) : sigEq (sigF a []) (sigF b []) = true ↔ a.Perm b := by
  have w0 : SigW [] := ⟨by simp, fun p hp => by simp at hp⟩
  have wa := sigF_w a w0
  have wb := sigF_w b w0
  have la : ∀ u, lookS (sigF a []) u = (a.count u : Nat) := fun u => by rw [sigF_look, lookS_nil]; simp
  have lb : ∀ u, lookS (sigF b []) u = (b.count u : Nat) := fun u => by rw [sigF_look, lookS_nil]; simp
  have ma : ∀ u, u ∈ (sigF a []).map Prod.fst ↔ u ∈ a := fun u => by rw [sigF_mem]; simp
  have mb : ∀ u, u ∈ (sigF b []).map Prod.fst ↔ u ∈ b := fun u => by rw [sigF_mem]; simp
  unfold sigEq
  rw [Bool.and_eq_true, decide_eq_true_eq, List.all_eq_true]
  constructor
  · rintro ⟨h1, h2⟩
    have hp : ((sigF a []).map Prod.fst).Perm ((sigF b []).map Prod.fst) := nodup_perm wa.nd wb.nd (fun u hu => by
      obtain ⟨p, hp, rfl⟩ := List.mem_map.1 hu
      have := h2 p hp
      rw [decide_eq_true_eq, lb] at this
      have hpos := wa.pos p hp
      rw [mb]
      exact List.count_pos_iff.1 (by omega)) (by simp [h1])
    rw [List.perm_iff_count]
    intro u
    by_cases hu : u ∈ a
    · obtain ⟨p, hp', rfl⟩ := List.mem_map.1 ((ma u).2 hu)
      have e1 := h2 p hp'
      rw [decide_eq_true_eq, lb] at e1
      have e2 := lookS_mem wa p hp'
      rw [la] at e2
      omega
    · have hu2 : ¬ u ∈ b := fun h => hu ((ma u).1 (hp.mem_iff.2 ((mb u).2 h)))
      rw [List.count_eq_zero.2 hu, List.count_eq_zero.2 hu2]
  · intro h
    have hp : ((sigF a []).map Prod.fst).Perm ((sigF b []).map Prod.fst) := (List.perm_ext_iff_of_nodup wa.nd wb.nd).2 fun u => by rw [ma, mb]; exact h.mem_iff
    refine ⟨by simpa using hp.length_eq, fun p hpm => ?_⟩
    rw [decide_eq_true_eq, lb, ← h.count_eq, ← la]
    exact lookS_mem wa p hpm
end Go.Proofs.YtiophnmdopoeeaaGreat.L4

set_option linter.unusedVariables false
set_option linter.unusedSimpArgs false
set_option maxRecDepth 100000
namespace Go.Proofs.YtiophnmdopoeeaaGreat.L5
open Go Go.Ev Go.Proofs Go.Proofs.YtiophnmdopoeeaaGreat.C1 Go.Proofs.YtiophnmdopoeeaaGreat.C2 Go.Proofs.YtiophnmdopoeeaaGreat.C3 Go.Proofs.YtiophnmdopoeeaaGreat.C4 Go.Proofs.YtiophnmdopoeeaaGreat.C5 Go.Proofs.YtiophnmdopoeeaaGreat.C6 Go.Proofs.YtiophnmdopoeeaaGreat.C7 Go.Proofs.YtiophnmdopoeeaaGreat.C9 Go.Proofs.YtiophnmdopoeeaaGreat.C10 Go.Proofs.YtiophnmdopoeeaaGreat.C11 Go.Proofs.YtiophnmdopoeeaaGreat.C12 Go.Proofs.YtiophnmdopoeeaaGreat.C13 Go.Proofs.YtiophnmdopoeeaaGreat.C14 Go.Proofs.YtiophnmdopoeeaaGreat.C15 Go.Proofs.YtiophnmdopoeeaaGreat.C16 Go.Proofs.YtiophnmdopoeeaaGreat.C17 Go.Proofs.YtiophnmdopoeeaaGreat.C18 Go.Proofs.YtiophnmdopoeeaaGreat.C19 Go.Proofs.YtiophnmdopoeeaaGreat.C20 Go.Proofs.YtiophnmdopoeeaaGreat.C21 Go.Proofs.YtiophnmdopoeeaaGreat.C22 Go.Proofs.YtiophnmdopoeeaaGreat.C23 Go.Proofs.YtiophnmdopoeeaaGreat.C24 Go.Proofs.YtiophnmdopoeeaaGreat.C25 Go.Proofs.YtiophnmdopoeeaaGreat.C26 Go.Proofs.YtiophnmdopoeeaaGreat.C27 Go.Proofs.YtiophnmdopoeeaaGreat.C28 Go.Proofs.YtiophnmdopoeeaaGreat.C29 Go.Proofs.YtiophnmdopoeeaaGreat.C30 Go.Proofs.YtiophnmdopoeeaaGreat.C31 Go.Proofs.YtiophnmdopoeeaaGreat.C32 Go.Proofs.YtiophnmdopoeeaaGreat.C33 Go.Proofs.YtiophnmdopoeeaaGreat.C34 Go.Proofs.YtiophnmdopoeeaaGreat.C35 Go.Proofs.YtiophnmdopoeeaaGreat.L1 Go.Proofs.YtiophnmdopoeeaaGreat.L2 Go.Proofs.YtiophnmdopoeeaaGreat.L3 Go.Proofs.YtiophnmdopoeeaaGreat.L4

/-! ### which words an atom meets -/
def WD (cls : List Int) (x : Int) (tup : List Int) : List Int := tup.map fun v => if v = x then 0 else gI cls v.toNat + 1
theorem WD_len (cls : List Int) (x : Int) (tup : List Int) : (WD cls x tup).length = tup.length := by simp [WD]
/-- the words of an atom in a relation -/
def wl (N : Nat) (cls : List Int) (r : Rl) (x : Int) : List (List Int) := (r.ts.filter fun t => decide (x ∈ digN N t r.ar.toNat)).map fun t => WD cls x (digN N t r.ar.toNat)

theorem wordN_eq (i : Int) (cls : List Int) (x : Int) (tup : List Int) (h3 : tup.length ≤ 3) : ∀ j, j ≤ tup.length → wordN i cls x tup j = i :: (WD cls x (tup.take j) ++ List.replicate (3 - j) 0)
  | 0, _ => rfl
  | j + 1, h => by
    have ih := wordN_eq i cls x tup h3 j (by omega)
    have hl : (WD cls x (tup.take j)).length = j := by rw [WD_len, List.length_take]; omega
    have e3 : 3 - j = (3 - (j + 1)) + 1 := by omega
    have ht : tup.take (j + 1) = tup.take j ++ [gI tup j] := by rw [List.take_add_one, List.getElem?_eq_getElem (by omega), gI_eq (by omega)]; rfl
    have hw : WD cls x (tup.take (j + 1)) = WD cls x (tup.take j) ++ [if gI tup j = x then 0 else gI cls (gI tup j).toNat + 1] := by
      rw [ht, WD, WD, List.map_append]; rfl
    rw [wordN, foldN_succ, ← wordN, ih, hw]
    generalize WD cls x (tup.take j) = l at *
    by_cases he : gI tup j = x
    · rw [if_pos he, if_pos he, e3, List.replicate_succ]; simp
    · rw [if_neg he, if_neg he, List.set_cons_succ, e3, List.replicate_succ, List.set_append_right _ _ (by omega), hl, Nat.sub_self, List.set_cons_zero]; simp

theorem firstIn_lt (v : Int) : ∀ (l : List Int) (k : Nat) (i : Int), k < l.length → gI l k = v → (firstIn (fun y => decide (y = v)) l i < i + k ↔ v ∈ l.take k) ∧ i ≤ firstIn (fun y => decide (y = v)) l i
  | [], k, i, h, _ => by simp at h
  | y :: l, 0, i, _, hv => by
    have : y = v := hv
    rw [firstIn, if_pos (by simpa using this)]
    simp
  | y :: l, k + 1, i, h, hv => by
    have ih := firstIn_lt v l k (i + 1) (by simpa using h) (by simpa [gI] using hv)
    rw [firstIn]
    by_cases e : y = v
    · rw [if_pos (by simpa using e)]
      refine ⟨⟨fun _ => by simp [e], fun _ => by omega⟩, by omega⟩
    · rw [if_neg (by simpa using e), List.take_succ_cons, List.mem_cons, ← ih.1]
      refine ⟨⟨fun h => .inr (by omega), fun h => ?_⟩, by omega⟩
      rcases h with h | h
      · exact absurd h.symm e
      · omega

theorem gS_set_self {ms : List Sig} {i : Nat} (h : i < ms.length) (m : Sig) : gS (ms.set i m) i = m := by unfold gS; rw [List.getElem?_set_self h]; rfl
theorem gS_set_ne {ms : List Sig} {i j : Nat} (h : i ≠ j) (m : Sig) : gS (ms.set i m) j = gS ms j := by unfold gS; rw [List.getElem?_set_ne h]
theorem tupN_len (i : Int) (cls tup : List Int) (ms : List Sig) : ∀ k, (tupN i cls tup ms k).length = ms.length
  | 0 => rfl
  | k + 1 => by
    rw [tupN, foldN_succ, ← tupN, tupStep]
    split
    · exact tupN_len i cls tup ms k
    · rw [List.length_set]; exact tupN_len i cls tup ms k
theorem tupN_get (N : Nat) (i : Int) (cls tup : List Int) (ms : List Sig) (hd : Dg N tup) (hm : ms.length = N) (x : Nat) (hx : x < N) : ∀ k, k ≤ tup.length →
    gS (tupN i cls tup ms k) x = if (x : Int) ∈ tup.take k then bump (gS ms x) (wordN i cls x tup tup.length) else gS ms x
  | 0, _ => rfl
  | k + 1, hk => by
    have ih := tupN_get N i cls tup ms hd hm x hx k (by omega)
    have hkl : k < tup.length := by omega
    have hv := hd _ (gI_mem hkl)
    have hf := (firstIn_lt (gI tup k) tup k 0 hkl rfl).1
    have ht : tup.take (k + 1) = tup.take k ++ [gI tup k] := by rw [List.take_add_one, List.getElem?_eq_getElem hkl, gI_eq hkl]; rfl
    have hmem : (x : Int) ∈ tup.take (k + 1) ↔ (x : Int) ∈ tup.take k ∨ (x : Int) = gI tup k := by rw [ht, List.mem_append, List.mem_singleton]
    rw [tupN, foldN_succ, ← tupN, tupStep]
    by_cases hin : gI tup k ∈ tup.take k
    · rw [if_pos (by have := hf.2 hin; omega), ih]
      have : (x : Int) ∈ tup.take (k + 1) ↔ (x : Int) ∈ tup.take k := by
        rw [hmem]; exact ⟨fun h => h.elim id (fun e => by rw [e]; exact hin), .inl⟩
      simp only [this]
    · rw [if_neg (fun h => hin (hf.1 (by omega)))]
      by_cases he : (x : Int) = gI tup k
      · have hxi : (gI tup k).toNat = x := by omega
        have hnx : ¬ (x : Int) ∈ tup.take k := by rw [he]; exact hin
        rw [if_neg hnx] at ih
        rw [hxi, gS_set_self (by rw [tupN_len, hm]; exact hx), ih, ← he, if_pos (hmem.2 (.inr he))]
      · rw [gS_set_ne (by omega), ih]
        have : (x : Int) ∈ tup.take (k + 1) ↔ (x : Int) ∈ tup.take k := by
          rw [hmem]; exact ⟨fun h => h.elim id (fun e => absurd e he), .inl⟩
        simp only [this]

/-- the words that a relation adds to an atom's signature -/
def evR (N : Nat) (cls : List Int) (i : Nat) (r : Rl) (x : Nat) (j : Nat) : List (List Int) := ((r.ts.take j).filter fun t => decide ((x : Int) ∈ digN N t r.ar.toNat)).map fun t => wordN i cls x (digN N t r.ar.toNat) r.ar.toNat
theorem relN_len (n i : Int) (cls : List Int) (r : Rl) (ms : List Sig) : ∀ j, (relN n i cls r ms j).length = ms.length
  | 0 => rfl
  | j + 1 => by rw [relN, foldN_succ, ← relN, tupN_len]; exact relN_len n i cls r ms j
theorem relN_get (N : Nat) (cls : List Int) (i : Nat) (r : Rl) (g : GRel N r) (ms : List Sig) (hm : ms.length = N) (x : Nat) (hx : x < N) : ∀ j, j ≤ r.ts.length → gS (relN N i cls r ms j) x = sigF (evR N cls i r x j) (gS ms x)
  | 0, _ => rfl
  | j + 1, hj => by
    have ih := relN_get N cls i r g ms hm x hx j (by omega)
    have hjl : j < r.ts.length := by omega
    have hN := GRel.pos g (gI_mem hjl)
    have ht : r.ts.take (j + 1) = r.ts.take j ++ [gI r.ts j] := by rw [List.take_add_one, List.getElem?_eq_getElem hjl, gI_eq hjl]; rfl
    have hl := digN_len N (gI r.ts j) r.ar.toNat
    have hg := tupN_get N i cls (digN N (gI r.ts j) r.ar.toNat) (relN N i cls r ms j) (digN_dg (by omega) _) (by rw [relN_len]; exact hm) x hx r.ar.toNat (by omega)
    rw [List.take_of_length_le (by omega), hl] at hg
    rw [relN, foldN_succ, ← relN]
    show gS (tupN i cls (digN N (gI r.ts j) r.ar.toNat) (relN N i cls r ms j) r.ar.toNat) x = _
    rw [hg, ih]
    unfold evR
    rw [ht, List.filter_append, List.map_append]
    unfold sigF
    rw [List.foldl_append]
    by_cases h : (x : Int) ∈ digN N (gI r.ts j) r.ar.toNat
    · rw [if_pos h]; simp [h]
    · rw [if_neg h]; simp [h]
def evs (N : Nat) (cls : List Int) (rs : List Rl) (x : Nat) (i : Nat) : List (List Int) := (List.range i).flatMap fun q => evR N cls q (gR rs q) x (gR rs q).ts.length
theorem sigsN_len' (n : Int) (cls : List Int) (rs : List Rl) : ∀ i, (sigsN n cls rs i).length = cls.length
  | 0 => by simp [sigsN, foldN]
  | i + 1 => by rw [sigsN, foldN_succ, ← sigsN, relN_len]; exact sigsN_len' n cls rs i
theorem sigsN_get (N : Nat) (cls : List Int) (hc : cls.length = N) (rs : List Rl) (g : ∀ r, r ∈ rs → GRel N r) (x : Nat) (hx : x < N) : ∀ i, i ≤ rs.length → gS (sigsN N cls rs i) x = sigF (evs N cls rs x i) []
  | 0, _ => by simp [sigsN, foldN, gS, hc, hx, evs, sigF]
  | i + 1, hi => by
    have ih := sigsN_get N cls hc rs g x hx i (by omega)
    have hil : i < rs.length := by omega
    have gr : GRel N (gR rs i) := by rw [gR_eq hil]; exact g _ (List.getElem_mem hil)
    rw [sigsN, foldN_succ, ← sigsN]
    show gS (relN N i cls (gR rs i) (sigsN N cls rs i) (gR rs i).ts.length) x = _
    rw [relN_get N cls i (gR rs i) gr (sigsN N cls rs i) (by rw [sigsN_len', hc]) x hx _ (Nat.le_refl _), ih]
    unfold evs
    rw [List.range_succ, List.flatMap_append]
    unfold sigF
    rw [List.foldl_append]
    simp

def padW (i : Nat) (k : Nat) (w : List Int) : List Int := (i : Int) :: (w ++ List.replicate (3 - k) 0)
theorem evR_eq (N : Nat) (cls : List Int) (i : Nat) (r : Rl) (g : GRel N r) (x : Nat) : evR N cls i r x r.ts.length = (wl N cls r x).map (padW i r.ar.toNat) := by
  unfold evR wl
  rw [List.take_of_length_le (Nat.le_refl _), List.map_map]
  refine List.map_congr_left fun t ht => ?_
  have hl := digN_len N t r.ar.toNat
  have := g.ar3
  have h := wordN_eq i cls x (digN N t r.ar.toNat) (by omega) r.ar.toNat (by omega)
  rw [List.take_of_length_le (by omega)] at h
  exact h
theorem flatMap_one (n i : Nat) (L : List (List Int)) (h : i < n) : ((List.range n).flatMap fun j => if j = i then L else []) = L := by
  induction n with
  | zero => omega
  | succ n ih =>
    rw [List.range_succ, List.flatMap_append]
    by_cases e : i = n
    · subst e
      have : ((List.range i).flatMap fun j => if j = i then L else []) = [] := by
        rw [List.flatMap_eq_nil_iff]
        intro j hj
        rw [if_neg (by simp at hj; omega)]
      rw [this]; simp
    · rw [ih (by omega)]
      have : ¬ n = i := fun h => e h.symm
      simp [this]
theorem flatMap_perm {α β : Type} : ∀ (l : List α) (f g : α → List β), (∀ a, a ∈ l → (f a).Perm (g a)) → (l.flatMap f).Perm (l.flatMap g)
  | [], f, g, _ => .refl _
  | a :: l, f, g, h => by
    rw [List.flatMap_cons, List.flatMap_cons]
    exact (h a (by simp)).append (flatMap_perm l f g fun b hb => h b (by simp [hb]))
/-- equal signatures: the same words in each relation -/
def AlikeW (N : Nat) (rs : List Rl) (cls : List Int) (x y : Nat) : Prop := ∀ r, r ∈ rs → (wl N cls r x).Perm (wl N cls r y)
theorem sigAl_iff (N : Nat) (cls : List Int) (hc : cls.length = N) (rs : List Rl) (g : ∀ r, r ∈ rs → GRel N r) {x y : Nat} (hx : x < N) (hy : y < N) : sigAl N rs cls x y = true ↔ AlikeW N rs cls x y := by
  unfold sigAl sigsOf
  rw [sigsN_get N cls hc rs g x hx rs.length (Nat.le_refl _), sigsN_get N cls hc rs g y hy rs.length (Nat.le_refl _), sigEq_iff]
  have ev : ∀ z : Nat, evs N cls rs z rs.length = (List.range rs.length).flatMap fun q => (wl N cls (gR rs q) z).map (padW q (gR rs q).ar.toNat) := by
    intro z
    unfold evs
    have : ∀ (l : List Nat), (∀ q, q ∈ l → q < rs.length) → (l.flatMap fun q => evR N cls q (gR rs q) z (gR rs q).ts.length) = l.flatMap fun q => (wl N cls (gR rs q) z).map (padW q (gR rs q).ar.toNat) := by
      intro l
      induction l with
      | nil => intro _; rfl
      | cons q l ih =>
        intro h
        have hq := h q (by simp)
        rw [List.flatMap_cons, List.flatMap_cons, ih (fun a ha => h a (by simp [ha])), evR_eq N cls q (gR rs q) (by rw [gR_eq hq]; exact g _ (List.getElem_mem hq))]
    exact this _ (fun q hq => by simpa using hq)
  rw [ev, ev]
  constructor
  · intro h r hr
    obtain ⟨i, hi, rfl⟩ := List.mem_iff_getElem.1 hr
    have hf := h.filter (fun w => decide (w.head? = some (i : Int)))
    have key : ∀ z : Nat, (((List.range rs.length).flatMap fun q => (wl N cls (gR rs q) z).map (padW q (gR rs q).ar.toNat)).filter fun w => decide (w.head? = some (i : Int))) = (wl N cls (gR rs i) z).map (padW i (gR rs i).ar.toNat) := by
      intro z
      rw [List.filter_flatMap]
      have : (fun q => ((wl N cls (gR rs q) z).map (padW q (gR rs q).ar.toNat)).filter fun w => decide (w.head? = some (i : Int))) = fun q => if q = i then (wl N cls (gR rs i) z).map (padW i (gR rs i).ar.toNat) else [] := by
        funext q
        by_cases e : q = i
        · subst e
          rw [if_pos rfl, List.filter_eq_self]
          intro w hw
          obtain ⟨u, _, rfl⟩ := List.mem_map.1 hw
          simp [padW]
        · rw [if_neg e, List.filter_eq_nil_iff]
          intro w hw
          obtain ⟨u, _, rfl⟩ := List.mem_map.1 hw
          simp [padW]; omega
      rw [this]
      exact flatMap_one _ i _ hi
    rw [key, key, gR_eq hi] at hf
    have hm := hf.map fun w => (w.drop 1).take rs[i].ar.toNat
    have back : ∀ z : Nat, ((wl N cls rs[i] z).map (padW i rs[i].ar.toNat)).map (fun w => (w.drop 1).take rs[i].ar.toNat) = wl N cls rs[i] z := by
      intro z
      rw [List.map_map]
      conv => rhs; rw [← List.map_id (wl N cls rs[i] z)]
      refine List.map_congr_left fun w hw => ?_
      obtain ⟨t, _, rfl⟩ := List.mem_map.1 hw
      have hl : (WD cls z (digN N t rs[i].ar.toNat)).length = rs[i].ar.toNat := by rw [WD_len, digN_len]
      simp only [padW, Function.comp_apply, List.drop_succ_cons, List.drop_zero, id_eq]
      rw [List.take_append_of_le_length (by omega), List.take_of_length_le (by omega)]
    rw [back, back] at hm
    exact hm
  · intro h
    refine flatMap_perm _ _ _ fun q hq => ?_
    have hq : q < rs.length := by simpa using hq
    rw [gR_eq hq]
    exact (h _ (List.getElem_mem hq)).map _
end Go.Proofs.YtiophnmdopoeeaaGreat.L5
