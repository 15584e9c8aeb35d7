/- Texts of a claim, packed. -/
import Derived.Shelf.Sort.Plain
import Derived.Ground.Names2Prog
import Derived.Shelf.Slices.CompactI
import Derived.Shelf.Slices.In.SortNone
import Derived.Lib.RowBridge
import Derived.Test.YtjonnfmoocijlaaD22
set_option linter.all false
namespace Go.Proofs.Ytjonnfmoocijlaa.P
open Go.RowKit Go.Proofs.YtjonnfmoocijlaaKW.PrintWords
def Ph (w : Nat) (tn : Int) (ms : List Mv) : Prop := ∀ m ∈ ms, 0 ≤ m.f0 ∧ m.f0 < tn ∧ 0 ≤ m.f1 ∧ m.f1 < (w : Int)
def Aw (L : List (List Int)) (w n r : Nat) (ms : List Mv) (g : Int) : List Int := (List.range w).map fun i : Nat => (Ed L w n r ms g (i : Int)).1
theorem O6 {L : List (List Int)} {w n r : Nat} {ms ms' : List Mv} {g i : Int} (h : ms.find? (Gm g i) = ms'.find? (Gm g i)) : Ed L w n r ms g i = Ed L w n r ms' g i := by unfold Ed; rw [h]
section
variable {d : Int} {L : List (List Int)} {w n r : Nat} {T S : Int} (H : Lo d L w n r T S)
include H
theorem Lo.O7 (ms : List Mv) (a b : Int) : Aq.f d L T S ms a b = some (w : Int) := by
 unfold Aq.f
 rw [if_pos (by have := H.row0.2; omega), H.row0.1]
theorem Lo.idx (g : Int) (h0 : 0 ≤ g) (h1 : g < T * n) : Int.tmod g (L.length : Int) = ((g.toNat % n : Nat) : Int) ∧ wrap64 (Int.tdiv g (L.length : Int)) = ((g.toNat / n : Nat) : Int) ∧ g.toNat / n ≤ 105 := by
 have h2 := H.tn
 obtain ⟨k, rfl⟩ : ∃ k : Nat, g = (k : Int) := ⟨g.toNat, by omega⟩
 rw [H.ok.len, Int.toNat_natCast]
 have h3 : k / n ≤ 105 := Nat.le_trans (Nat.div_le_self _ _) (by omega)
 refine ⟨by rw [Int.tmod_eq_emod_of_nonneg (by omega)]; exact (Int.natCast_emod k n).symm, ?_, h3⟩
 rw [Int.tdiv_eq_ediv_of_nonneg (by omega), ← Int.natCast_ediv k n]
 generalize k / n = q at h3
 exact ww (by omega) (by omega)
theorem Lo.col (g : Int) (h0 : 0 ≤ g) (h1 : g < T * n) (i : Nat) (hi : i < w) : Int.tmod (wrap64 ((i : Int) + wrap64 (Int.tdiv g (L.length : Int)))) (w : Int) = (((i + g.toNat / n) % w : Nat) : Int) := by
 obtain ⟨_, e2, e3⟩ := H.idx g h0 h1
 have h5 := H.ok.w1
 rw [e2]
 generalize g.toNat / n = q at e3
 rw [ww (by omega) (by omega), Int.tmod_eq_emod_of_nonneg (by omega), show (i : Int) + (q : Int) = ((i + q : Nat) : Int) by omega]
 exact (Int.natCast_emod _ w).symm
theorem Lo.RO (g : Int) (h0 : 0 ≤ g) (h1 : g < T * n) : yT L (Int.tmod g (L.length : Int)) = L.getD (g.toNat % n) [] ∧ (L.getD (g.toNat % n) []).length = w ∧ g.toNat % n < L.length := by
 obtain ⟨e1, _⟩ := H.idx g h0 h1
 have h3 := H.ok.n1
 have h4 : g.toNat % n < L.length := by rw [H.ok.len]; exact Nat.mod_lt _ (by omega)
 refine ⟨by rw [e1]; unfold yT; rw [Int.toNat_natCast], ?_, h4⟩
 rw [getD_at _ _ _ h4]
 exact H.ok.width _ (List.getElem_mem h4)
theorem Vp (ms : List Mv) (hs : Sorted ms) (hin : Ph w (T * n) ms) (g : Int) : Aw L w n r (ms.take (DI ms g 0)) g = (List.range w).map fun i => (ER L w n r g.toNat i).1 := by
  unfold Aw
  refine List.map_congr_left fun i hi => ?_
  unfold Ed
  rw [show (ms.take (DI ms g 0)).find? (Gm g (i : Int)) = none from ?_]
  · simp
  · rw [List.find?_eq_none]
    intro m hm h
    rw [De] at h
    obtain ⟨j, hj, rfl⟩ := List.getElem_of_mem hm
    rw [List.length_take] at hj
    rw [List.getElem_take] at h
    have h1 := (GQ ms hs g 0 j (by omega)).1 (by omega)
    have h2 := hin _ (List.getElem_mem (show j < ms.length by omega))
    unfold Ahead at h1
    omega
theorem Vq (ms : List Mv) (hs : Sorted ms) (g : Int) (j : Nat) (hj : j < ms.length) (hg : ms[j].f0 = g) (hi : 0 ≤ ms[j].f1 ∧ ms[j].f1 < (w : Int)) :
    (Aw L w n r (ms.take j) g).set ms[j].f1.toNat ms[j].f2.f0 = Aw L w n r (ms.take (j + 1)) g := by
  apply List.ext_getElem
  · simp [Aw]
  · intro i h1 h2
    simp only [Aw, List.length_map, List.length_range] at h2
    rw [List.getElem_set]
    simp only [Aw, List.getElem_map, List.getElem_range]
    rw [List.take_succ_eq_append_getElem hj]
    unfold Ed
    rw [List.find?_append]
    by_cases he : ms[j].f1.toNat = i
    · rw [if_pos he]
      have hn : (ms.take j).find? (Gm g (i : Int)) = none := by
        rw [List.find?_eq_none]
        intro m hm h
        rw [De] at h
        obtain ⟨q, hq, rfl⟩ := List.getElem_of_mem hm
        rw [List.length_take] at hq
        rw [List.getElem_take] at h
        have h3 := (List.pairwise_iff_getElem.1 hs) q j (by omega) hj (by omega)
        unfold Ahead at h3
        omega
      rw [hn, List.find?_cons_of_pos (by rw [De]; omega)]
      rfl
    · rw [if_neg he, List.find?_cons_of_neg (by rw [De]; omega)]
      simp
theorem X3 (ms : List Mv) (hs : Sorted ms) (g : Int) (j : Nat) (hj : j ≤ ms.length) (ha : ∀ q (hq : q < ms.length), j ≤ q → g < ms[q].f0) : Aw L w n r (ms.take j) g = Aw L w n r ms g := by
 unfold Aw
 refine List.map_congr_left fun i _ => ?_
 rw [O6]
 conv => rhs; rw [← List.take_append_drop j ms]
 rw [List.find?_append, show (ms.drop j).find? (Gm g (i : Int)) = none from ?_, Option.or_none]
 rw [List.find?_eq_none]
 intro m hm h
 rw [De] at h
 obtain ⟨q, hq, rfl⟩ := List.getElem_of_mem hm
 rw [List.length_drop] at hq
 rw [List.getElem_drop] at h
 have := ha (j + q) (by omega) (by omega)
 omega
theorem Lo.Yl (ms : List Mv) (hs : Sorted ms) (hl : ms.length ≤ 1000) (hin : Ph w (T * n) ms) (a b g : Int) (h0 : 0 ≤ g) (h1 : g < T * n) : Ev (fun k => yA.f k d L T S ms a b g) (Aw L w n r ms g) := by
  have hw5 := H.ok.w1
  obtain ⟨e1, e2, e3⟩ := H.idx g h0 h1
  obtain ⟨f1, f2, f3⟩ := H.RO g h0 h1
  have hd1 : ∀ t j : Nat, ms.length - j = t → DI ms g 0 ≤ j → j ≤ ms.length → Ev (fun k => yA.l1 k g (Aw L w n r (ms.take j) g) (j : Int) d L T S ms a b) (Aw L w n r ms g) := by
    intro t
    induction t with
    | zero =>
      intro j ht hp hj
      refine evs (fun k => by rw [yA.l1]) (C8 (by omega) (GX ?_))
      rw [List.take_of_length_le (by omega)]
    | succ t ih =>
      intro j ht hp hj
      have hlt : j < ms.length := by omega
      have hna := fun h => Nat.not_lt.2 hp ((GQ ms hs g 0 j hlt).2 h)
      have hm := hin _ (List.getElem_mem hlt)
      refine evs (fun k => by rw [yA.l1]) (AP (by omega) (AP (by omega) ?_))
      rw [FO ms j hlt]
      by_cases c : ms[j].f0 = g
      · refine AP c (AP (by omega) (AP (by simp [Aw]; omega) ?_))
        rw [Vq H ms hs g j hlt c ⟨hm.2.2.1, hm.2.2.2⟩, ww (by omega) (by omega), show (j : Int) + 1 = ((j + 1 : Nat) : Int) by omega]
        exact ih (j + 1) (by omega) (by omega) (by omega)
      · refine C8 c (GX (X3 H ms hs g j hj fun q hq hjq => ?_))
        have h5 : g < ms[j].f0 := by
          have : ¬ Ahead ms[j] g 0 := hna
          unfold Ahead at this
          omega
        rcases Nat.eq_or_lt_of_le hjq with rfl | h6
        · exact h5
        · have h7 := (List.pairwise_iff_getElem.1 hs) j q hlt hq h6
          unfold Ahead at h7
          omega
  have hd0 : ∀ t i : Nat, w - i = t → i ≤ w → Ev (fun k => yA.l0 k g (L.length : Int) (L.getD (g.toNat % n) []) ((List.range i).map fun i => (ER L w n r g.toNat i).1) (w : Int) (i : Int) d L T S ms a b) (Aw L w n r ms g) := by
    intro t
    induction t with
    | zero =>
      intro i ht hi
      refine evs (fun k => by rw [yA.l0]) (C8 (by omega) (DL (Io ms hs hl g 0) ?_))
      have := hd1 _ (DI ms g 0) rfl (Nat.le_refl _) (O4 _ _ _)
      rw [Vp H ms hs hin g] at this
      obtain rfl : i = w := by omega
      exact this
    | succ t ih =>
      intro i ht hi
      refine evs (fun k => by rw [yA.l0]) (AP (by omega) (C8 (by omega) (Kv (H.O7 ms a b) (C8 (show ¬ (w : Int) = 0 by omega) ?_))))
      rw [H.col g h0 h1 i (by omega)]
      have hmod : (i + g.toNat / n) % w < w := Nat.mod_lt _ (by omega)
      have e : rd (L.getD (g.toNat % n) []) (((i + g.toNat / n) % w : Nat) : Int) = (ER L w n r g.toNat i).1 := by
        unfold rd ER
        rw [Int.toNat_natCast]
      rw [e]
      generalize (i + g.toNat / n) % w = q at hmod
      refine AP (by omega) (AP (by omega) (AP (by simp; omega) ?_))
      have := ih (i + 1) (by omega) (by omega)
      rw [List.range_succ, List.map_append, List.map_singleton] at this
      rw [ww (by omega) (by omega), show (i : Int) + 1 = ((i + 1 : Nat) : Int) by omega]
      exact this
  unfold yA.f
  rw [f1]
  rw [e1] at *
  generalize g.toNat % n = q at *
  refine C8 (by omega) (AP (by omega) (AP (by omega) (Kv (H.O7 ms a b) ?_)))
  exact hd0 _ 0 rfl (Nat.zero_le _)
end
end Go.Proofs.Ytjonnfmoocijlaa.P
namespace Go.Proofs
open Go.Shelf
def Try.Pi : Go.Shelf.Ren := ⟨fun | 189 => 64 | 125 => 74 | 257 => 81 | 128 => 91 | 129 => 92 | 294 => 94 | 295 => 95 | 296 => 96 | 297 => 97 | 298 => 98 | 299 => 99 | 216 => 100 | 300 => 101 | 301 => 102 | 328 => 109 | 329 => 105 | 330 => 106 | 331 => 110 | 332 => 111 | 215 => 75 | 343 => 113 | n => n, fun | 28 => 63 | 3 => 3 | 46 => 108 | 0 => 0 | 51 => 131 | 53 => 133 | 4 => 4 | 183 => 125 | 182 => 124 | 131 => 78 | 5 => 5 | 9 => 9 | 218 => 141 | 222 => 145 | 228 => 149 | 229 => 117 | n => n, fun | n => n⟩
theorem Try.RP : Go.Proofs.Lays.n189 Try.prog Try.Pi := {
 mixed := by kernel_rfl
 f125 := Try.func74.trans (congrArg some (by kernel_rfl))
 f128 := Try.func91.trans (congrArg some (by kernel_rfl))
 f129 := Try.func92.trans (congrArg some (by kernel_rfl))
 f189 := Try.func64.trans (congrArg some (by kernel_rfl))
 f215 := Try.func75.trans (congrArg some (by kernel_rfl))
 f216 := Try.func100.trans (congrArg some (by kernel_rfl))
 f257 := Try.func81.trans (congrArg some (by kernel_rfl))
 f294 := Try.func94.trans (congrArg some (by kernel_rfl))
 f295 := Try.func95.trans (congrArg some (by kernel_rfl))
 f296 := Try.func96.trans (congrArg some (by kernel_rfl))
 f297 := Try.func97.trans (congrArg some (by kernel_rfl))
 f298 := Try.func98.trans (congrArg some (by kernel_rfl))
 f299 := Try.func99.trans (congrArg some (by kernel_rfl))
 f300 := Try.func101.trans (congrArg some (by kernel_rfl))
 f301 := Try.func102.trans (congrArg some (by kernel_rfl))
 f328 := Try.func109.trans (congrArg some (by kernel_rfl))
 f329 := Try.func105.trans (congrArg some (by kernel_rfl))
 f330 := Try.func106.trans (congrArg some (by kernel_rfl))
 f331 := Try.func110.trans (congrArg some (by kernel_rfl))
 f332 := Try.func111.trans (congrArg some (by kernel_rfl))
 f343 := Try.func113.trans (congrArg some (by kernel_rfl))
 t0 := Try.underlying0
 a0 := Try.isAgg0
 z0 := Try.sizeOf0
 v0 := Try.zeroValue0
 t3 := Try.underlying3
 a3 := Try.isAgg3
 z3 := Try.sizeOf3
 v3 := Try.zeroValue3
 t4 := Try.underlying4
 a4 := Try.isAgg4
 z4 := Try.sizeOf4
 v4 := Try.zeroValue4
 t5 := Try.underlying5
 a5 := Try.isAgg5
 z5 := Try.sizeOf5
 v5 := Try.zeroValue5
 t9 := Try.underlying9
 a9 := Try.isAgg9
 z9 := Try.sizeOf9
 v9 := Try.zeroValue9
 t28 := Try.underlying63
 a28 := Try.isAgg63
 z28 := Try.sizeOf63
 v28 := Try.zeroValue63
 t46 := Try.underlying108
 a46 := Try.isAgg108
 z46 := Try.sizeOf108
 v46 := Try.zeroValue108
 t51 := Try.underlying131
 a51 := Try.isAgg131
 z51 := Try.sizeOf131
 v51 := Try.zeroValue131
 t53 := Try.underlying133
 a53 := Try.isAgg133
 z53 := Try.sizeOf133
 v53 := Try.zeroValue133
 t131 := Try.underlying78
 a131 := Try.isAgg78
 z131 := Try.sizeOf78
 v131 := Try.zeroValue78
 t182 := Try.underlying124
 a182 := Try.isAgg124
 z182 := Try.sizeOf124
 v182 := Try.zeroValue124
 t183 := Try.underlying125
 a183 := Try.isAgg125
 z183 := Try.sizeOf125
 v183 := Try.zeroValue125
 t218 := Try.underlying141
 a218 := Try.isAgg141
 z218 := Try.sizeOf141
 v218 := Try.zeroValue141
 t222 := Try.underlying145
 a222 := Try.isAgg145
 z222 := Try.sizeOf145
 v222 := Try.zeroValue145
 t228 := Try.underlying149
 a228 := Try.isAgg149
 z228 := Try.sizeOf149
 v228 := Try.zeroValue149
 t229 := Try.underlying117
 a229 := Try.isAgg117
 z229 := Try.sizeOf117
 v229 := Try.zeroValue117 }
open Go.Sort Go.RowKit in
theorem Try.slices_Sort_int (blk off cap : Nat) (zs : List Int) (w : World) (hH : Holds (Value.int .i64) w blk off zs.toArray) (hblk : blk < w.heap.size) (hsz : zs.length < 4611686018427387904) :
 Calls Try.prog 64 #[.slice (some ⟨blk, off, none⟩) zs.length cap] w fun e w' =>
  e = .returned (.tuple #[]) ∧ ∃ n os, w' = grow (putRow (Value.int .i64) (Sort.ahead w n) blk off (zs.mergeSort fun x y => decide (x ≤ y)).toArray) os := Any.slices_Sort_int Try.RP blk off cap zs w hH hblk hsz
def Try.MB : Go.Shelf.Ren := ⟨fun | 20 => 71 | n => n, fun | 22 => 63 | 3 => 3 | 4 => 4 | 0 => 0 | n => n, fun | n => n⟩
theorem Try.Ng : Go.Proofs.Lays2.n20 Try.prog Try.MB := {
 mixed := by kernel_rfl
 f20 := Try.func71.trans (congrArg some (by kernel_rfl))
 t0 := Try.underlying0
 a0 := Try.isAgg0
 z0 := Try.sizeOf0
 v0 := Try.zeroValue0
 t3 := Try.underlying3
 a3 := Try.isAgg3
 z3 := Try.sizeOf3
 v3 := Try.zeroValue3
 t4 := Try.underlying4
 a4 := Try.isAgg4
 z4 := Try.sizeOf4
 v4 := Try.zeroValue4
 t22 := Try.underlying63
 a22 := Try.isAgg63
 z22 := Try.sizeOf63
 v22 := Try.zeroValue63
 i3 := by kernel_rfl }
open Go.RowKit Go.Lib Go.Sort in
theorem Try.slices_Compact_int (blk off cap : Nat) (zs : List Int) (w : World) (hH : Holds (Value.int .i64) w blk off zs.toArray) (hsz : zs.length ≤ 9223372036854775807) (hcap : zs.length ≤ cap) :
 Calls Try.prog 71 #[.slice (some ⟨blk, off, none⟩) zs.length cap] w fun e w' => e = .returned (.slice (some ⟨blk, off, none⟩) (Lib.compact zs).length cap) ∧ ∃ q, w' = putRow (Value.int .i64) (Sort.ahead w q) blk off (Lib.compact zs ++ List.replicate (zs.length - (Lib.compact zs).length) 0).toArray := Any.slices_Compact_int Try.Ng blk off cap zs w hH hsz hcap
open Go.RowKit Go.Lib Go.Sort in
theorem Try.slices_Compact_int_empty (a : Option Addr) (cap : Nat) (w : World) :
 Calls Try.prog 71 #[.slice a 0 cap] w fun e w' => e = .returned (.slice a 0 cap) ∧ w' = w := Any.slices_Compact_int_empty Try.Ng a cap w
end Go.Proofs
namespace Go.Proofs.Ytjonnfmoocijlaa.P
open Go.RowKit Go.Proofs.YtjonnfmoocijlaaKW.PrintWords Go.Proofs.YtjonnfmoocijlaaKW.PrintLast Go.Proofs.YtjonnfmoocijlaaKW.PrintMore
theorem Jq {w : World} {base : Nat} {ok : Nat → Prop} {u : Value} {l : List Int} (h : Kd.R (Kd.int .i64) 3 w base ok u l) :
    (u = .slice none 0 0 ∧ l = []) ∨ ∃ g cap cur, u = .slice (some ⟨g, 0, none⟩) l.length cap ∧ ok g ∧ base ≤ g ∧ w.heap[g]? = some (.cells cur 3 (0, 0)) ∧ l.length ≤ cap ∧ cap ≤ maxLen ∧ cur.size = cap ∧ cur.toList.take l.length = nums .i64 l := by
  obtain ⟨h0, inner, ho, hr⟩ := h
  have hin : inner = nums .i64 l := by
    have := Kd.SE (enc := Value.int .i64) hr
    simpa [encs, nums] using this
  subst hin
  rcases ho.2 with ⟨rfl, hn⟩ | ⟨g, cap, cur, rfl, hb, hh, h1, h2, h3, h4⟩
  · exact .inl ⟨rfl, List.eq_nil_of_length_eq_zero hn⟩
  · have hs : (Kd.int .i64).sz = 1 := rfl
    rw [hs, Nat.mul_one] at h3 h4
    exact .inr ⟨g, cap, cur, rfl, h0 g rfl, hb, hh, h1, h2, h3, h4⟩
theorem QF {w : World} {base : Nat} {ok : Nat → Prop} {l : List Int} {g cap : Nat} {cur : Array Value} (hok : ok g) (hb : base ≤ g) (hh : w.heap[g]? = some (.cells cur 3 (0, 0))) (h1 : l.length ≤ cap) (h2 : cap ≤ maxLen) (h3 : cur.size = cap)
    (h4 : cur.toList.take l.length = nums .i64 l) : Kd.R (Kd.int .i64) 3 w base ok (.slice (some ⟨g, 0, none⟩) l.length cap) l := by
  refine ⟨fun k hk => by simp [Value.ownBlock] at hk; subst hk; exact hok, nums .i64 l, ⟨by simp [nums, Kd.int, Kd.scalar], .inr ⟨g, cap, cur, rfl, hb, hh, h1, h2, by simpa [Kd.int, Kd.scalar] using h3, by simpa [Kd.int, Kd.scalar] using h4⟩⟩, ?_⟩
  exact Kd.JU (enc := Value.int .i64) l
theorem Jr (w : World) (g k : Nat) (d : Array Int) (h : k ≠ g) : (Sort.putRow (Value.int .i64) w g 0 d).heap[k]? = w.heap[k]? := by
 simp only [Sort.putRow, Sort.mapBlock, Array.getElem?_modify]
 rw [if_neg (fun e => h e.symm)]
theorem JN (w : World) (g : Nat) (d : Array Int) (cur : Array Value) (hh : w.heap[g]? = some (.cells cur 3 (0, 0))) : (Sort.putRow (Value.int .i64) w g 0 d).heap[g]? = some (.cells (Sort.putCells (Value.int .i64) 0 d cur) 3 (0, 0)) := by
 simp only [Sort.putRow, Sort.mapBlock, Array.getElem?_modify, if_true, hh, Option.map_some, Sort.onCells]
theorem Js (w : World) (os : Array Obj) (k : Nat) (h : k < w.heap.size) : (Sort.grow w os).heap[k]? = w.heap[k]? := by
 simp only [Sort.grow]
 rw [Array.getElem?_append_left h]
theorem MC (d : List Int) (cur : Array Value) (m : Nat) (hm : m ≤ d.length) (hd : d.length ≤ cur.size) : (Sort.putCells (Value.int .i64) 0 d.toArray cur).toList.take m = nums .i64 (d.take m) := by
  apply List.ext_getElem?
  intro i
  rw [List.getElem?_take, nums, List.getElem?_map, List.getElem?_take]
  by_cases hi : i < m
  · rw [if_pos hi, if_pos hi, Array.getElem?_toList, Sort.putCells, Array.getElem?_mapIdx, Array.getElem?_eq_getElem (by omega), Option.map_some, if_pos ⟨Nat.zero_le _, by simp; omega⟩, List.getElem?_eq_getElem (by omega)]
    simp only [Option.map_some, Nat.sub_zero]
    rw [getElem!_pos _ i (by simp; omega)]
    simp
  · rw [if_neg hi, if_neg hi]; rfl
theorem Kl {w w0 W : World} {base : Nat} {P : Nat → Prop} {g cap q : Nat} {cur : Array Value} {os : Array Obj} {d : List Int} (m : Nat) (hm : m ≤ d.length) (hP : P g) (hb : base ≤ g) (hh : w.heap[g]? = some (.cells cur 3 (0, 0))) (h1 : d.length ≤ cap) (h2 : cap ≤ maxLen) (h3 : cur.size = cap)
    (hW : W = Sort.grow (Sort.putRow (Value.int .i64) (Sort.ahead w q) g 0 d.toArray) os) (hw0 : w0.heap.size ≤ g) (hB : Below w0.heap.size w0 w) :
    Kd.R (Kd.int .i64) 3 W base P (.slice (some ⟨g, 0, none⟩) (d.take m).length cap) (d.take m) ∧ Below w0.heap.size w0 W ∧ Kept w W (fun k => P k) := by
  have hg : g < w.heap.size := (Array.getElem?_eq_some_iff.1 hh).1
  have hkeep : ∀ k, k < w.heap.size → k ≠ g → W.heap[k]? = w.heap[k]? := by
    intro k hk hne
    rw [hW, Js _ _ _ (by simp; exact hk), Jr _ _ _ _ hne]
    rfl
  have hsz : w.heap.size ≤ W.heap.size := by rw [hW]; simp
  have hat : W.heap[g]? = some (.cells (Sort.putCells (Value.int .i64) 0 d.toArray cur) 3 (0, 0)) := by
    rw [hW, Js _ _ _ (by simp; exact hg)]
    exact JN _ _ _ _ hh
  refine ⟨QF hP hb hat (by simp; omega) h2 (by simp [Sort.putCells]; exact h3) ?_, ?_, hsz, ?_⟩
  · have := MC d cur m hm (by omega)
    simpa [List.length_take, Nat.min_eq_left hm] using this
  · refine ⟨?_, ?_, ?_, Nat.le_trans hB.size hsz, fun k hk => (hkeep k (Nat.lt_of_lt_of_le hk hB.size) (by omega)).trans (hB.block k hk)⟩
    · rw [hW]; exact hB.os
    · rw [hW]; exact hB.tape
    · rw [hW]; exact hB.output
  · intro k hk hnP
    exact hkeep k hk (fun e => hnP (e ▸ hP))
theorem int_row_holds {w : World} {g : Nat} {cur : Array Value} {l : List Int} (hh : w.heap[g]? = some (.cells cur 3 (0, 0))) (hl : l.length ≤ cur.size) (h4 : cur.toList.take l.length = nums .i64 l) : Sort.Holds (Value.int .i64) w g 0 l.toArray := by
 intro j hj
 have hj' : j < l.length := by simpa using hj
 refine ⟨?_, zm hh _⟩
 rw [Nat.zero_add, yz hh j, Array.getElem?_eq_getElem (by omega)]
 have h5 := congrArg (fun x => x[j]?) h4
 simp only [List.getElem?_take, if_pos hj', Array.getElem?_toList, nums, List.getElem?_map] at h5
 rw [Array.getElem?_eq_getElem (by omega), List.getElem?_eq_getElem hj', Option.map_some] at h5
 rw [h5, getElem!_pos _ j hj]
 simp
def Tk (x : Int) : List Int → List Int
 | [] => [x]
 | y :: l => if x ≤ y then x :: y :: l else y :: Tk x l
def sorted : List Int → List Int
 | [] => []
 | x :: l => Tk x (sorted l)
theorem JO (x : Int) : ∀ l : List Int, (Tk x l).Perm (x :: l)
 | [] => List.Perm.refl _
 | y :: l => by
  unfold Tk
  split
  · exact List.Perm.refl _
  · exact ((JO x l).cons y).trans (List.Perm.swap x y l)
theorem sorted_perm : ∀ l : List Int, (sorted l).Perm l
 | [] => List.Perm.refl _
 | x :: l => (JO x (sorted l)).trans ((sorted_perm l).cons x)
theorem RQ (x : Int) : ∀ l : List Int, l.Pairwise (· ≤ ·) → (Tk x l).Pairwise (· ≤ ·)
  | [], _ => List.pairwise_singleton _ _
  | y :: l, h => by
    have h1 := List.pairwise_cons.1 h
    unfold Tk
    split
    · rename_i hc
      refine List.pairwise_cons.2 ⟨fun z hz => ?_, h⟩
      rcases List.mem_cons.1 hz with rfl | hz
      · exact hc
      · exact Int.le_trans hc (h1.1 z hz)
    · rename_i hc
      refine List.pairwise_cons.2 ⟨fun z hz => ?_, RQ x l h1.2⟩
      rcases List.mem_cons.1 ((JO x l).mem_iff.1 hz) with rfl | hz
      · omega
      · exact h1.1 z hz
theorem Ip : ∀ l : List Int, (sorted l).Pairwise (· ≤ ·)
 | [] => List.Pairwise.nil
 | x :: l => RQ x _ (Ip l)
theorem IG : ∀ (a b : List Int), a.Pairwise (· ≤ ·) → b.Pairwise (· ≤ ·) → a.Perm b → a = b
  | [], b, _, _, h => by rw [List.nil_perm.1 h]
  | x :: a, [], _, _, h => by have := h.length_eq; simp at this
  | x :: a, y :: b, ha, hb, h => by
    have h1 := List.pairwise_cons.1 ha
    have h2 := List.pairwise_cons.1 hb
    have hx : x ∈ y :: b := h.mem_iff.1 (List.mem_cons_self ..)
    have hy : y ∈ x :: a := h.mem_iff.2 (List.mem_cons_self ..)
    have e : x = y := by
      rcases List.mem_cons.1 hx with e | hx
      · exact e
      · rcases List.mem_cons.1 hy with e | hy
        · exact e.symm
        · exact Int.le_antisymm (h1.1 y hy) (h2.1 x hx)
    subst e
    rw [IG a b h1.2 h2.2 (List.Perm.cons_inv h)]
theorem Tm (l : List Int) : (l.mergeSort fun x y => decide (x ≤ y)) = sorted l := by
 have := List.pairwise_mergeSort (le := fun x y : Int => decide (x ≤ y)) (by intro a b c; simp; omega) (by intro a b; simp; omega) l
 exact IG _ _ (this.imp (by intro a b h; simpa using h)) (Ip l) ((List.mergeSort_perm l _).trans (sorted_perm l).symm)
theorem Gn (l : List Int) : (sorted l).length = l.length := (sorted_perm l).length_eq
def slices_Sort_int.f (l : List Int) : Option (List Int) := if l.length < 4611686018427387904 then some (sorted l) else none
theorem slices_Sort_int.calls (GI : Nat → Prop) (Ee : Value) (l0 : List Int) (r : List Int) (w0 w : World) (hB : Below w0.heap.size w0 w) (ho0 : Kd.R (Kd.int .i64) 3 w w0.heap.size GI Ee l0) (h : slices_Sort_int.f l0 = some r) :
    Calls Try.prog 64 #[Ee] w fun e w' => e = .returned (.tuple #[]) ∧ Kd.R (Kd.int .i64) 3 w' w0.heap.size (fun k_ => (GI k_ ∨ w.heap.size ≤ k_)) Ee r ∧ Below w0.heap.size w0 w' ∧ Kept w w' (fun k_ => GI k_) := by
  unfold slices_Sort_int.f at h
  split at h
  · rename_i hlen
    obtain rfl := Option.some.inj h
    rcases Jq ho0 with ⟨rfl, rfl⟩ | ⟨g, cap, cur, rfl, hP, hb, hh, h1, h2, h3, h4⟩
    · refine (Any.slices_Sort_int_none Try.RP none 0 w).mono ?_
      rintro e w' ⟨rfl, rfl⟩
      exact ⟨rfl, by simpa [sorted] using Kd.Dh _ _ _ _ _, hB, Nat.le_refl _, fun _ _ _ => rfl⟩
    · have hg : g < w.heap.size := (Array.getElem?_eq_some_iff.1 hh).1
      refine (Try.slices_Sort_int g 0 cap l0 w (int_row_holds hh (by omega) h4) hg hlen).mono ?_
      rintro e w' ⟨rfl, n, os, hw⟩
      rw [Tm] at hw
      have hs := Gn l0
      have := Kl (w0 := w0) (W := w') (base := w0.heap.size) (P := GI) (cap := cap) (q := n) (os := os) (d := sorted l0) (sorted l0).length (Nat.le_refl _) hP hb hh (by omega) h2 h3 hw hb hB
      rw [List.take_length, hs] at this
      exact ⟨rfl, Kd.zb this.1 (fun _ hk => .inl hk), this.2.1, this.2.2⟩
  · exact absurd h (by simp)
def slices_Compact_int.f (l : List Int) : Option (List Int) := if l.length ≤ 9223372036854775807 then some (Lib.compact l) else none
theorem QG (l : List Int) : (Lib.compact l).length ≤ l.length := Lib.compact_length_le l
theorem slices_Compact_int.calls (GI : Nat → Prop) (Ee : Value) (l0 : List Int) (r : List Int) (w0 w : World) (hB : Below w0.heap.size w0 w) (ho0 : Kd.R (Kd.int .i64) 3 w w0.heap.size GI Ee l0) (h : slices_Compact_int.f l0 = some r) :
    Calls Try.prog 71 #[Ee] w fun e w' => ∃ Gw : Value, e = .returned (Gw) ∧ Kd.R (Kd.int .i64) 3 w' w0.heap.size (fun k_ => (GI k_ ∨ w.heap.size ≤ k_)) Gw r ∧ Below w0.heap.size w0 w' ∧ Kept w w' (fun k_ => GI k_) := by
  unfold slices_Compact_int.f at h
  split at h
  · rename_i hlen
    obtain rfl := Option.some.inj h
    rcases Jq ho0 with ⟨rfl, rfl⟩ | ⟨g, cap, cur, rfl, hP, hb, hh, h1, h2, h3, h4⟩
    · refine (Try.slices_Compact_int_empty none 0 w).mono ?_
      rintro e w' ⟨rfl, rfl⟩
      exact ⟨_, rfl, Kd.Dh _ _ _ _ _, hB, Nat.le_refl _, fun _ _ _ => rfl⟩
    · have hg : g < w.heap.size := (Array.getElem?_eq_some_iff.1 hh).1
      have hc := QG l0
      refine (Try.slices_Compact_int g 0 cap l0 w (int_row_holds hh (by omega) h4) hlen h1).mono ?_
      rintro e w' ⟨rfl, n, hw⟩
      have := Kl (w0 := w0) (W := w') (base := w0.heap.size) (P := GI) (cap := cap) (q := n) (os := #[]) (d := Lib.compact l0 ++ List.replicate (l0.length - (Lib.compact l0).length) 0) (Lib.compact l0).length (by simp) hP hb hh (by simp; omega) h2 h3 (by rw [hw]; simp) hb hB
      rw [List.take_left] at this
      exact ⟨_, rfl, Kd.zb this.1 (fun _ hk => .inl hk), this.2.1, this.2.2⟩
  · exact absurd h (by simp)
end Go.Proofs.Ytjonnfmoocijlaa.P
