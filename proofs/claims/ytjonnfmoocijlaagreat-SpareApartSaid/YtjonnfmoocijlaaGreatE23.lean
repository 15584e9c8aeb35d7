/- Texts of a claim, packed. -/
import Derived.Shelf.Sort.Plain
import Derived.Ground.Names2Prog
import Derived.Shelf.Slices.CompactI
import Derived.Shelf.Slices.In.SortNone
import Derived.Lib.RowBridge
import Derived.Test.YtjonnfmoocijlaaGreatE22
set_option linter.all false
namespace Go.Proofs.YtjonnfmoocijlaaGreat.P
open Go.RowKit Go.Proofs.YtjonnfmoocijlaaGreatKW.PrintWords
def Q7 (w : Nat) (tn : Int) (ms : List Mv) : Prop := ∀ m ∈ ms,0 ≤ m.f0 ∧ m.f0 < tn ∧ 0 ≤ m.f1 ∧ m.f1 < (w : Int)
def Av (L : List (List Int)) (w n r : Nat) (ms : List Mv) (g : Int) : List Int := (List.range w).map fun i : Nat => (BN L w n r ms g (i : Int)).1
theorem Si (L : List (List Int)) (w n r : Nat) (ms : List Mv) (g : Int) (i : Nat) (hi : i < w) : (Av L w n r ms g).getD i 0 = (BN L w n r ms g (i : Int)).1 := by
 rw [getD_at _ _ _ (by simp [Av];exact hi)]
 simp [Av]
theorem PZ {L : List (List Int)} {w n r : Nat} {ms ms' : List Mv} {g i : Int} (h : ms.find? (F3 g i) = ms'.find? (F3 g i)) : BN L w n r ms g i = BN L w n r ms' g i := by unfold BN;rw [h]
section
variable {d : Int} {L : List (List Int)} {w n r : Nat} {T S : Int} (H : Lo d L w n r T S)
include H
theorem Lo.PV (ms : List Mv) (a b : Int) : AJ.f d L T S ms a b = some (w : Int) := by
 unfold AJ.f
 rw [if_pos (by have := H.row0.2;omega),H.row0.1]
theorem Lo.idx (g : Int) (h0 : 0 ≤ g) (h1 : g < T * n) : Int.tmod g (L.length : Int) = ((g.toNat % n : Nat) : Int) ∧ wrap64 (Int.tdiv g (L.length : Int)) = ((g.toNat / n : Nat) : Int) ∧ g.toNat / n ≤ 105 := by
 have h2 := H.tn
 obtain ⟨k,rfl⟩ : ∃ k : Nat,g = (k : Int) := ⟨g.toNat,by omega⟩
 rw [H.ok.len,Int.toNat_natCast]
 have h3 : k / n ≤ 105 := Nat.le_trans (Nat.div_le_self _ _) (by omega)
 refine ⟨by rw [Int.tmod_eq_emod_of_nonneg (by omega)];exact (Int.natCast_emod k n).symm,?_,h3⟩
 rw [Int.tdiv_eq_ediv_of_nonneg (by omega),← Int.natCast_ediv k n]
 generalize k / n = q at h3
 exact ww (by omega) (by omega)
theorem Lo.col (g : Int) (h0 : 0 ≤ g) (h1 : g < T * n) (i : Nat) (hi : i < w) : Int.tmod (wrap64 ((i : Int) + wrap64 (Int.tdiv g (L.length : Int)))) (w : Int) = (((i + g.toNat / n) % w : Nat) : Int) := by
 obtain ⟨_,e2,e3⟩ := H.idx g h0 h1
 have h5 := H.ok.w1
 rw [e2]
 generalize g.toNat / n = q at e3
 rw [ww (by omega) (by omega),Int.tmod_eq_emod_of_nonneg (by omega),show (i : Int) + (q : Int) = ((i + q : Nat) : Int) by omega]
 exact (Int.natCast_emod _ w).symm
theorem Lo.PH (g : Int) (h0 : 0 ≤ g) (h1 : g < T * n) : yX L (Int.tmod g (L.length : Int)) = L.getD (g.toNat % n) [] ∧ (L.getD (g.toNat % n) []).length = w ∧ g.toNat % n < L.length := by
 obtain ⟨e1,_⟩ := H.idx g h0 h1
 have h3 := H.ok.n1
 have h4 : g.toNat % n < L.length := by rw [H.ok.len];exact Nat.mod_lt _ (by omega)
 refine ⟨by rw [e1];unfold yX;rw [Int.toNat_natCast],?_,h4⟩
 rw [getD_at _ _ _ h4]
 exact H.ok.width _ (List.getElem_mem h4)
theorem Wo (ms : List Mv) (hs : Sorted ms) (hin : Q7 w (T * n) ms) (g : Int) : Av L w n r (ms.take (Ee ms g 0)) g = (List.range w).map fun i => (Ed L w n r g.toNat i).1 := by
  unfold Av
  refine List.map_congr_left fun i hi => ?_
  unfold BN
  rw [show (ms.take (Ee ms g 0)).find? (F3 g (i : Int)) = none from ?_]
  · simp
  · rw [List.find?_eq_none]
    intro m hm h
    rw [Dh] at h
    obtain ⟨j,hj,rfl⟩ := List.getElem_of_mem hm
    rw [List.length_take] at hj
    rw [List.getElem_take] at h
    have h1 := (Iq ms hs g 0 j (by omega)).1 (by omega)
    have h2 := hin _ (List.getElem_mem (show j < ms.length by omega))
    unfold Ahead at h1
    omega
theorem Wp (ms : List Mv) (hs : Sorted ms) (g : Int) (j : Nat) (hj : j < ms.length) (hg : ms[j].f0 = g) (hi : 0 ≤ ms[j].f1 ∧ ms[j].f1 < (w : Int)) :
    (Av L w n r (ms.take j) g).set ms[j].f1.toNat ms[j].f2.f0 = Av L w n r (ms.take (j + 1)) g := by
  apply List.ext_getElem
  · simp [Av]
  · intro i h1 h2
    simp only [Av,List.length_map,List.length_range] at h2
    rw [List.getElem_set]
    simp only [Av,List.getElem_map,List.getElem_range]
    rw [List.take_succ_eq_append_getElem hj]
    unfold BN
    rw [List.find?_append]
    by_cases he : ms[j].f1.toNat = i
    · rw [if_pos he]
      have hn : (ms.take j).find? (F3 g (i : Int)) = none := by
        rw [List.find?_eq_none]
        intro m hm h
        rw [Dh] at h
        obtain ⟨q,hq,rfl⟩ := List.getElem_of_mem hm
        rw [List.length_take] at hq
        rw [List.getElem_take] at h
        have h3 := (List.pairwise_iff_getElem.1 hs) q j (by omega) hj (by omega)
        unfold Ahead at h3
        omega
      rw [hn,List.find?_cons_of_pos (by rw [Dh];omega)]
      rfl
    · rw [if_neg he,List.find?_cons_of_neg (by rw [Dh];omega)]
      simp
theorem YW (ms : List Mv) (hs : Sorted ms) (g : Int) (j : Nat) (hj : j ≤ ms.length) (ha : ∀ q (hq : q < ms.length),j ≤ q → g < ms[q].f0) : Av L w n r (ms.take j) g = Av L w n r ms g := by
 unfold Av
 refine List.map_congr_left fun i _ => ?_
 rw [PZ]
 conv => rhs;rw [← List.take_append_drop j ms]
 rw [List.find?_append,show (ms.drop j).find? (F3 g (i : Int)) = none from ?_,Option.or_none]
 rw [List.find?_eq_none]
 intro m hm h
 rw [Dh] at h
 obtain ⟨q,hq,rfl⟩ := List.getElem_of_mem hm
 rw [List.length_drop] at hq
 rw [List.getElem_drop] at h
 have := ha (j + q) (by omega) (by omega)
 omega
theorem Lo.a01 (ms : List Mv) (hs : Sorted ms) (hl : ms.length ≤ 1000) (hin : Q7 w (T * n) ms) (a b g : Int) (h0 : 0 ≤ g) (h1 : g < T * n) : Ev (fun k => yM.f k d L T S ms a b g) (Av L w n r ms g) := by
  have Yn := H.ok.w1
  obtain ⟨e1,e2,e3⟩ := H.idx g h0 h1
  obtain ⟨f1,f2,f3⟩ := H.PH g h0 h1
  have hd1 : ∀ t j : Nat,ms.length - j = t → Ee ms g 0 ≤ j → j ≤ ms.length → Ev (fun k => yM.l1 k g (Av L w n r (ms.take j) g) (j : Int) d L T S ms a b) (Av L w n r ms g) := by
    intro t
    induction t with
    | zero =>
      intro j ht hp hj
      refine evs (fun k => by rw [yM.l1]) (BF (by omega) (Hw ?_))
      rw [List.take_of_length_le (by omega)]
    | succ t ih =>
      intro j ht hp hj
      have hlt : j < ms.length := by omega
      have hna := fun h => Nat.not_lt.2 hp ((Iq ms hs g 0 j hlt).2 h)
      have hm := hin _ (List.getElem_mem hlt)
      refine evs (fun k => by rw [yM.l1]) (AA (by omega) (AA (by omega) ?_))
      rw [G5 ms j hlt]
      by_cases c : ms[j].f0 = g
      · refine AA c (AA (by omega) (AA (by simp [Av];omega) ?_))
        rw [Wp H ms hs g j hlt c ⟨hm.2.2.1,hm.2.2.2⟩,ww (by omega) (by omega),show (j : Int) + 1 = ((j + 1 : Nat) : Int) by omega]
        exact ih (j + 1) (by omega) (by omega) (by omega)
      · refine BF c (Hw (YW H ms hs g j hj fun q hq hjq => ?_))
        have h5 : g < ms[j].f0 := by
          have : ¬ Ahead ms[j] g 0 := hna
          unfold Ahead at this
          omega
        rcases Nat.eq_or_lt_of_le hjq with rfl | h6
        · exact h5
        · have h7 := (List.pairwise_iff_getElem.1 hs) j q hlt hq h6
          unfold Ahead at h7
          omega
  have hd0 : ∀ t i : Nat,w - i = t → i ≤ w → Ev (fun k => yM.l0 k g (L.length : Int) (L.getD (g.toNat % n) []) ((List.range i).map fun i => (Ed L w n r g.toNat i).1) (w : Int) (i : Int) d L T S ms a b) (Av L w n r ms g) := by
    intro t
    induction t with
    | zero =>
      intro i ht hi
      refine evs (fun k => by rw [yM.l0]) (BF (by omega) (Ep (Jv ms hs hl g 0) ?_))
      have := hd1 _ (Ee ms g 0) rfl (Nat.le_refl _) (PU _ _ _)
      rw [Wo H ms hs hin g] at this
      obtain rfl : i = w := by omega
      exact this
    | succ t ih =>
      intro i ht hi
      refine evs (fun k => by rw [yM.l0]) (AA (by omega) (BF (by omega) (GZ (H.PV ms a b) (BF (show ¬ (w : Int) = 0 by omega) ?_))))
      rw [H.col g h0 h1 i (by omega)]
      have hmod : (i + g.toNat / n) % w < w := Nat.mod_lt _ (by omega)
      have e : rd (L.getD (g.toNat % n) []) (((i + g.toNat / n) % w : Nat) : Int) = (Ed L w n r g.toNat i).1 := by
        unfold rd Ed
        rw [Int.toNat_natCast]
      rw [e]
      generalize (i + g.toNat / n) % w = q at hmod
      refine AA (by omega) (AA (by omega) (AA (by simp;omega) ?_))
      have := ih (i + 1) (by omega) (by omega)
      rw [List.range_succ,List.map_append,List.map_singleton] at this
      rw [ww (by omega) (by omega),show (i : Int) + 1 = ((i + 1 : Nat) : Int) by omega]
      exact this
  unfold yM.f
  rw [f1]
  rw [e1] at *
  generalize g.toNat % n = q at *
  refine BF (by omega) (AA (by omega) (AA (by omega) (GZ (H.PV ms a b) ?_)))
  exact hd0 _ 0 rfl (Nat.zero_le _)
end
end Go.Proofs.YtjonnfmoocijlaaGreat.P
namespace Go.Proofs
open Go.Shelf
def Tryz.QW : Go.Shelf.Ren := ⟨fun | 189 => 57 | 125 => 55 | 257 => 84 | 128 => 82 | 129 => 83 | 294 => 93 | 295 => 94 | 296 => 95 | 297 => 96 | 298 => 97 | 299 => 98 | 216 => 99 | 300 => 100 | 301 => 101 | 328 => 104 | 329 => 89 | 330 => 90 | 331 => 105 | 332 => 106 | 215 => 56 | 343 => 107 | n => n,fun | 28 => 37 | 3 => 3 | 46 => 98 | 0 => 0 | 51 => 125 | 53 => 127 | 4 => 4 | 183 => 119 | 182 => 118 | 131 => 69 | 5 => 5 | 9 => 9 | 218 => 132 | 222 => 136 | 228 => 144 | 229 => 111 | n => n,fun | n => n⟩
theorem Tryz.Um : Go.Proofs.Lays.n189 Tryz.prog Tryz.QW := {
 mixed := by kernel_rfl
 f125 := Tryz.func55.trans (congrArg some (by kernel_rfl))
 f128 := Tryz.func82.trans (congrArg some (by kernel_rfl))
 f129 := Tryz.func83.trans (congrArg some (by kernel_rfl))
 f189 := Tryz.func57.trans (congrArg some (by kernel_rfl))
 f215 := Tryz.func56.trans (congrArg some (by kernel_rfl))
 f216 := Tryz.func99.trans (congrArg some (by kernel_rfl))
 f257 := Tryz.func84.trans (congrArg some (by kernel_rfl))
 f294 := Tryz.func93.trans (congrArg some (by kernel_rfl))
 f295 := Tryz.func94.trans (congrArg some (by kernel_rfl))
 f296 := Tryz.func95.trans (congrArg some (by kernel_rfl))
 f297 := Tryz.func96.trans (congrArg some (by kernel_rfl))
 f298 := Tryz.func97.trans (congrArg some (by kernel_rfl))
 f299 := Tryz.func98.trans (congrArg some (by kernel_rfl))
 f300 := Tryz.func100.trans (congrArg some (by kernel_rfl))
 f301 := Tryz.func101.trans (congrArg some (by kernel_rfl))
 f328 := Tryz.func104.trans (congrArg some (by kernel_rfl))
 f329 := Tryz.func89.trans (congrArg some (by kernel_rfl))
 f330 := Tryz.func90.trans (congrArg some (by kernel_rfl))
 f331 := Tryz.func105.trans (congrArg some (by kernel_rfl))
 f332 := Tryz.func106.trans (congrArg some (by kernel_rfl))
 f343 := Tryz.func107.trans (congrArg some (by kernel_rfl))
 t0 := Tryz.underlying0
 a0 := Tryz.isAgg0
 z0 := Tryz.sizeOf0
 v0 := Tryz.zeroValue0
 t3 := Tryz.underlying3
 a3 := Tryz.isAgg3
 z3 := Tryz.sizeOf3
 v3 := Tryz.zeroValue3
 t4 := Tryz.underlying4
 a4 := Tryz.isAgg4
 z4 := Tryz.sizeOf4
 v4 := Tryz.zeroValue4
 t5 := Tryz.underlying5
 a5 := Tryz.isAgg5
 z5 := Tryz.sizeOf5
 v5 := Tryz.zeroValue5
 t9 := Tryz.underlying9
 a9 := Tryz.isAgg9
 z9 := Tryz.sizeOf9
 v9 := Tryz.zeroValue9
 t28 := Tryz.underlying37
 a28 := Tryz.isAgg37
 z28 := Tryz.sizeOf37
 v28 := Tryz.zeroValue37
 t46 := Tryz.underlying98
 a46 := Tryz.isAgg98
 z46 := Tryz.sizeOf98
 v46 := Tryz.zeroValue98
 t51 := Tryz.underlying125
 a51 := Tryz.isAgg125
 z51 := Tryz.sizeOf125
 v51 := Tryz.zeroValue125
 t53 := Tryz.underlying127
 a53 := Tryz.isAgg127
 z53 := Tryz.sizeOf127
 v53 := Tryz.zeroValue127
 t131 := Tryz.underlying69
 a131 := Tryz.isAgg69
 z131 := Tryz.sizeOf69
 v131 := Tryz.zeroValue69
 t182 := Tryz.underlying118
 a182 := Tryz.isAgg118
 z182 := Tryz.sizeOf118
 v182 := Tryz.zeroValue118
 t183 := Tryz.underlying119
 a183 := Tryz.isAgg119
 z183 := Tryz.sizeOf119
 v183 := Tryz.zeroValue119
 t218 := Tryz.underlying132
 a218 := Tryz.isAgg132
 z218 := Tryz.sizeOf132
 v218 := Tryz.zeroValue132
 t222 := Tryz.underlying136
 a222 := Tryz.isAgg136
 z222 := Tryz.sizeOf136
 v222 := Tryz.zeroValue136
 t228 := Tryz.underlying144
 a228 := Tryz.isAgg144
 z228 := Tryz.sizeOf144
 v228 := Tryz.zeroValue144
 t229 := Tryz.underlying111
 a229 := Tryz.isAgg111
 z229 := Tryz.sizeOf111
 v229 := Tryz.zeroValue111 }
open Go.Sort Go.RowKit in
theorem Tryz.slices_Sort_int (blk off cap : Nat) (zs : List Int) (w : World) (hH : Holds (Value.int .i64) w blk off zs.toArray) (hblk : blk < w.heap.size) (hsz : zs.length < 4611686018427387904) :
 Calls Tryz.prog 57 #[.slice (some ⟨blk,off,none⟩) zs.length cap] w fun e w' =>
  e = .returned (.tuple #[]) ∧ ∃ n os,w' = grow (putRow (Value.int .i64) (Sort.ahead w n) blk off (zs.mergeSort fun x y => decide (x ≤ y)).toArray) os := Any.slices_Sort_int Tryz.Um blk off cap zs w hH hblk hsz
def Tryz.Oc : Go.Shelf.Ren := ⟨fun | 20 => 67 | n => n,fun | 22 => 37 | 3 => 3 | 4 => 4 | 0 => 0 | n => n,fun | n => n⟩
theorem Tryz.OP : Go.Proofs.Lays2.n20 Tryz.prog Tryz.Oc := {
 mixed := by kernel_rfl
 f20 := Tryz.func67.trans (congrArg some (by kernel_rfl))
 t0 := Tryz.underlying0
 a0 := Tryz.isAgg0
 z0 := Tryz.sizeOf0
 v0 := Tryz.zeroValue0
 t3 := Tryz.underlying3
 a3 := Tryz.isAgg3
 z3 := Tryz.sizeOf3
 v3 := Tryz.zeroValue3
 t4 := Tryz.underlying4
 a4 := Tryz.isAgg4
 z4 := Tryz.sizeOf4
 v4 := Tryz.zeroValue4
 t22 := Tryz.underlying37
 a22 := Tryz.isAgg37
 z22 := Tryz.sizeOf37
 v22 := Tryz.zeroValue37
 i3 := by kernel_rfl }
open Go.RowKit Go.Lib Go.Sort in
theorem Tryz.slices_Compact_int (blk off cap : Nat) (zs : List Int) (w : World) (hH : Holds (Value.int .i64) w blk off zs.toArray) (hsz : zs.length ≤ 9223372036854775807) (hcap : zs.length ≤ cap) :
 Calls Tryz.prog 67 #[.slice (some ⟨blk,off,none⟩) zs.length cap] w fun e w' => e = .returned (.slice (some ⟨blk,off,none⟩) (Lib.compact zs).length cap) ∧ ∃ q,w' = putRow (Value.int .i64) (Sort.ahead w q) blk off (Lib.compact zs ++ List.replicate (zs.length - (Lib.compact zs).length) 0).toArray := Any.slices_Compact_int Tryz.OP blk off cap zs w hH hsz hcap
open Go.RowKit Go.Lib Go.Sort in
theorem Tryz.slices_Compact_int_empty (a : Option Addr) (cap : Nat) (w : World) :
 Calls Tryz.prog 67 #[.slice a 0 cap] w fun e w' => e = .returned (.slice a 0 cap) ∧ w' = w := Any.slices_Compact_int_empty Tryz.OP a cap w
end Go.Proofs
namespace Go.Proofs.YtjonnfmoocijlaaGreat.P
open Go.RowKit Go.Proofs.YtjonnfmoocijlaaGreatKW.PrintWords Go.Proofs.YtjonnfmoocijlaaGreatKW.PrintLast Go.Proofs.YtjonnfmoocijlaaGreatKW.PrintMore
theorem KF {w : World} {base : Nat} {ok : Nat → Prop} {u : Value} {l : List Int} (h : Kd.R (Kd.int .i64) 3 w base ok u l) :
    (u = .slice none 0 0 ∧ l = []) ∨ ∃ g cap cur,u = .slice (some ⟨g,0,none⟩) l.length cap ∧ ok g ∧ base ≤ g ∧ w.heap[g]? = some (.cells cur 3 (0,0)) ∧ l.length ≤ cap ∧ cap ≤ maxLen ∧ cur.size = cap ∧ cur.toList.take l.length = nums .i64 l := by
  obtain ⟨h0,inner,ho,hr⟩ := h
  have hin : inner = nums .i64 l := by
    have := Kd.V8 (enc := Value.int .i64) hr
    simpa [encs,nums] using this
  subst hin
  rcases ho.2 with ⟨rfl,hn⟩ | ⟨g,cap,cur,rfl,hb,hh,h1,h2,h3,h4⟩
  · exact .inl ⟨rfl,List.eq_nil_of_length_eq_zero hn⟩
  · have hs : (Kd.int .i64).sz = 1 := rfl
    rw [hs,Nat.mul_one] at h3 h4
    exact .inr ⟨g,cap,cur,rfl,h0 g rfl,hb,hh,h1,h2,h3,h4⟩
theorem SX {w : World} {base : Nat} {ok : Nat → Prop} {l : List Int} {g cap : Nat} {cur : Array Value} (hok : ok g) (hb : base ≤ g) (hh : w.heap[g]? = some (.cells cur 3 (0,0))) (h1 : l.length ≤ cap) (h2 : cap ≤ maxLen) (h3 : cur.size = cap)
    (h4 : cur.toList.take l.length = nums .i64 l) : Kd.R (Kd.int .i64) 3 w base ok (.slice (some ⟨g,0,none⟩) l.length cap) l := by
  refine ⟨fun k hk => by simp [Value.ownBlock] at hk;subst hk;exact hok,nums .i64 l,⟨by simp [nums,Kd.int,Kd.scalar],.inr ⟨g,cap,cur,rfl,hb,hh,h1,h2,by simpa [Kd.int,Kd.scalar] using h3,by simpa [Kd.int,Kd.scalar] using h4⟩⟩,?_⟩
  exact Kd.Ma (enc := Value.int .i64) l
theorem Ky (w : World) (g k : Nat) (d : Array Int) (h : k ≠ g) : (Sort.putRow (Value.int .i64) w g 0 d).heap[k]? = w.heap[k]? := by
 simp only [Sort.putRow,Sort.mapBlock,Array.getElem?_modify]
 rw [if_neg (fun e => h e.symm)]
theorem Lg (w : World) (g : Nat) (d : Array Int) (cur : Array Value) (hh : w.heap[g]? = some (.cells cur 3 (0,0))) : (Sort.putRow (Value.int .i64) w g 0 d).heap[g]? = some (.cells (Sort.putCells (Value.int .i64) 0 d cur) 3 (0,0)) := by
 simp only [Sort.putRow,Sort.mapBlock,Array.getElem?_modify,if_true,hh,Option.map_some,Sort.onCells]
theorem Kw (w : World) (os : Array Obj) (k : Nat) (h : k < w.heap.size) : (Sort.grow w os).heap[k]? = w.heap[k]? := by
 simp only [Sort.grow]
 rw [Array.getElem?_append_left h]
theorem Og (d : List Int) (cur : Array Value) (m : Nat) (hm : m ≤ d.length) (hd : d.length ≤ cur.size) : (Sort.putCells (Value.int .i64) 0 d.toArray cur).toList.take m = nums .i64 (d.take m) := by
  apply List.ext_getElem?
  intro i
  rw [List.getElem?_take,nums,List.getElem?_map,List.getElem?_take]
  by_cases hi : i < m
  · rw [if_pos hi,if_pos hi,Array.getElem?_toList,Sort.putCells,Array.getElem?_mapIdx,Array.getElem?_eq_getElem (by omega),Option.map_some,if_pos ⟨Nat.zero_le _,by simp;omega⟩,List.getElem?_eq_getElem (by omega)]
    simp only [Option.map_some,Nat.sub_zero]
    rw [getElem!_pos _ i (by simp;omega)]
    simp
  · rw [if_neg hi,if_neg hi];rfl
theorem LZ {w w0 W : World} {base : Nat} {P : Nat → Prop} {g cap q : Nat} {cur : Array Value} {os : Array Obj} {d : List Int} (m : Nat) (hm : m ≤ d.length) (hP : P g) (hb : base ≤ g) (hh : w.heap[g]? = some (.cells cur 3 (0,0))) (h1 : d.length ≤ cap) (h2 : cap ≤ maxLen) (h3 : cur.size = cap)
    (hW : W = Sort.grow (Sort.putRow (Value.int .i64) (Sort.ahead w q) g 0 d.toArray) os) (hw0 : w0.heap.size ≤ g) (hB : Below w0.heap.size w0 w) :
    Kd.R (Kd.int .i64) 3 W base P (.slice (some ⟨g,0,none⟩) (d.take m).length cap) (d.take m) ∧ Below w0.heap.size w0 W ∧ Kept w W (fun k => P k) := by
  have hg : g < w.heap.size := (Array.getElem?_eq_some_iff.1 hh).1
  have hkeep : ∀ k,k < w.heap.size → k ≠ g → W.heap[k]? = w.heap[k]? := by
    intro k hk hne
    rw [hW,Kw _ _ _ (by simp;exact hk),Ky _ _ _ _ hne]
    rfl
  have hsz : w.heap.size ≤ W.heap.size := by rw [hW];simp
  have hat : W.heap[g]? = some (.cells (Sort.putCells (Value.int .i64) 0 d.toArray cur) 3 (0,0)) := by
    rw [hW,Kw _ _ _ (by simp;exact hg)]
    exact Lg _ _ _ _ hh
  refine ⟨SX hP hb hat (by simp;omega) h2 (by simp [Sort.putCells];exact h3) ?_,?_,hsz,?_⟩
  · have := Og d cur m hm (by omega)
    simpa [List.length_take,Nat.min_eq_left hm] using this
  · refine ⟨?_,?_,?_,Nat.le_trans hB.size hsz,fun k hk => (hkeep k (Nat.lt_of_lt_of_le hk hB.size) (by omega)).trans (hB.block k hk)⟩
    · rw [hW];exact hB.os
    · rw [hW];exact hB.tape
    · rw [hW];exact hB.output
  · intro k hk hnP
    exact hkeep k hk (fun e => hnP (e ▸ hP))
theorem int_row_holds {w : World} {g : Nat} {cur : Array Value} {l : List Int} (hh : w.heap[g]? = some (.cells cur 3 (0,0))) (hl : l.length ≤ cur.size) (h4 : cur.toList.take l.length = nums .i64 l) : Sort.Holds (Value.int .i64) w g 0 l.toArray := by
 intro j hj
 have hj' : j < l.length := by simpa using hj
 refine ⟨?_,zy hh _⟩
 rw [Nat.zero_add,yx hh j,Array.getElem?_eq_getElem (by omega)]
 have h5 := congrArg (fun x => x[j]?) h4
 simp only [List.getElem?_take,if_pos hj',Array.getElem?_toList,nums,List.getElem?_map] at h5
 rw [Array.getElem?_eq_getElem (by omega),List.getElem?_eq_getElem hj',Option.map_some] at h5
 rw [h5,getElem!_pos _ j hj]
 simp
def UR (x : Int) : List Int → List Int
 | [] => [x]
 | y :: l => if x ≤ y then x :: y :: l else y :: UR x l
def sorted : List Int → List Int
 | [] => []
 | x :: l => UR x (sorted l)
theorem Lh (x : Int) : ∀ l : List Int,(UR x l).Perm (x :: l)
 | [] => List.Perm.refl _
 | y :: l => by
  unfold UR
  split
  · exact List.Perm.refl _
  · exact ((Lh x l).cons y).trans (List.Perm.swap x y l)
theorem sorted_perm : ∀ l : List Int,(sorted l).Perm l
 | [] => List.Perm.refl _
 | x :: l => (Lh x (sorted l)).trans ((sorted_perm l).cons x)
theorem Uj (x : Int) : ∀ l : List Int,l.Pairwise (· ≤ ·) → (UR x l).Pairwise (· ≤ ·)
  | [],_ => List.pairwise_singleton _ _
  | y :: l,h => by
    have h1 := List.pairwise_cons.1 h
    unfold UR
    split
    · rename_i hc
      refine List.pairwise_cons.2 ⟨fun z hz => ?_,h⟩
      rcases List.mem_cons.1 hz with rfl | hz
      · exact hc
      · exact Int.le_trans hc (h1.1 z hz)
    · rename_i hc
      refine List.pairwise_cons.2 ⟨fun z hz => ?_,Uj x l h1.2⟩
      rcases List.mem_cons.1 ((Lh x l).mem_iff.1 hz) with rfl | hz
      · omega
      · exact h1.1 z hz
theorem Ib : ∀ l : List Int,(sorted l).Pairwise (· ≤ ·)
 | [] => List.Pairwise.nil
 | x :: l => Uj x _ (Ib l)
theorem Hu : ∀ (a b : List Int),a.Pairwise (· ≤ ·) → b.Pairwise (· ≤ ·) → a.Perm b → a = b
  | [],b,_,_,h => by rw [List.nil_perm.1 h]
  | x :: a,[],_,_,h => by have := h.length_eq;simp at this
  | x :: a,y :: b,ha,hb,h => by
    have h1 := List.pairwise_cons.1 ha
    have h2 := List.pairwise_cons.1 hb
    have hx : x ∈ y :: b := h.mem_iff.1 (List.mem_cons_self ..)
    have hy : y ∈ x :: a := h.mem_iff.2 (List.mem_cons_self ..)
    have e : x = y := by
      rcases List.mem_cons.1 hx with e | hx
      · exact e
      · rcases List.mem_cons.1 hy with e | hy
        · exact e.symm
        · exact Int.le_antisymm (h1.1 y hy) (h2.1 x hx)
    subst e
    rw [Hu a b h1.2 h2.2 (List.Perm.cons_inv h)]
theorem Vf (l : List Int) : (l.mergeSort fun x y => decide (x ≤ y)) = sorted l := by
 have := List.pairwise_mergeSort (le := fun x y : Int => decide (x ≤ y)) (by intro a b c;simp;omega) (by intro a b;simp;omega) l
 exact Hu _ _ (this.imp (by intro a b h;simpa using h)) (Ib l) ((List.mergeSort_perm l _).trans (sorted_perm l).symm)
theorem Ht (l : List Int) : (sorted l).length = l.length := (sorted_perm l).length_eq
def slices_Sort_int.f (l : List Int) : Option (List Int) := if l.length < 4611686018427387904 then some (sorted l) else none
theorem slices_Sort_int.calls (Ig : Nat → Prop) (EK : Value) (l0 : List Int) (r : List Int) (w0 w : World) (hB : Below w0.heap.size w0 w) (ho0 : Kd.R (Kd.int .i64) 3 w w0.heap.size Ig EK l0) (h : slices_Sort_int.f l0 = some r) :
    Calls Tryz.prog 57 #[EK] w fun e w' => e = .returned (.tuple #[]) ∧ Kd.R (Kd.int .i64) 3 w' w0.heap.size (fun k_ => (Ig k_ ∨ w.heap.size ≤ k_)) EK r ∧ Below w0.heap.size w0 w' ∧ Kept w w' (fun k_ => Ig k_) := by
  unfold slices_Sort_int.f at h
  split at h
  · rename_i hlen
    obtain rfl := Option.some.inj h
    rcases KF ho0 with ⟨rfl,rfl⟩ | ⟨g,cap,cur,rfl,hP,hb,hh,h1,h2,h3,h4⟩
    · refine (Any.slices_Sort_int_none Tryz.Um none 0 w).mono ?_
      rintro e w' ⟨rfl,rfl⟩
      exact ⟨rfl,by simpa [sorted] using Kd.Dc _ _ _ _ _,hB,Nat.le_refl _,fun _ _ _ => rfl⟩
    · have hg : g < w.heap.size := (Array.getElem?_eq_some_iff.1 hh).1
      refine (Tryz.slices_Sort_int g 0 cap l0 w (int_row_holds hh (by omega) h4) hg hlen).mono ?_
      rintro e w' ⟨rfl,n,os,hw⟩
      rw [Vf] at hw
      have hs := Ht l0
      have := LZ (w0 := w0) (W := w') (base := w0.heap.size) (P := Ig) (cap := cap) (q := n) (os := os) (d := sorted l0) (sorted l0).length (Nat.le_refl _) hP hb hh (by omega) h2 h3 hw hb hB
      rw [List.take_length,hs] at this
      exact ⟨rfl,Kd.zf this.1 (fun _ hk => .inl hk),this.2.1,this.2.2⟩
  · exact absurd h (by simp)
def slices_Compact_int.f (l : List Int) : Option (List Int) := if l.length ≤ 9223372036854775807 then some (Lib.compact l) else none
theorem Sd (l : List Int) : (Lib.compact l).length ≤ l.length := Lib.compact_length_le l
theorem slices_Compact_int.calls (Ig : Nat → Prop) (EK : Value) (l0 : List Int) (r : List Int) (w0 w : World) (hB : Below w0.heap.size w0 w) (ho0 : Kd.R (Kd.int .i64) 3 w w0.heap.size Ig EK l0) (h : slices_Compact_int.f l0 = some r) :
    Calls Tryz.prog 67 #[EK] w fun e w' => ∃ G7 : Value,e = .returned (G7) ∧ Kd.R (Kd.int .i64) 3 w' w0.heap.size (fun k_ => (Ig k_ ∨ w.heap.size ≤ k_)) G7 r ∧ Below w0.heap.size w0 w' ∧ Kept w w' (fun k_ => Ig k_) := by
  unfold slices_Compact_int.f at h
  split at h
  · rename_i hlen
    obtain rfl := Option.some.inj h
    rcases KF ho0 with ⟨rfl,rfl⟩ | ⟨g,cap,cur,rfl,hP,hb,hh,h1,h2,h3,h4⟩
    · refine (Tryz.slices_Compact_int_empty none 0 w).mono ?_
      rintro e w' ⟨rfl,rfl⟩
      exact ⟨_,rfl,Kd.Dc _ _ _ _ _,hB,Nat.le_refl _,fun _ _ _ => rfl⟩
    · have hg : g < w.heap.size := (Array.getElem?_eq_some_iff.1 hh).1
      have hc := Sd l0
      refine (Tryz.slices_Compact_int g 0 cap l0 w (int_row_holds hh (by omega) h4) hlen h1).mono ?_
      rintro e w' ⟨rfl,n,hw⟩
      have := LZ (w0 := w0) (W := w') (base := w0.heap.size) (P := Ig) (cap := cap) (q := n) (os := #[]) (d := Lib.compact l0 ++ List.replicate (l0.length - (Lib.compact l0).length) 0) (Lib.compact l0).length (by simp) hP hb hh (by simp;omega) h2 h3 (by rw [hw];simp) hb hB
      rw [List.take_left] at this
      exact ⟨_,rfl,Kd.zf this.1 (fun _ hk => .inl hk),this.2.1,this.2.2⟩
  · exact absurd h (by simp)
end Go.Proofs.YtjonnfmoocijlaaGreat.P
