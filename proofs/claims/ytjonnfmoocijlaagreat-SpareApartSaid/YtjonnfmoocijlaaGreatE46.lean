/- Texts of a claim, packed. -/
import Derived.Test.YtjonnfmoocijlaaGreatE36
import Derived.Test.YtjonnfmoocijlaaGreatE45
set_option linter.all false
namespace Go.Proofs.YtjonnfmoocijlaaGreat.P
open Go.RowKit Go.Proofs.YtjonnfmoocijlaaGreatKW.PrintWords
theorem XA (l : List Mb) (i : Nat) (h : i < l.length) : BC l (i : Int) = l[i] := by unfold BC;rw [Int.toNat_natCast,getD_at _ _ _ h]
section
variable {d : Int} {L : List (List Int)} {w n r : Nat} {T S : Int} (H : Lo d L w n r T S)
include H
def Tu (d : Int) (L : List (List Int)) (w n r : Nat) (T S : Int) (x j : Nat) : Mb :=
 match zo.f 400 d L T S (w : Int) (r : Int) (n : Int) (GH d.toNat L).2 (GH d.toNat L).1 (T * r) (T * r + S) (x : Int) (j : Int) with
 | none => ⟨0,0⟩
 | some p => ⟨p.1,p.2⟩
theorem Lo.a2V : (T * (r : Int)).toNat ≤ 5 * r := by
 have h2 := H.t1
 have h3 : T * (r : Int) ≤ 5 * r := Int.mul_le_mul_of_nonneg_right h2.2 (by omega)
 omega
theorem Lo.Tv (A : FB d L w n r) (x j : Nat) (hx : x < d.toNat) (hj : j < (T * (r : Int)).toNat) :
    Ev (fun k => zo.f k d L T S (w : Int) (r : Int) (n : Int) (GH d.toNat L).2 (GH d.toNat L).1 (T * r) (T * r + S) (x : Int) (j : Int)) ((Tu d L w n r T S x j).f0,(Tu d L w n r T S x j).f1) ∧
    (0 ≤ (Tu d L w n r T S x j).f0 ∧ (Tu d L w n r T S x j).f0.toNat / n = j / r ∧ 0 ≤ (Tu d L w n r T S x j).f1 ∧ (Tu d L w n r T S x j).f1 < (w : Int) ∧ Ed L w n r (Tu d L w n r T S x j).f0.toNat (Tu d L w n r T S x j).f1.toNat = ((x : Int),(j : Int))) := by
  have h1 := List.all_eq_true.1 (List.all_eq_true.1 (A.at_ T S (T * r) (T * r + S)) x (List.mem_range.2 hx)) j (List.mem_range.2 (Nat.lt_of_lt_of_le hj H.a2V))
  unfold Tu
  cases h : zo.f 400 d L T S (w : Int) (r : Int) (n : Int) (GH d.toNat L).2 (GH d.toNat L).1 (T * r) (T * r + S) (x : Int) (j : Int) with
  | none => rw [h] at h1;cases h1
  | some p =>
    rw [h] at h1
    exact ⟨Qt (fun k => zo.mono _ _ _ _ _ _ _ _ _ _ _ _ _ k) h,of_decide_eq_true h1⟩
theorem Lo.YZ (g : Int) (j : Nat) (h0 : 0 ≤ g) (hg : g.toNat / n = j / r) (hj : j < (T * (r : Int)).toNat) : g < T * n := by
 have hr := H.ok.r1
 have hn := H.ok.n1
 have ht := H.t1
 obtain ⟨t,rfl⟩ : ∃ t : Nat,T = (t : Int) := ⟨T.toNat,by omega⟩
 have e1 : ((t : Int) * (r : Int)).toNat = t * r := by rw [← Int.natCast_mul];exact Int.toNat_natCast _
 rw [e1] at hj
 have h2 : j / r < t := Nat.div_lt_of_lt_mul (by rw [Nat.mul_comm];exact hj)
 have h3 : g.toNat < n * t := by
  rw [← hg] at h2
  exact (Nat.div_lt_iff_lt_mul (by omega)).1 h2 |> fun h => by rw [Nat.mul_comm];exact h
 have h4 : ((g.toNat : Nat) : Int) < ((n * t : Nat) : Int) := Int.ofNat_lt.2 h3
 rw [Int.natCast_mul,Int.mul_comm] at h4
 omega
def Ef (d : Int) (L : List (List Int)) (w n r : Nat) (T S : Int) (x : Nat) : List Mb := (List.range (T * (r : Int)).toNat).map fun j => Tu d L w n r T S x j
theorem Lo.Zk (A : FB d L w n r) (x : Int) : Ev (fun k => Bg.f k d L T S x) (if 0 ≤ x ∧ x < d then (Ef d L w n r T S x.toNat,0) else ([],2)) := by
  have htr := H.tr
  have hsm : (T * (r : Int)).toNat ≤ 75 := by omega
  unfold Bg.f
  refine Ep H.measure (AA rfl ?_)
  by_cases c1 : x < 0
  · refine AA c1 ?_
    rw [if_neg (by omega)]
    exact Ev.now _
  refine BF c1 ?_
  by_cases c2 : x ≥ d
  · refine AA c2 ?_
    rw [if_neg (by omega)]
    exact Ev.now _
  refine BF c2 ?_
  rw [if_pos ⟨by omega,by omega⟩]
  obtain ⟨xn,rfl⟩ : ∃ xn : Nat,x = (xn : Int) := ⟨x.toNat,by omega⟩
  rw [Int.toNat_natCast]
  have hxn : xn < d.toNat := by omega
  have hl0 : ∀ t j : Nat,(T * (r : Int)).toNat - j = t → j ≤ (T * (r : Int)).toNat → Ev (fun k => Bg.l0 k (xn : Int) ((List.range j).map fun j => Tu d L w n r T S xn j) (T * r) (j : Int) d L T S (w : Int) (r : Int) (n : Int) (GH d.toNat L).2 (GH d.toNat L).1 (T * r) (T * r + S)) (Ef d L w n r T S xn,0) := by
    intro t
    induction t with
    | zero =>
      intro j ht hj
      obtain rfl : j = (T * (r : Int)).toNat := by omega
      refine evs (fun k => by rw [Bg.l0]) ?_
      exact BF (show ¬ (((T * (r : Int)).toNat : Nat) : Int) < T * r by omega) (Ev.now _)
    | succ t ih =>
      intro j ht hj
      have hlt : j < (T * (r : Int)).toNat := by omega
      have hstep := ih (j + 1) (by omega) hlt
      rw [← vv j (by omega),List.range_succ,List.map_append,List.map_singleton] at hstep
      have hlen : ((List.range j).map fun j => Tu d L w n r T S xn j).length < 8796093022208 := by rw [List.length_map,List.length_range];omega
      refine evs (fun k => by rw [Bg.l0]) ?_
      exact AA (show (j : Int) < T * r by omega) (Ep (Tv H A xn j hxn hlt).1 (AA hlen hstep))
  exact hl0 _ 0 rfl (Nat.zero_le _)
def Cw (ms : List Mv) (x : Int) : List Mb := (ms.filter fun m => m.f2.f0 == x).map fun m => ⟨m.f0,m.f1⟩
def BZ (d : Int) (L : List (List Int)) (w n r : Nat) (T S : Int) (ms : List Mv) (x : Nat) : List Mb := (Ef d L w n r T S x).filter fun y => !DW ms y.f0 y.f1
def He (l : List Mb) : List Mb := (Go.Sort.pdq (ltOf J6) l.toArray 0 l.length (Go.Lib.bitLen l.length) true true).toList
theorem Lo.Ra (A : FB d L w n r) (ms : List Mv) (hl : ms.length ≤ 1000) (hv : VM d L w n r T S ms) (x : Int) :
    Ev (fun k => zX.f k d L T S ms x) (if 0 ≤ x ∧ x < d then (He (BZ d L w n r T S ms x.toNat ++ Cw ms x),0) else ([],2)) := by
  have htr := H.tr
  have hsm : (T * (r : Int)).toNat ≤ 75 := by omega
  unfold zX.f
  refine Ep (H.check ms hl) ?_
  rw [if_pos hv]
  refine AA rfl ?_
  by_cases c1 : x < 0
  · refine AA c1 ?_
    rw [if_neg (by omega)]
    exact Ev.now _
  refine BF c1 ?_
  by_cases c2 : x ≥ d
  · refine AA c2 ?_
    rw [if_neg (by omega)]
    exact Ev.now _
  have hin : 0 ≤ x ∧ x < d := ⟨by omega,by omega⟩
  have hlo := Zk H A x
  rw [if_pos hin] at hlo ⊢
  refine BF c2 (Ep hlo ?_)
  have hhl : (Ef d L w n r T S x.toNat).length ≤ 75 := by unfold Ef;rw [List.length_map,List.length_range];exact hsm
  have hll : (BZ d L w n r T S ms x.toNat).length ≤ 75 := Nat.le_trans (List.length_filter_le _ _) hhl
  have hl1 : ∀ t j : Nat,ms.length - j = t → j ≤ ms.length → Ev (fun k => zX.l1 k x (BZ d L w n r T S ms x.toNat ++ Cw (ms.take j) x) ms (ms.length : Int) (j : Int)) (He (BZ d L w n r T S ms x.toNat ++ Cw ms x),0) := by
    intro t
    induction t with
    | zero =>
      intro j ht hj
      have hje : ms.length ≤ j := by omega
      rw [List.take_of_length_le hje]
      have hml : (Cw ms x).length ≤ ms.length := by unfold Cw;rw [List.length_map];exact List.length_filter_le _ _
      refine evs (fun k => by rw [zX.l1]) (BF (by omega) (GZ (a := He (BZ d L w n r T S ms x.toNat ++ Cw ms x)) ?_ (Ev.now _)))
      unfold Cx.f
      rw [if_pos (by rw [List.length_append];omega)]
      rfl
    | succ t ih =>
      intro j ht hj
      have hlt : j < ms.length := by omega
      have hstep := ih (j + 1) (by omega) hlt
      have hml : (Cw (ms.take j) x).length ≤ j := by
        unfold Cw
        rw [List.length_map]
        have := List.length_filter_le (fun m : Mv => m.f2.f0 == x) (ms.take j)
        rw [List.length_take] at this
        omega
      have hlen : (BZ d L w n r T S ms x.toNat ++ Cw (ms.take j) x).length < 8796093022208 := by rw [List.length_append];omega
      rw [← vv j (by omega),List.take_succ_eq_append_getElem hlt] at hstep
      unfold Cw at hstep hlen ⊢
      rw [List.filter_append,List.map_append] at hstep
      refine evs (fun k => by rw [zX.l1]) (AA (by omega) (AA (by omega) (AA (by omega) ?_)))
      rw [G5 ms j hlt]
      by_cases c : ms[j].f2.f0 = x
      · rw [List.filter_cons_of_pos (by simpa using c),List.filter_nil,List.map_singleton,← List.append_assoc] at hstep
        exact AA c (AA hlen hstep)
      · rw [List.filter_cons_of_neg (by simpa using c),List.filter_nil,List.map_nil,List.append_nil] at hstep
        exact BF c hstep
  have hl0 : ∀ t j : Nat,(Ef d L w n r T S x.toNat).length - j = t → j ≤ (Ef d L w n r T S x.toNat).length → Ev (fun k => zX.l0 k ms x (((Ef d L w n r T S x.toNat).take j).filter fun y => !DW ms y.f0 y.f1) (Ef d L w n r T S x.toNat) ((Ef d L w n r T S x.toNat).length : Int) (j : Int) d L T S ms (T * r) (T * r + S)) (He (BZ d L w n r T S ms x.toNat ++ Cw ms x),0) := by
    have h1 := hl1 _ 0 rfl (Nat.zero_le _)
    unfold Cw at h1
    rw [List.take_zero,List.filter_nil,List.map_nil,List.append_nil] at h1
    unfold BZ at h1 ⊢
    clear hlo hl1 hll
    generalize Ef d L w n r T S x.toNat = hl at hhl h1 ⊢
    intro t
    induction t with
    | zero =>
      intro j ht hj
      have hje : hl.length ≤ j := by omega
      rw [List.take_of_length_le hje]
      refine evs (fun k => by rw [zX.l0]) ?_
      exact BF (show ¬ (j : Int) < (hl.length : Int) by omega) h1
    | succ t ih =>
      intro j ht hj
      have hlt : j < hl.length := by omega
      have hstep := ih (j + 1) (by omega) hlt
      have hflen : ((hl.take j).filter fun y => !DW ms y.f0 y.f1).length < 8796093022208 := by
        have := List.length_filter_le (fun y : Mb => !DW ms y.f0 y.f1) (hl.take j)
        rw [List.length_take] at this
        omega
      rw [← vv j (by omega),List.take_succ_eq_append_getElem hlt,List.filter_append] at hstep
      refine evs (fun k => by rw [zX.l0]) (AA (by omega) (AA (by omega) (AA (by omega) ?_)))
      rw [XA hl j hlt]
      have hsr : Ev (fun k => yt.f k ms hl[j].f0 hl[j].f1) ((Ee ms hl[j].f0 hl[j].f1 : Int),DW ms hl[j].f0 hl[j].f1) := Jv ms hv.1.sorted (by omega) hl[j].f0 hl[j].f1
      refine Ep hsr ?_
      by_cases c : DW ms hl[j].f0 hl[j].f1 = true
      · rw [List.filter_cons_of_neg (by simp [c]),List.filter_nil,List.append_nil] at hstep
        exact AA c hstep
      · rw [List.filter_cons_of_pos (by simp [c]),List.filter_nil] at hstep
        exact BF c (AA hflen hstep)
  exact hl0 _ 0 rfl (Nat.zero_le _)
end
theorem Qu {ms : List Mv} (hs : Sorted ms) {m : Mv} (hm : m ∈ ms) : ms.find? (F3 m.f0 m.f1) = some m := by
  induction ms with
  | nil => cases hm
  | cons x xs ih =>
    have hs' := List.pairwise_cons.1 hs
    rcases List.mem_cons.1 hm with h | h
    · subst h
      exact List.find?_cons_of_pos (Dh.2 ⟨rfl,rfl⟩)
    · have h1 := hs'.1 m h
      rw [List.find?_cons_of_neg (by rw [Dh];unfold Ahead at h1;omega)]
      exact ih hs'.2 h
theorem KH : ∀ (a b : List Mb),a.Pairwise (fun x y => x.f0 < y.f0) → b.Pairwise (fun x y => x.f0 < y.f0) → (∀ y,y ∈ a ↔ y ∈ b) → a = b
  | [],b,_,_,h => by
    cases b with
    | nil => rfl
    | cons y b => have := (h y).2 (List.mem_cons_self ..);cases this
  | x :: a,[],_,_,h => by have := (h x).1 (List.mem_cons_self ..);cases this
  | x :: a,y :: b,ha,hb,h => by
    have h1 := List.pairwise_cons.1 ha
    have h2 := List.pairwise_cons.1 hb
    have e : x = y := by
      rcases List.mem_cons.1 ((h x).1 (List.mem_cons_self ..)) with e | hx
      · exact e
      · rcases List.mem_cons.1 ((h y).2 (List.mem_cons_self ..)) with e | hy
        · exact e.symm
        · have := h1.1 y hy
          have := h2.1 x hx
          omega
    subst e
    rw [KH a b h1.2 h2.2 fun z => ?_]
    constructor
    · intro hz
      rcases List.mem_cons.1 ((h z).1 (List.mem_cons_of_mem _ hz)) with e | hz'
      · subst e
        have := h1.1 z hz
        omega
      · exact hz'
    · intro hz
      rcases List.mem_cons.1 ((h z).2 (List.mem_cons_of_mem _ hz)) with e | hz'
      · subst e
        have := h2.1 z hz
        omega
      · exact hz'
theorem Xz {l : List Mb} (hp : l.Pairwise fun a b => a.f0 ≤ b.f0) (hn : l.Nodup) (hu : ∀ a ∈ l,∀ b ∈ l,a.f0 = b.f0 → a = b) : l.Pairwise fun a b => a.f0 < b.f0 := by
 rw [List.pairwise_iff_getElem] at hp ⊢
 rw [List.nodup_iff_pairwise_ne,List.pairwise_iff_getElem] at hn
 intro i j hi hj hij
 have h1 := hp i j hi hj hij
 have h2 := hn i j hi hj hij
 have h3 := hu _ (List.getElem_mem hi) _ (List.getElem_mem hj)
 have h4 : ¬ l[i].f0 = l[j].f0 := fun e => h2 (h3 e)
 omega
section
variable {d : Int} {L : List (List Int)} {w n r : Nat} {T S : Int} (H : Lo d L w n r T S)
include H
theorem Lo.YM (A : FB d L w n r) (g i : Nat) (hg : (g : Int) < T * n) (hi : i < w) : 0 ≤ (Ed L w n r g i).1 ∧ (Ed L w n r g i).1 < d ∧ 0 ≤ (Ed L w n r g i).2 ∧ (Ed L w n r g i).2.toNat < (T * (r : Int)).toNat ∧ Tu d L w n r T S (Ed L w n r g i).1.toNat (Ed L w n r g i).2.toNat = ⟨(g : Int),(i : Int)⟩ := by
  have hn := H.ok.n1
  have ht := H.t1
  have hgi := H.inG (Int.natCast_nonneg g) hg
  rw [Int.toNat_natCast] at hgi
  have h1 := List.all_eq_true.1 (List.all_eq_true.1 (A.back T S (T * r) (T * r + S)) g (List.mem_range.2 hgi)) i (List.mem_range.2 hi)
  obtain ⟨h2,h3,h4,h5,h6⟩ := of_decide_eq_true h1
  refine ⟨h2,h3,h4,Nat.lt_of_lt_of_le h5 ?_,?_⟩
  · obtain ⟨t,rfl⟩ : ∃ t : Nat,T = (t : Int) := ⟨T.toNat,by omega⟩
    have e1 : ((t : Int) * (r : Int)).toNat = t * r := by rw [← Int.natCast_mul];exact Int.toNat_natCast _
    rw [e1]
    have h7 : g < t * n := by
      have : (g : Int) < ((t * n : Nat) : Int) := by rw [Int.natCast_mul];exact hg
      omega
    have h8 : g / n < t := (Nat.div_lt_iff_lt_mul (by omega)).2 h7
    exact Nat.mul_le_mul_right _ h8
  · unfold Tu
    rw [Int.toNat_of_nonneg h2,Int.toNat_of_nonneg h4,h6]
theorem Lo.LY (A : FB d L w n r) (x : Nat) (hx : x < d.toNat) (y : Mb) : y ∈ Ef d L w n r T S x ↔ (0 ≤ y.f0 ∧ y.f0 < T * n ∧ 0 ≤ y.f1 ∧ y.f1 < (w : Int)) ∧ (Ed L w n r y.f0.toNat y.f1.toNat).1 = (x : Int) := by
  unfold Ef
  rw [List.mem_map]
  constructor
  · rintro ⟨j,hj,rfl⟩
    have hj' := List.mem_range.1 hj
    obtain ⟨_,h1,h2,h3,h4,h5⟩ := Tv H A x j hx hj'
    exact ⟨⟨h1,YZ H _ j h1 h2 hj',h3,h4⟩,by rw [h5]⟩
  · rintro ⟨⟨h1,h2,h3,h4⟩,h5⟩
    obtain ⟨_,_,b3,b4,b5⟩ := YM H A y.f0.toNat y.f1.toNat (by omega) (by omega)
    refine ⟨_,List.mem_range.2 b4,?_⟩
    rw [h5,Int.toNat_natCast] at b5
    rw [b5,Int.toNat_of_nonneg h1,Int.toNat_of_nonneg h3]
theorem Lo.Oa (A : FB d L w n r) (x : Nat) (hx : x < d.toNat) : (Ef d L w n r T S x).Nodup := by
 unfold Ef
 rw [List.nodup_iff_pairwise_ne,List.pairwise_iff_getElem]
 intro i j hi hj hij he
 simp only [List.length_map,List.length_range] at hi hj
 simp only [List.getElem_map,List.getElem_range] at he
 have h1 := (Tv H A x i hx hi).2.2.2.2.2
 have h2 := (Tv H A x j hx hj).2.2.2.2.2
 rw [he,h2] at h1
 have := (Prod.mk.inj h1).2
 omega
theorem Lo.Ta (A : FB d L w n r) (ms : List Mv) (hv : VM d L w n r T S ms) (x : Int) (hx : 0 ≤ x ∧ x < d) (y : Mb) :
    y ∈ BZ d L w n r T S ms x.toNat ++ Cw ms x ↔ (0 ≤ y.f0 ∧ y.f0 < T * n ∧ 0 ≤ y.f1 ∧ y.f1 < (w : Int)) ∧ (BN L w n r ms y.f0 y.f1).1 = x := by
  have hs := hv.1.sorted
  have hxt : ((x.toNat : Nat) : Int) = x := by omega
  rw [List.mem_append]
  constructor
  · rintro (h | h)
    · unfold BZ at h
      obtain ⟨h1,h2⟩ := List.mem_filter.1 h
      obtain ⟨h3,h4⟩ := (LY H A x.toNat (by omega) y).1 h1
      refine ⟨h3,?_⟩
      have h5 : DW ms y.f0 y.f1 = false := by simpa using h2
      rw [Ja hs] at h5
      have h6 : ms.find? (F3 y.f0 y.f1) = none := by
        cases hf : ms.find? (F3 y.f0 y.f1) with
        | none => rfl
        | some m => rw [hf] at h5;cases h5
      unfold BN
      rw [h6]
      exact h4.trans hxt
    · unfold Cw at h
      obtain ⟨m,h1,rfl⟩ := List.mem_map.1 h
      obtain ⟨h2,h3⟩ := List.mem_filter.1 h1
      refine ⟨hv.1.OM m h2,?_⟩
      unfold BN
      rw [Qu hs h2]
      simpa using h3
  · rintro ⟨h1,h2⟩
    unfold BN at h2
    cases hf : ms.find? (F3 y.f0 y.f1) with
    | some m =>
      rw [hf] at h2
      right
      have h3 := Dh.1 (List.find?_some hf)
      unfold Cw
      refine List.mem_map.2 ⟨m,List.mem_filter.2 ⟨List.mem_of_find?_eq_some hf,by simpa using h2⟩,?_⟩
      rw [h3.1,h3.2]
    | none =>
      rw [hf] at h2
      left
      unfold BZ
      refine List.mem_filter.2 ⟨(LY H A x.toNat (by omega) y).2 ⟨h1,h2.trans hxt.symm⟩,?_⟩
      rw [Ja hs,hf]
      rfl
theorem Lo.PR (ms : List Mv) (hv : VM d L w n r T S ms) (g a b : Int) (hg : 0 ≤ g ∧ g < T * n) (ha : 0 ≤ a ∧ a < (w : Int)) (hb : 0 ≤ b ∧ b < (w : Int)) (h : (BN L w n r ms g a).1 = (BN L w n r ms g b).1) : a = b := by
  have hn := H.LM ms hv g hg.1 hg.2
  unfold Av at hn
  rw [UW] at hn
  by_cases e : a = b
  · exact e
  · refine absurd ?_ (hn a.toNat (by omega) b.toNat (by omega) (by omega))
    rw [Int.toNat_of_nonneg ha.1,Int.toNat_of_nonneg hb.1]
    exact h
theorem Lo.KI (A : FB d L w n r) (ms : List Mv) (hv : VM d L w n r T S ms) (x : Int) (hx : 0 ≤ x ∧ x < d) :
    (∀ y,y ∈ He (BZ d L w n r T S ms x.toNat ++ Cw ms x) ↔ (0 ≤ y.f0 ∧ y.f0 < T * n ∧ 0 ≤ y.f1 ∧ y.f1 < (w : Int)) ∧ (BN L w n r ms y.f0 y.f1).1 = x) ∧
    (He (BZ d L w n r T S ms x.toNat ++ Cw ms x)).Pairwise fun a b => a.f0 < b.f0 := by
  have hs := hv.1.sorted
  have hsp := K3 (BZ d L w n r T S ms x.toNat ++ Cw ms x)
  have hmem : ∀ y,y ∈ He (BZ d L w n r T S ms x.toNat ++ Cw ms x) ↔ (0 ≤ y.f0 ∧ y.f0 < T * n ∧ 0 ≤ y.f1 ∧ y.f1 < (w : Int)) ∧ (BN L w n r ms y.f0 y.f1).1 = x := by
    intro y
    rw [← Ta H A ms hv x hx y]
    exact hsp.1.mem_iff
  refine ⟨hmem,Xz hsp.2 (hsp.1.nodup_iff.2 ?_) fun a ha b hb he => ?_⟩
  · rw [List.nodup_append]
    refine ⟨List.Pairwise.sublist List.filter_sublist (Oa H A x.toNat (by omega)),?_,?_⟩
    · unfold Cw
      rw [List.nodup_iff_pairwise_ne,List.pairwise_map]
      refine List.Pairwise.imp ?_ (List.Pairwise.sublist List.filter_sublist hs)
      intro a b h e
      have e1 : a.f0 = b.f0 := congrArg (fun z : Mb => z.f0) e
      have e2 : a.f1 = b.f1 := congrArg (fun z : Mb => z.f1) e
      unfold Ahead at h
      omega
    · intro a ha b hb e
      subst e
      unfold BZ at ha
      unfold Cw at hb
      obtain ⟨m,h1,rfl⟩ := List.mem_map.1 hb
      have h2 := (List.mem_filter.1 h1).1
      have h3 := (List.mem_filter.1 ha).2
      rw [Ja hs] at h3
      simp only at h3
      rw [Qu hs h2] at h3
      cases h3
  · obtain ⟨a1,a2⟩ := (hmem a).1 ha
    obtain ⟨b1,b2⟩ := (hmem b).1 hb
    rw [← he] at b2
    have h1 := PR H ms hv a.f0 a.f1 b.f1 ⟨a1.1,a1.2.1⟩ ⟨a1.2.2.1,a1.2.2.2⟩ ⟨b1.2.2.1,b1.2.2.2⟩ (a2.trans b2.symm)
    cases a;cases b
    simp only at he h1
    subst he h1
    rfl
end
end Go.Proofs.YtjonnfmoocijlaaGreat.P
