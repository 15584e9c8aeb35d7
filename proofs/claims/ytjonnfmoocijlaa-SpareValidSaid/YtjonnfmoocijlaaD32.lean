/- Texts of a claim, packed. -/
import Derived.Lib.SliceRun
import Derived.Deep.RegionLaw
import Derived.Test.YtjonnfmoocijlaaD2
import Derived.Test.YtjonnfmoocijlaaD4
set_option linter.all false
namespace Go.Proofs.Ytjonnfmoocijlaa.P
open Go.RowKit Go.Proofs.YtjonnfmoocijlaaKW.PrintWords Go.Proofs.YtjonnfmoocijlaaKW.PrintLast Go.Proofs.YtjonnfmoocijlaaKW.PrintMore
def Cv.f (l : List AY) : Option (List AY) := if l.length < 4398046511104 then some l else none
set_option maxHeartbeats 1000000 in
set_option maxRecDepth 100000 in
theorem Cv.calls (A0 : Option Addr) (c0 : Nat) (l0 : List AY) (r : List AY) (w : World) (hr0 : Kd.C Dy w A0 l0.length l0) (hc0 : l0.length ≤ c0) (h : Cv.f l0 = some r) :
    Calls Try.prog 40 #[.slice A0 l0.length c0] w fun e w' => ∃ Gw : Value, e = .returned Gw ∧ Kd.R Dy 47 w' w.heap.size (fun _ => True) Gw r ∧ Below w.heap.size w w' := by
  have hnil : ∀ (w : World) (a : Option Addr) (n c n' c' : Nat), (binOp .eql 33 (.slice a n c) (.slice none n' c')).run Try.prog w = .ok (.bool a.isNone) w := fun w a n c n' c' => Lib.run_eql_slice_nil w _ _ a n c n' c' Try.underlying33
  unfold Cv.f at h
  by_cases hl : l0.length < 4398046511104
  · rw [if_pos hl] at h
    obtain rfl := Option.some.inj h
    rcases A0 with _ | ad
    · have h0 : l0 = [] := by
        rcases Nat.eq_zero_or_pos l0.length with h | h
        · exact List.eq_nil_of_length_eq_zero h
        · obtain ⟨ad, h, _⟩ := hr0.2.2 h
          cases h
      subst h0
      go_enter Try.func40, Try.ntmps40
      go_wp2
      go_ret
      exact ⟨_, rfl, Kd.Dh _ _ _ _ _, Below.refl _ _⟩
    · have Lm := yf.mk hr0
      have WM := yf.mk hc0
      have HL := yf.mk hl
      clear hr0 hc0 hl h
      have HB := yf.mk (Below.refl w.heap.size w)
      go_enter Try.func40, Try.ntmps40
      go_wp2_with (first
        | ((with_reducible refine yK (N := 5) rfl ?_); refine Kd.Hf Dy _ 47 ?hg (N := 5) ?hd (xs := ([] : List (AY))) (inner := []) (ok := fun _ => True) (okp := fun _ => True) ?hr ?hp (fun _ hk => hk) trivial (Below.refl _ _) (Nat.le_refl _) (by simp) ?_; (case hd => rfl); (case hg => rfl); (case hr => first | (go_simp; done) | (go_simp; rfl)); (case hp => exact (Bo.none _ _)); intro v545 w3 ho4 hb H5 CG; clear H5 CG; have aa := yf.mk (Kd.AL ho4 (yJ (bO HB))); replace HB := bS HB hb; clear hb ho4)
        | ((with_reducible refine Bz (b := .append) (xs := #[.tmp 5, .tmp 6]) rfl ?_); at_builtin; refine Kd.F4 Dy (w0 := w) w.heap.size rfl (.tmp 5) (.tmp 6) 33 47 (.agg #[(.int .i64 0), (.int .i64 0), (.int .i64 0), (.int .i64 0)]) 32 rfl Try.underlying33 Le rfl (by decide) (by omega) v545 [] l0 _ _ _ (fun _ => True) (fun _ => False) rfl rfl ?aO ?aR (fun _ _ h => h) (fun _ h => h.elim) ?aF ?aB ?aS ?aL ?_; (case aR => exact (Kd.Ci Lm.out HB.out)); (case aB => exact (bO HB)); (case aF => exact (fun _ _ => trivial)); (case aO => exact (kR aa)); (case aS => exact (yJ (bO HB))); (case aL => have := HL.out; simp only [List.length_nil]; omega); intro v548 w5 ho hb hg hat; rw [List.nil_append] at ho; have Bt := yf.mk (hb); have Bu := yf.mk (ho); clear HB; clear aa; have HB := Bt; have ae := Bu; clear Bt Bu; clear ho hb hg hat))
      go_ret
      exact ⟨_, rfl, ae.out, bO HB⟩
  · rw [if_neg hl] at h
    cases h
def Pv (x : AY) : List Value := [.int .i64 x.f0, .int .i64 x.f1, .int .i64 x.f2.f0, .int .i64 x.f2.f1]
def Av (l : List AY) : List Value := l.flatMap Pv
theorem DJ (l : List AY) : (Av l).length = l.length * 4 := by
 induction l with
 | nil => rfl
 | cons x l ih => rw [Av, List.flatMap_cons, List.length_append, ← Av, ih]; simp [Pv]; omega
theorem Ju (a b : List AY) : Av (a ++ b) = Av a ++ Av b := List.flatMap_append
theorem Iq (u : Value) (l : List AY) (h : u ∈ Av l) : u.oneCell' = true := by
 obtain ⟨x, _, hx⟩ := List.mem_flatMap.1 h
 simp only [Pv, List.mem_cons, List.not_mem_nil, or_false] at hx
 rcases hx with rfl | rfl | rfl | rfl <;> rfl
theorem IX (x : AY) (l : List AY) : Av (x :: l) = Pv x ++ Av l := List.flatMap_cons
theorem M0 (l : List AY) (n : Nat) : Av (l.take n) = (Av l).take (n * 4) := by
 induction l generalizing n with
 | nil => simp [Av]
 | cons x l ih =>
  cases n with
  | zero => simp [Av]
  | succ n =>
   rw [List.take_succ_cons, IX, IX, ih, Nat.succ_mul, List.take_append, show (Pv x).length = 4 from rfl, Nat.add_sub_cancel, List.take_of_length_le (l := Pv x) (by show 4 ≤ n * 4 + 4; omega)]
theorem IY (l : List AY) (n : Nat) : Av (l.drop n) = (Av l).drop (n * 4) := by
 induction l generalizing n with
 | nil => simp [Av]
 | cons x l ih =>
  cases n with
  | zero => simp [Av]
  | succ n =>
   rw [List.drop_succ_cons, IX, ih, Nat.succ_mul, List.drop_append, show (Pv x).length = 4 from rfl, Nat.add_sub_cancel, List.drop_of_length_le (l := Pv x) (by show 4 ≤ n * 4 + 4; omega), List.nil_append]
theorem VQ {w : World} {base : Nat} {ok : Nat → Prop} {l : List AY} {cs : List Value} (h : Bo (Dy.M w base ok) 4 l cs) : cs = Av l := by
 induction l generalizing cs with
 | nil => exact List.eq_nil_of_length_eq_zero (by rw [h.1]; simp)
 | cons x l ih =>
  have h0 := JJ (h.2 0 x rfl)
  rw [Nat.zero_mul, List.drop_zero] at h0
  have h1 : cs.drop 4 = Av l := ih ⟨by rw [List.length_drop, h.1]; simp; omega, fun j p hj => by
   have := h.2 (j + 1) p (by simpa using hj)
   rw [List.drop_drop, show 4 + j * 4 = (j + 1) * 4 by omega]
   exact this⟩
  rw [← List.take_append_drop 4 cs, h0, h1]
  rfl
theorem VR (w : World) (base : Nat) (ok : Nat → Prop) (l : List AY) : Bo (Dy.M w base ok) 4 l (Av l) := by
 refine ⟨DJ l, fun j p hj => ?_⟩
 obtain ⟨hl, rfl⟩ := List.getElem?_eq_some_iff.1 hj
 rw [← IY, List.drop_eq_getElem_cons hl]
 exact NL w base ok _
theorem GD {w : World} {base : Nat} {ok : Nat → Prop} {u : Value} {l : List AY} (h : Kd.R Dy 47 w base ok u l) :
    (u = .slice none 0 0 ∧ l = []) ∨ ∃ g cap cur, u = .slice (some ⟨g, 0, none⟩) l.length cap ∧ ok g ∧ base ≤ g ∧ w.heap[g]? = some (.cells cur 47 (0, 0)) ∧ l.length ≤ cap ∧ cap ≤ maxLen ∧ cur.size = cap * 4 ∧ cur.toList.take (l.length * 4) = Av l := by
  obtain ⟨h0, inner, ho, hr⟩ := h
  have hin := VQ hr
  subst hin
  rcases ho.2 with ⟨rfl, hn⟩ | ⟨g, cap, cur, rfl, hb, hh, h1, h2, h3, h4⟩
  · exact .inl ⟨rfl, List.eq_nil_of_length_eq_zero hn⟩
  · exact .inr ⟨g, cap, cur, rfl, h0 g rfl, hb, hh, h1, h2, h3, h4⟩
theorem Ob {w : World} {base : Nat} {ok : Nat → Prop} {l : List AY} {g cap : Nat} {cur : Array Value} (hok : ok g) (hb : base ≤ g) (hh : w.heap[g]? = some (.cells cur 47 (0, 0))) (h1 : l.length ≤ cap) (h2 : cap ≤ maxLen) (h3 : cur.size = cap * 4)
    (h4 : cur.toList.take (l.length * 4) = Av l) : Kd.R Dy 47 w base ok (.slice (some ⟨g, 0, none⟩) l.length cap) l :=
  ⟨fun k hk => by simp [Value.ownBlock] at hk; subst hk; exact hok, Av l, ⟨DJ l, .inr ⟨g, cap, cur, rfl, hb, hh, h1, h2, h3, h4⟩⟩, VR w base _ l⟩
theorem CY (g t : Nat) : ∀ (vs : List Value) (o : Nat) (w : World) (cur : Array Value), w.heap[g]? = some (.cells cur t (0, 0)) → o + vs.length ≤ cur.size →
    ∃ cur', (w.setCells g o vs).heap[g]? = some (.cells cur' t (0, 0)) ∧ cur'.size = cur.size ∧ cur'.toList = cur.toList.take o ++ vs ++ cur.toList.drop (o + vs.length)
  | [], o, w, cur, h, _ => ⟨cur, h, rfl, by simp⟩
  | v :: vs, o, w, cur, h, hl => by
    rw [List.length_cons] at hl
    obtain ⟨cur', h1, h2, h3⟩ := CY g t vs (o + 1) _ _ (KJ h o v) (by simp; omega)
    refine ⟨cur', h1, by simpa using h2, ?_⟩
    rw [h3, Array.toList_setIfInBounds]
    apply List.ext_getElem?
    intro i
    simp only [List.getElem?_append, List.getElem?_take, List.getElem?_drop, List.length_append, List.length_take, List.length_set, List.length_cons, List.getElem?_set, Array.length_toList, List.getElem?_cons]
    have ho : o < cur.size := by omega
    rcases Nat.lt_trichotomy i o with hi | rfl | hi
    · simp [show i < o + 1 by omega, show i < cur.size by omega, hi, show ¬ o = i by omega, show min (o + 1) cur.size = o + 1 by omega, show min o cur.size = o by omega, show i < o + 1 + vs.length by omega, show i < o + (vs.length + 1) by omega]
    · simp [show i < cur.size by omega, show min (i + 1) cur.size = i + 1 by omega, show min i cur.size = i by omega]
      intro h9; omega
    · have e1 : min (o + 1) cur.size = o + 1 := by omega
      have e2 : min o cur.size = o := by omega
      by_cases h5 : i < o + 1 + vs.length
      · simp [e1, e2, h5, show ¬ i < o + 1 by omega, show ¬ i < o by omega, show i < o + (vs.length + 1) by omega, show ¬ i - o = 0 by omega, show i - (o + 1) = i - o - 1 by omega]
      · simp [e1, e2, h5, show ¬ i < o + (vs.length + 1) by omega, show o + 1 + vs.length + (i - (o + 1 + vs.length)) = o + (vs.length + 1) + (i - (o + (vs.length + 1))) by omega, show ¬ o = o + (vs.length + 1) + (i - (o + (vs.length + 1))) by omega]
theorem MG (w : World) (g o : Nat) (v : Value) : w.grownBy (w.setCell ⟨g, o, none⟩ v) (some g) :=
 ⟨rfl, rfl, rfl, by simp [World.setCell], fun k hk hne => Below.heap_setCell w ⟨g, o, none⟩ v k (fun h => hne (by rw [h]))⟩
theorem CZ (g : Nat) : ∀ (vs : List Value) (o : Nat) (w : World), w.grownBy (w.setCells g o vs) (some g)
 | [], o, w => World.grownBy.refl w _
 | v :: vs, o, w => World.grownBy.trans (MG w g o v) (CZ g vs (o + 1) _)
def CS.f (l : List AY) (i j : Int) : Option (List AY) := if 0 ≤ i ∧ i.toNat < l.length ∧ j = i + 1 then some (l.eraseIdx i.toNat) else none
theorem QN (W : World) (ty : TypeId) (g o c : Nat) (cur : Array Value) (hh : W.heap[g]? = some (.cells cur 47 (0, 0))) (ho : o + 4 ≤ cur.size) :
    (Builtin.clear_ #[33] ty #[.slice (some ⟨g, o, none⟩) 1 c]).run Try.prog W = .ok (.tuple #[]) (W.setCells g o [.int .i64 0, .int .i64 0, .int .i64 0, .int .i64 0]) := by
  have hst := run_storeCells_cells (P := Try.prog) g o [.int .i64 0, .int .i64 0, .int .i64 0, .int .i64 0] 0 W (fun j hj => by rw [yz hh, Array.getElem?_eq_getElem (by simp at hj; omega)]; rfl) (fun j hj => zm hh _) (by intro u hu; simp only [List.mem_cons, List.not_mem_nil, or_false] at hu; rcases hu with rfl | rfl | rfl | rfl <;> rfl)
  rw [Nat.add_zero] at hst
  have hz : (Builtin.zeroCells (Value.agg #[.int .i64 0, .int .i64 0, .int .i64 0, .int .i64 0]).cells 1).toList = [.int .i64 0, .int .i64 0, .int .i64 0, .int .i64 0] := by simp [Builtin.zeroCells, Value.cells]; rfl
  have hv : ∀ w, (zeroValue 47).run Try.prog w = .ok (Value.agg #[.int .i64 0, .int .i64 0, .int .i64 0, .int .i64 0]) w := Try.zeroValue47
  simp [Builtin.clear_, run_underlying Try.underlying33, hv, hz, hst]
set_option maxHeartbeats 1000000 in
set_option maxRecDepth 100000 in
theorem CS.calls (GI : Nat → Prop) (Ee : Value) (l0 : List AY) (a1 a2 : Int) (r : List AY) (w0 w : World) (hB : Below w0.heap.size w0 w) (ho0 : Kd.R Dy 47 w w0.heap.size GI Ee l0) (h : CS.f l0 a1 a2 = some r) :
    Calls Try.prog 43 #[Ee, .int .i64 a1, .int .i64 a2] w fun e w' => ∃ Gw : Value, e = .returned Gw ∧ Kd.R Dy 47 w' w0.heap.size (fun k_ => (GI k_ ∨ w.heap.size ≤ k_)) Gw r ∧ Below w0.heap.size w0 w' ∧ Kept w w' (fun k_ => GI k_) := by
  unfold CS.f at h
  by_cases hc : 0 ≤ a1 ∧ a1.toNat < l0.length ∧ a2 = a1 + 1
  · rw [if_pos hc] at h
    obtain rfl := Option.some.inj h
    obtain ⟨hc1, hc2, rfl⟩ := hc
    obtain ⟨k, rfl⟩ : ∃ k : Nat, a1 = (k : Int) := ⟨a1.toNat, by omega⟩
    rw [Int.toNat_natCast] at hc2 ⊢
    rcases GD ho0 with ⟨rfl, rfl⟩ | ⟨g, cap, cur, rfl, hP, hb, hh, h1, h2, h3, h4⟩
    · simp at hc2
    · have hcap : cap ≤ 9223372036854775807 := h2
      have e1 : (((k : Nat) : Int) + 1) = ((k + 1 : Nat) : Int) := by omega
      rw [e1]
      obtain ⟨m, hm⟩ : ∃ m, l0.length = m + 1 := ⟨l0.length - 1, by omega⟩
      rw [hm] at ho0 hc2 h1 ⊢
      have HO := yf.mk ho0
      have HBB := yf.mk hB
      have HP := yf.mk hP
      have HG := yf.mk hb
      have HM := yf.mk hm
      clear ho0 hB hh h4 h3 e1 hP hb hm
      have hic : k ≤ cap := by omega
      have hjc : k + 1 ≤ cap := by omega
      have hk0 : 0 ≤ (k : Int) + 1 := by omega
      have hk1 : (k : Int) + 1 ≤ (m : Int) + 1 := by omega
      have hA : (if cap = k + 1 then some (⟨g, 0, none⟩ : Addr) else some ⟨g, (k + 1) * 4, none⟩) = if cap = k + 1 then some (⟨g, 0, none⟩ : Addr) else (some (⟨g, 0, none⟩ : Addr)).map (·.add ((k + 1) * Dy.sz)) := by
        split
        · rfl
        · show _ = some (Addr.add ⟨g, 0, none⟩ ((k + 1) * 4))
          simp [Addr.add]
      replace hA := yf.mk hA
      have t1 : (k == k + 1) = false := by simp
      have t1' : ((k : Int) == ((k + 1 : Nat) : Int)) = false := by simp; omega
      go_enter Try.func43, Try.ntmps43
      go_wp2
      go_region_law (refine Kd.Me Dy (w0 := w0) w0.heap.size (by rfl) (.tmp 22) (.tmp 25) 33 47 rfl Try.underlying33 (by rfl) (g := g) (n := m + 1) (c := cap) (k := k) rfl rfl hA.out (by omega) (xs := l0) (ok := GI) (Kd.Cr HO.out) hc2 HBB.out.drew HBB.out.size ?_; intro w1 ho hb hg; have HO1 := yf.mk ho; have HB1 := yf.mk hb; have Wo := yf.mk hg; clear ho hb hg)
      obtain ⟨cur, hh, hcs, hct⟩ : ∃ cur, w1.heap[g]? = some (.cells cur 47 (0, 0)) ∧ cur.size = cap * 4 ∧ cur.toList.take ((l0.eraseIdx k).length * 4) = Av (l0.eraseIdx k) := by
        rcases GD HO1.out with ⟨h, _⟩ | ⟨g', cap', cur, h, _, _, hh, _, _, h3, h4⟩
        · cases h
        · injection h with h5 _ h6
          injection h5 with h5
          injection h5 with h5
          subst h5; subst h6
          exact ⟨cur, hh, h3, h4⟩
      have hel : (l0.eraseIdx k).length = m := by rw [List.length_eraseIdx, if_pos (by have := HM.out; omega), HM.out]; omega
      have hmc : m ≤ cap := by omega
      have hm1 : (cap = m) = False := eq_false (by omega)
      have hcl := QN w1 0 g (m * 4) (cap - m) cur hh (by omega)
      have e2 : m + 1 - m = 1 := by omega
      obtain ⟨cur', k1, k2, k3⟩ := CY g 47 [.int .i64 0, .int .i64 0, .int .i64 0, .int .i64 0] (m * 4) w1 cur hh (by simp; omega)
      have KG := yf.mk (CZ g [.int .i64 0, .int .i64 0, .int .i64 0, .int .i64 0] (m * 4) w1)
      obtain ⟨w2, hw2⟩ : ∃ w2, w1.setCells g (m * 4) [.int .i64 0, .int .i64 0, .int .i64 0, .int .i64 0] = w2 := ⟨_, rfl⟩
      rw [hw2] at hcl k1 KG
      have hR : Kd.R Dy 47 w2 w0.heap.size (fun k_ => (GI k_ ∨ w.heap.size ≤ k_)) (.slice (some ⟨g, 0, none⟩) m cap) (l0.eraseIdx k) := by
        have h5 := Ob (w := w2) (base := w0.heap.size) (ok := fun k_ => (GI k_ ∨ w.heap.size ≤ k_)) (l := l0.eraseIdx k) (cap := cap) (.inl HP.out) HG.out k1 (by omega) h2 (by omega) (by rw [k3, hel, List.append_assoc, List.take_append_of_le_length (by rw [List.length_take, Array.length_toList]; omega), List.take_take, Nat.min_self, ← hel]; exact hct)
        rwa [hel] at h5
      have hBn : Below w0.heap.size w0 w2 := HB1.out.grown KG.out HB1.out.size (fun k hk => by injection hk with hk; subst hk; exact HG.out)
      have hKp : Kept w w2 (fun k_ => GI k_) := ⟨Nat.le_trans Wo.out.size KG.out.size, fun j hj hn => (KG.out.block j (Nat.lt_of_lt_of_le hj Wo.out.size) (fun e => hn (by injection e with e; rw [e]; exact HP.out))).trans (Wo.out.block j hj (fun e => hn (by injection e with e; rw [e]; exact HP.out)))⟩
      have HR2 : cap = k + 1 → Kd.R Dy 47 w2 w0.heap.size (fun k_ => (GI k_ ∨ w.heap.size ≤ k_)) (.slice (some ⟨g, 0, none⟩) m (k + 1)) (l0.eraseIdx k) := fun h => h ▸ hR
      replace HR2 := yf.mk HR2
      have HR := yf.mk hR
      have HBN := yf.mk hBn
      have HKP := yf.mk hKp
      clear hw2 k1 k2 k3 hh hct hcs hR hBn hKp KG HB1 HO1 Wo hel
      go_wp2
      all_goals (go_ret; first | exact ⟨_, rfl, HR.out, HBN.out, HKP.out⟩ | exact ⟨_, rfl, HR2.out (by assumption), HBN.out, HKP.out⟩)
  · rw [if_neg hc] at h
    cases h
end Go.Proofs.Ytjonnfmoocijlaa.P
