/- Texts of a claim, packed. -/
import Derived.Lib.SliceRun
import Derived.Deep.RegionLaw
import Derived.Test.YtjonnfmoocijlaaC37
set_option linter.all false
namespace Go.Proofs.Ytjonnfmoocijlaa.P
open Go.RowKit Go.Proofs.YtjonnfmoocijlaaKW.PrintWords
theorem VA (w : Nat) (f : Nat → Int) : ((List.range w).map f).Nodup ↔ ∀ a, a < w → ∀ b, b < w → a ≠ b → f a ≠ f b := by
  rw [List.nodup_iff_pairwise_ne, List.pairwise_iff_getElem]
  simp only [List.length_map, List.length_range, List.getElem_map, List.getElem_range]
  constructor
  · intro h a ha b hb hab he
    rcases Nat.lt_or_ge a b with h1 | h1
    · exact h a b ha hb h1 he
    · exact h b a hb ha (by omega) he.symm
  · intro h i j hi hj hij
    exact h i hi j hj (by omega)
theorem LP (w : Nat) (f f' : Nat → Int) (i : Nat) (hi : i < w) (he : ∀ k, k ≠ i → f' k = f k) (hf : ((List.range w).map f).Nodup) : ((List.range w).map f').Nodup ↔ ∀ k, k < w → k ≠ i → f k ≠ f' i := by
  rw [VA] at hf ⊢
  constructor
  · intro h k hk hki
    rw [← he k hki]
    exact h k hk i hi hki
  · intro h a ha b hb hab
    by_cases c1 : a = i
    · subst c1
      rw [he b (fun e => hab e.symm)]
      exact fun e => h b hb (fun e => hab e.symm) e.symm
    · rw [he a c1]
      by_cases c2 : b = i
      · subst c2
        exact h a ha c1
      · rw [he b c2]
        exact hf a ha b hb hab
section
variable {d : Int} {L : List (List Int)} {w n r : Nat} {T S : Int} (H : Lo d L w n r T S)
include H
theorem Lo.RU (ms : List Mv) (hs : Sorted ms) (hin : Pv w (T * n) ms) (hr : ∀ m ∈ ms, 0 ≤ m.f2.f0 ∧ m.f2.f0 < d ∧ T * r ≤ m.f2.f1 ∧ m.f2.f1 < T * r + S) (hp : ms.Pairwise fun a b => Ec b.f2 a.f2 = false) (hd : ∀ m ∈ ms, (Av L w n r ms m.f0).Nodup) : VM d L w n r T S ms := by
  refine ⟨fun i hi _ => ?_, hd⟩
  have hgd := getD_at ms z47 i hi
  refine ⟨?_, fun h0 => ?_, ?_, fun x hx => ?_⟩
  · rw [hgd]
    exact hin _ (List.getElem_mem hi)
  · rw [hgd, getD_at ms z47 (i - 1) (by omega)]
    exact (List.pairwise_iff_getElem.1 hs) (i - 1) i (by omega) hi (by omega)
  · rw [hgd]
    exact hr _ (List.getElem_mem hi)
  · rw [hgd]
    obtain ⟨j, hj, rfl⟩ := List.getElem_of_mem hx
    rw [List.length_take] at hj
    rw [List.getElem_take]
    exact (List.pairwise_iff_getElem.1 hp) j i (by omega) hi (by omega)
theorem Lo.O3 (ms : List Mv) (hv : VM d L w n r T S ms) : ∀ m ∈ ms, 0 ≤ m.f2.f0 ∧ m.f2.f0 < d ∧ T * r ≤ m.f2.f1 ∧ m.f2.f1 < T * r + S := by
 intro m hm
 obtain ⟨i, hi, rfl⟩ := List.getElem_of_mem hm
 have := (hv.1 i hi (Nat.zero_le _)).2.2.1
 rwa [getD_at _ _ _ hi] at this
theorem Lo.Kb (ms : List Mv) (m : Mv) (put : Bool) (g i : Int) (h : ¬ (g = m.f0 ∧ i = m.f1)) : Ca L w n r (Bg m ms put) g i = Ca L w n r ms g i :=
 KZ (by rw [JK, if_neg h])
theorem Lo.PK (ms : List Mv) (m : Mv) : Ca L w n r (Bg m ms false) m.f0 m.f1 = (m.f2.f0, m.f2.f1) := by
 unfold Ca
 rw [JK, if_pos ⟨rfl, rfl⟩]
 rfl
theorem Lo.TI (ms : List Mv) (m : Mv) : Ca L w n r (Bg m ms true) m.f0 m.f1 = Fb L w n r m.f0.toNat m.f1.toNat := by
 unfold Ca
 rw [JK, if_pos ⟨rfl, rfl⟩]
 rfl
theorem Lo.O4 (ms : List Mv) (m : Mv) (put : Bool) (g : Int) (h : g ≠ m.f0) : Av L w n r (Bg m ms put) g = Av L w n r ms g := by
 unfold Av
 exact List.map_congr_left fun i _ => by rw [Kb H ms m put g (i : Int) (fun e => h e.1)]
theorem Lo.O5 (ms : List Mv) (hv : VM d L w n r T S ms) (m : Mv) (put : Bool) (hg : 0 ≤ m.f0 ∧ m.f0 < T * n) (hi : 0 ≤ m.f1 ∧ m.f1 < (w : Int)) :
    (Av L w n r (Bg m ms put) m.f0).Nodup ↔ ∀ k : Nat, k < w → (k : Int) ≠ m.f1 → (Ca L w n r ms m.f0 (k : Int)).1 ≠ (Ca L w n r (Bg m ms put) m.f0 m.f1).1 := by
  have hn := H.Jt ms hv m.f0 hg.1 hg.2
  have := LP w (fun i : Nat => (Ca L w n r ms m.f0 (i : Int)).1) (fun i : Nat => (Ca L w n r (Bg m ms put) m.f0 (i : Int)).1) m.f1.toNat (by omega) (fun k hk => by
    show (Ca L w n r (Bg m ms put) m.f0 (k : Int)).1 = (Ca L w n r ms m.f0 (k : Int)).1
    rw [Kb H ms m put m.f0 (k : Int) (fun e => hk (by omega))]) hn
  unfold Av
  rw [this]
  have e : ((m.f1.toNat : Nat) : Int) = m.f1 := by omega
  simp only [e]
  exact ⟨fun h k hk hne => h k hk (by omega), fun h k hk hne => h k hk (by omega)⟩
theorem Lo.a5V (ms : List Mv) (hv : VM d L w n r T S ms) (m : Mv) (hg : 0 ≤ m.f0 ∧ m.f0 < T * n) (hi : 0 ≤ m.f1 ∧ m.f1 < (w : Int)) (hr : 0 ≤ m.f2.f0 ∧ m.f2.f0 < d ∧ T * r ≤ m.f2.f1 ∧ m.f2.f1 < T * r + S)
    (hf : ∀ x ∈ ms, Ec m.f2 x.f2 = false) (hd : m.f2.f0 ∉ Av L w n r ms m.f0) : VM d L w n r T S (Bg m ms false) := by
  refine H.RU _ (Mt m ms false hv.1.sorted) (fun x hx => ?_) (fun x hx => ?_) ?_ fun x hx => ?_
  · rcases H7 m x ms false hx with h | h
    · exact hv.1.NW x h.1
    · rw [h.2]
      exact ⟨hg.1, hg.2, hi.1, hi.2⟩
  · rcases H7 m x ms false hx with h | h
    · exact H.O3 ms hv x h.1
    · rw [h.2]
      exact hr
  · refine ((PI m ms).pairwise_iff (fun {x y} h => by rw [Hw]; exact h)).2 ?_
    refine List.pairwise_cons.2 ⟨fun y hy => ?_, List.Pairwise.sublist (List.filter_sublist) hv.1.places⟩
    rw [Hw]
    exact hf y (List.mem_filter.1 hy).1
  · by_cases c : x.f0 = m.f0
    · rw [c, H.O5 ms hv m false hg hi, H.PK]
      intro k hk _ he
      refine hd ?_
      unfold Av
      exact List.mem_map.2 ⟨k, List.mem_range.2 hk, he⟩
    · rw [H.O4 ms m false x.f0 c]
      rcases H7 m x ms false hx with h | h
      · exact hv.2 x h.1
      · exact absurd (by rw [h.2]) c
theorem Lo.ZJ (ms : List Mv) (hv : VM d L w n r T S ms) (m : Mv) (hg : 0 ≤ m.f0 ∧ m.f0 < T * n) (hi : 0 ≤ m.f1 ∧ m.f1 < (w : Int)) :
    VM d L w n r T S (Bg m ms true) ↔ ∀ k : Nat, k < w → (k : Int) ≠ m.f1 → (Ca L w n r ms m.f0 (k : Int)).1 ≠ (Fb L w n r m.f0.toNat m.f1.toNat).1 := by
  rw [← H.TI ms m, ← H.O5 ms hv m true hg hi]
  refine ⟨fun h => H.Jt _ h _ hg.1 hg.2, fun h => ?_⟩
  refine H.RU _ (Mt m ms true hv.1.sorted) (fun x hx => ?_) (fun x hx => ?_) ?_ fun x hx => ?_
  · rcases H7 m x ms true hx with h | h
    · exact hv.1.NW x h.1
    · cases h.1
  · rcases H7 m x ms true hx with h | h
    · exact H.O3 ms hv x h.1
    · cases h.1
  · rw [FD]
    exact List.Pairwise.sublist (List.filter_sublist) hv.1.places
  · by_cases c : x.f0 = m.f0
    · rw [c]
      exact h
    · rw [H.O4 ms m true x.f0 c]
      rcases H7 m x ms true hx with h | h
      · exact hv.2 x h.1
      · cases h.1
end
theorem TJ : ∀ (u : List Int) (h : Int), u.Pairwise (· < ·) → (∀ y ∈ u, h ≤ y) → h ≤ EM h u ∧ EM h u ≤ h + (u.length : Int) ∧ EM h u ∉ u := by
  intro u
  induction u with
  | nil => intro h _ _; exact ⟨Int.le_refl _, by show h ≤ h + 0; omega, by simp⟩
  | cons x u ih =>
    intro h hp hg
    have hp' := List.pairwise_cons.1 hp
    have hx := hg x (List.mem_cons_self ..)
    unfold EM
    by_cases c : x = h
    · rw [if_pos c]
      obtain ⟨h1, h2, h3⟩ := ih (h + 1) hp'.2 fun y hy => by have := hp'.1 y hy; omega
      refine ⟨by omega, by simp only [List.length_cons]; omega, fun hm => ?_⟩
      rcases List.mem_cons.1 hm with h4 | h4
      · omega
      · exact h3 h4
    · rw [if_neg c]
      refine ⟨Int.le_refl _, by simp only [List.length_cons]; omega, fun hm => ?_⟩
      rcases List.mem_cons.1 hm with h4 | h4
      · exact c h4.symm
      · have := hp'.1 h h4
        omega
theorem VB (L : List (List Int)) (w n r : Nat) (S : Int) (ms : List Mv) (g : Int) (dead : List Bool) (j : Nat) : ∀ p, G6 L w n r S ms g dead j = some p → dead.getD p.1.toNat false = false ∧ p.1 ∉ Av L w n r ms g := by
  induction j with
  | zero => intro p h; cases h
  | succ j ih =>
    intro p h
    rw [JJ] at h
    unfold LJ at h
    split at h
    · rename_i hc
      obtain rfl := Option.some.inj h
      exact ⟨by rw [Int.toNat_natCast]; exact hc.1, hc.2.1⟩
    · exact ih p h
section
variable {d : Int} {L : List (List Int)} {w n r : Nat} {T S : Int} (H : Lo d L w n r T S)
include H
theorem Lo.chosen (ms : List Mv) (hv : VM d L w n r T S ms) (g : Int) (dead : List Bool) (p : Int × Int) (hc : G6 L w n r S ms g dead d.toNat = some p) :
    (0 ≤ p.1 ∧ p.1 < d ∧ T * r ≤ EM (T * r) (Dr ms p.1) ∧ EM (T * r) (Dr ms p.1) < T * r + S) ∧ ∀ x ∈ ms, Ec ⟨p.1, EM (T * r) (Dr ms p.1)⟩ x.f2 = false := by
  have hd1 := H.ok.d1
  have hi := Lb L w n r S ms g dead _ p hc
  have hf := TJ (Dr ms p.1) (T * r) (RH _ _ hv.1.places) (RI _ _ _ fun m hm => (hv.1.blocks m hm).1)
  refine ⟨⟨hi.1, by omega, hf.1, by omega⟩, fun x hx => ?_⟩
  rw [Bool.eq_false_iff]
  intro he
  simp only [Ec, Bool.and_eq_true, beq_iff_eq] at he
  refine hf.2.2 ?_
  unfold Dr
  refine (sorted_perm _).mem_iff.2 ?_
  unfold Py
  exact List.mem_map.2 ⟨x, List.mem_filter.2 ⟨hx, by simpa using he.1.symm⟩, he.2.symm⟩
end
end Go.Proofs.Ytjonnfmoocijlaa.P
namespace Go.Proofs.Ytjonnfmoocijlaa.P
open Go.RowKit Go.Proofs.YtjonnfmoocijlaaKW.PrintWords Go.Proofs.YtjonnfmoocijlaaKW.PrintLast Go.Proofs.YtjonnfmoocijlaaKW.PrintMore
attribute [local go_sem] zO zP Aj Ak zC zD zQ zR
def Cs.f (k : Nat) (yn : Int) (yh : List (List Int)) (yo : Int) (yu : Int) (l1 : List (AX)) : Option (Bool) := (zb.f k yn yh yo yu l1).bind fun Yr => (some Yr.2.2.2.2.2.2.2)
set_option maxHeartbeats 8000000 in
set_option maxRecDepth 100000 in
theorem Cs.calls (k : Nat) (yn : Int) (yQ : Option Addr) (yM : Nat) (yh : List (List Int)) (yo : Int) (yu : Int) (A1 : Option Addr) (c1 : Nat) (l1 : List (AX)) (r : Bool) (w : World) (Ah : Kd.C (Kd.slice 3 (Kd.int .i64)) w yQ yh.length yh) (Ai : yh.length ≤ yM) (hr1 : Kd.C CS w A1 l1.length l1) (hc1 : l1.length ≤ c1) (h : Cs.f k yn yh yo yu l1 = some r) :
  Calls Try.prog 25 #[.agg #[.int .i64 yn, .slice yQ yh.length yM, .int .i64 yo, .int .i64 yu], .slice A1 l1.length c1] w fun e w' => e = .returned (.bool r) ∧ Below w.heap.size w w' := by
 have FH := Try.underlying31;have NS := Try.underlying71;have zA := yf.mk Ah;have zK := yf.mk Ai;clear Ah Ai;have HR1 := yf.mk hr1;have GH := yf.mk hc1;clear hr1 hc1;have HB := yf.mk (Below.refl w.heap.size w)
 have H : ((zb.f k yn yh yo yu l1).bind fun Yr => (some Yr.2.2.2.2.2.2.2)) = some r := h
 clear h;obtain ⟨⟨ay, aC, ax, av, au, ak, aD, az⟩, A3, H⟩ := bE H
 try dsimp only at H
 obtain rfl := Option.some.inj H
 go_enter Try.func25, Try.ntmps25
 go_wp2_with (first | ((with_reducible refine yI (N := 2) rfl ?_); refine yG rfl (N := 2) rfl (cs := #[.int .i64 yn, .slice yQ yh.length yM, .int .i64 yo, .int .i64 yu]) (t := 31) (by go_simp) ?_; intro ae hg w4 yJ hb; have aa := yf.mk (yJ); have af := bG (w := w) hg; have aH := bG (w := w) hg; replace HB := bS HB hb; clear hb yJ hg; have Zp := AP aa; have Zq := bf aa) | ((with_reducible refine yw (f := 33) rfl ?_); refine gL (some 10) Try.func33 #[.agg #[.int .i64 yn, .slice yQ yh.length yM, .int .i64 yo, .int .i64 yu], .slice A1 l1.length c1] ?_; (with_reducible refine (zb.calls k yn (fun k_ => k_ < w.heap.size) _ _ yh yo yu (fun k_ => k_ < w.heap.size) _ _ l1 ay aC ax av au ak aD az _ ?yD ?yF A3.out).mono ?_); (case yD => exact Kd.GK zK.out (Kd.CE (Kd.Nb (Kd.D5 3 (Kd.Dj .i64)) zA.out) (bO HB))); (case yF => exact Kd.GK GH.out (Kd.CE (Kd.Nb FN HR1.out) (bO HB))); rintro e w6 ⟨v266, v271, rfl, ho0, ho1, hb⟩; refine ⟨_, rfl, ?_⟩; have ah := yf.mk (Kd.Cc (Kd.z8 (ok' := fun k_ => k_ ≠ ae) ho0 (fun k_ E8 => Or.elim E8 (fun hs_ => Or.elim hs_ (fun hs_ => fun e_ => Nat.not_le.2 hs_ (by rw [e_]; exact af.out)) (fun hs_ => fun e_ => Nat.not_le.2 hs_ (by rw [e_]; exact af.out))) (fun DC => (Kd.Bj (g := ae) (o := .cells #[.int .i64 yn, .slice yQ yh.length yM, .int .i64 yo, .int .i64 yu] 31 (0, 0)) (kk aa) k_ DC)))) (yL (bO HB))); have ag := yf.mk (Kd.Cc (Kd.z8 (ok' := fun k_ => k_ ≠ ae) ho1 (fun k_ E8 => Or.elim E8 (fun hs_ => Or.elim hs_ (fun hs_ => fun e_ => Nat.not_le.2 hs_ (by rw [e_]; exact af.out)) (fun hs_ => fun e_ => Nat.not_le.2 hs_ (by rw [e_]; exact af.out))) (fun DC => (Kd.Bj (g := ae) (o := .cells #[.int .i64 yn, .slice yQ yh.length yM, .int .i64 yo, .int .i64 yu] 31 (0, 0)) (kk aa) k_ DC)))) (yL (bO HB))); replace aa := bB aa hb; replace HB := bS HB hb; clear hb; clear ho0; clear ho1) | ((with_reducible refine yI (N := 5) rfl ?_); refine yG rfl (N := 5) rfl (cs := #[.int .i64 0, .slice none 0 0, .int .i64 0, .int .i64 0, .slice none 0 0, .int .i64 0, .int .i64 0]) (t := 71) (by go_simp) ?_; intro aj hg w7 yJ hb; have ai := yf.mk (yJ); have aI := bG (w := w) hg; have aJ := bG (w := w) hg; have aG := Co aa hg; have aA := Ar aa hg; replace ah := yf.mk (Kd.Ao (Kd.Bf (kV ah) aj (Nat.le_of_eq hg.symm)) hb); replace ag := yf.mk (Kd.Ao (Kd.Bf (kV ag) aj (Nat.le_of_eq hg.symm)) hb); replace aa := bB aa hb; replace HB := bS HB hb; clear hb yJ hg; have a2C := aA.out; have a2D := aG.out; have Qb := Gt ai; have Qc := bf ai; obtain ⟨NR, MG, Tx⟩ := Kd.Cb ah.out; subst Tx; obtain ⟨Vj, Ty, Tz⟩ := Kd.Cb ag.out; subst Tz))
 go_ret
 exact ⟨by rfl, bO HB⟩
end Go.Proofs.Ytjonnfmoocijlaa.P
namespace Go.Proofs.Ytjonnfmoocijlaa.P
open Go.RowKit Go.Proofs.YtjonnfmoocijlaaKW.PrintWords Go.Proofs.YtjonnfmoocijlaaKW.PrintLast Go.Proofs.YtjonnfmoocijlaaKW.PrintMore
def D9.f (l : List AX) : Option (List AX) := if l.length < 4398046511104 then some l else none
set_option maxHeartbeats 1000000 in
set_option maxRecDepth 100000 in
theorem D9.calls (A0 : Option Addr) (c0 : Nat) (l0 : List AX) (r : List AX) (w : World) (hr0 : Kd.C CS w A0 l0.length l0) (hc0 : l0.length ≤ c0) (h : D9.f l0 = some r) :
    Calls Try.prog 40 #[.slice A0 l0.length c0] w fun e w' => ∃ GG : Value, e = .returned GG ∧ Kd.R CS 47 w' w.heap.size (fun _ => True) GG r ∧ Below w.heap.size w w' := by
  have hnil : ∀ (w : World) (a : Option Addr) (n c n' c' : Nat), (binOp .eql 33 (.slice a n c) (.slice none n' c')).run Try.prog w = .ok (.bool a.isNone) w := fun w a n c n' c' => Lib.run_eql_slice_nil w _ _ a n c n' c' Try.underlying33
  unfold D9.f at h
  by_cases hl : l0.length < 4398046511104
  · rw [if_pos hl] at h
    obtain rfl := Option.some.inj h
    rcases A0 with _ | ad
    · have h0 : l0 = [] := by
        rcases Nat.eq_zero_or_pos l0.length with h | h
        · exact List.eq_nil_of_length_eq_zero h
        · obtain ⟨ad, h, _⟩ := hr0.2.2 h
          cases h
      subst h0
      go_enter Try.func40, Try.ntmps40
      go_wp2
      go_ret
      exact ⟨_, rfl, Kd.Er _ _ _ _ _, Below.refl _ _⟩
    · have Li := yf.mk hr0
      have Ws := yf.mk hc0
      have HL := yf.mk hl
      clear hr0 hc0 hl h
      have HB := yf.mk (Below.refl w.heap.size w)
      go_enter Try.func40, Try.ntmps40
      go_wp2_with (first
        | ((with_reducible refine yI (N := 5) rfl ?_); refine Kd.J4 CS _ 47 ?hg (N := 5) ?hd (xs := ([] : List (AX))) (inner := []) (ok := fun _ => True) (okp := fun _ => True) ?hr ?hp (fun _ hk => hk) trivial (Below.refl _ _) (Nat.le_refl _) (by simp) ?_; (case hd => rfl); (case hg => rfl); (case hr => first | (go_simp; done) | (go_simp; rfl)); (case hp => exact (Cj.none _ _)); intro v545 w3 ho4 hb JN DW; clear JN DW; have aa := yf.mk (Kd.Ay ho4 (yL (bO HB))); replace HB := bS HB hb; clear hb ho4)
        | ((with_reducible refine BH (b := .append) (xs := #[.tmp 5, .tmp 6]) rfl ?_); at_builtin; refine Kd.Gc CS (w0 := w) w.heap.size rfl (.tmp 5) (.tmp 6) 33 47 (.agg #[(.int .i64 0), (.int .i64 0), (.int .i64 0), (.int .i64 0)]) 32 rfl Try.underlying33 GY rfl (by decide) (by omega) v545 [] l0 _ _ _ (fun _ => True) (fun _ => False) rfl rfl ?aO ?aR (fun _ _ h => h) (fun _ h => h.elim) ?aF ?aB ?aS ?aL ?_; (case aR => exact (Kd.Cg Li.out HB.out)); (case aB => exact (bO HB)); (case aF => exact (fun _ _ => trivial)); (case aO => exact (kR aa)); (case aS => exact (yL (bO HB))); (case aL => have := HL.out; simp only [List.length_nil]; omega); intro v548 w5 ho hb hg hat; rw [List.nil_append] at ho; have BL := yf.mk (hb); have BN := yf.mk (ho); clear HB; clear aa; have HB := BL; have ae := BN; clear BL BN; clear ho hb hg hat))
      go_ret
      exact ⟨_, rfl, ae.out, bO HB⟩
  · rw [if_neg hl] at h
    cases h
def RV (x : AX) : List Value := [.int .i64 x.f0, .int .i64 x.f1, .int .i64 x.f2.f0, .int .i64 x.f2.f1]
def Bt (l : List AX) : List Value := l.flatMap RV
theorem EB (l : List AX) : (Bt l).length = l.length * 4 := by
 induction l with
 | nil => rfl
 | cons x l ih => rw [Bt, List.flatMap_cons, List.length_append, ← Bt, ih]; simp [RV]; omega
theorem Ld (a b : List AX) : Bt (a ++ b) = Bt a ++ Bt b := List.flatMap_append
theorem JL (u : Value) (l : List AX) (h : u ∈ Bt l) : u.oneCell' = true := by
 obtain ⟨x, _, hx⟩ := List.mem_flatMap.1 h
 simp only [RV, List.mem_cons, List.not_mem_nil, or_false] at hx
 rcases hx with rfl | rfl | rfl | rfl <;> rfl
theorem Ke (x : AX) (l : List AX) : Bt (x :: l) = RV x ++ Bt l := List.flatMap_cons
theorem O6 (l : List AX) (n : Nat) : Bt (l.take n) = (Bt l).take (n * 4) := by
 induction l generalizing n with
 | nil => simp [Bt]
 | cons x l ih =>
  cases n with
  | zero => simp [Bt]
  | succ n =>
   rw [List.take_succ_cons, Ke, Ke, ih, Nat.succ_mul, List.take_append, show (RV x).length = 4 from rfl, Nat.add_sub_cancel, List.take_of_length_le (l := RV x) (by show 4 ≤ n * 4 + 4; omega)]
theorem Kg (l : List AX) (n : Nat) : Bt (l.drop n) = (Bt l).drop (n * 4) := by
 induction l generalizing n with
 | nil => simp [Bt]
 | cons x l ih =>
  cases n with
  | zero => simp [Bt]
  | succ n =>
   rw [List.drop_succ_cons, Ke, ih, Nat.succ_mul, List.drop_append, show (RV x).length = 4 from rfl, Nat.add_sub_cancel, List.drop_of_length_le (l := RV x) (by show 4 ≤ n * 4 + 4; omega), List.nil_append]
theorem Yt {w : World} {base : Nat} {ok : Nat → Prop} {l : List AX} {cs : List Value} (h : Cj (CS.M w base ok) 4 l cs) : cs = Bt l := by
 induction l generalizing cs with
 | nil => exact List.eq_nil_of_length_eq_zero (by rw [h.1]; simp)
 | cons x l ih =>
  have h0 := Lv (h.2 0 x rfl)
  rw [Nat.zero_mul, List.drop_zero] at h0
  have h1 : cs.drop 4 = Bt l := ih ⟨by rw [List.length_drop, h.1]; simp; omega, fun j p hj => by
   have := h.2 (j + 1) p (by simpa using hj)
   rw [List.drop_drop, show 4 + j * 4 = (j + 1) * 4 by omega]
   exact this⟩
  rw [← List.take_append_drop 4 cs, h0, h1]
  rfl
theorem Yu (w : World) (base : Nat) (ok : Nat → Prop) (l : List AX) : Cj (CS.M w base ok) 4 l (Bt l) := by
 refine ⟨EB l, fun j p hj => ?_⟩
 obtain ⟨hl, rfl⟩ := List.getElem?_eq_some_iff.1 hj
 rw [← Kg, List.drop_eq_getElem_cons hl]
 exact GL w base ok _
theorem Ir {w : World} {base : Nat} {ok : Nat → Prop} {u : Value} {l : List AX} (h : Kd.R CS 47 w base ok u l) :
    (u = .slice none 0 0 ∧ l = []) ∨ ∃ g cap cur, u = .slice (some ⟨g, 0, none⟩) l.length cap ∧ ok g ∧ base ≤ g ∧ w.heap[g]? = some (.cells cur 47 (0, 0)) ∧ l.length ≤ cap ∧ cap ≤ maxLen ∧ cur.size = cap * 4 ∧ cur.toList.take (l.length * 4) = Bt l := by
  obtain ⟨h0, inner, ho, hr⟩ := h
  have hin := Yt hr
  subst hin
  rcases ho.2 with ⟨rfl, hn⟩ | ⟨g, cap, cur, rfl, hb, hh, h1, h2, h3, h4⟩
  · exact .inl ⟨rfl, List.eq_nil_of_length_eq_zero hn⟩
  · exact .inr ⟨g, cap, cur, rfl, h0 g rfl, hb, hh, h1, h2, h3, h4⟩
theorem Qo {w : World} {base : Nat} {ok : Nat → Prop} {l : List AX} {g cap : Nat} {cur : Array Value} (hok : ok g) (hb : base ≤ g) (hh : w.heap[g]? = some (.cells cur 47 (0, 0))) (h1 : l.length ≤ cap) (h2 : cap ≤ maxLen) (h3 : cur.size = cap * 4)
    (h4 : cur.toList.take (l.length * 4) = Bt l) : Kd.R CS 47 w base ok (.slice (some ⟨g, 0, none⟩) l.length cap) l :=
  ⟨fun k hk => by simp [Value.ownBlock] at hk; subst hk; exact hok, Bt l, ⟨EB l, .inr ⟨g, cap, cur, rfl, hb, hh, h1, h2, h3, h4⟩⟩, Yu w base _ l⟩
theorem DF (g t : Nat) : ∀ (vs : List Value) (o : Nat) (w : World) (cur : Array Value), w.heap[g]? = some (.cells cur t (0, 0)) → o + vs.length ≤ cur.size →
    ∃ cur', (w.setCells g o vs).heap[g]? = some (.cells cur' t (0, 0)) ∧ cur'.size = cur.size ∧ cur'.toList = cur.toList.take o ++ vs ++ cur.toList.drop (o + vs.length)
  | [], o, w, cur, h, _ => ⟨cur, h, rfl, by simp⟩
  | v :: vs, o, w, cur, h, hl => by
    rw [List.length_cons] at hl
    obtain ⟨cur', h1, h2, h3⟩ := DF g t vs (o + 1) _ _ (ML h o v) (by simp; omega)
    refine ⟨cur', h1, by simpa using h2, ?_⟩
    rw [h3, Array.toList_setIfInBounds]
    apply List.ext_getElem?
    intro i
    simp only [List.getElem?_append, List.getElem?_take, List.getElem?_drop, List.length_append, List.length_take, List.length_set, List.length_cons, List.getElem?_set, Array.length_toList, List.getElem?_cons]
    have ho : o < cur.size := by omega
    rcases Nat.lt_trichotomy i o with hi | rfl | hi
    · simp [show i < o + 1 by omega, show i < cur.size by omega, hi, show ¬ o = i by omega, show min (o + 1) cur.size = o + 1 by omega, show min o cur.size = o by omega, show i < o + 1 + vs.length by omega, show i < o + (vs.length + 1) by omega]
    · simp [show i < cur.size by omega, show min (i + 1) cur.size = i + 1 by omega, show min i cur.size = i by omega]
      intro h9; omega
    · have e1 : min (o + 1) cur.size = o + 1 := by omega
      have e2 : min o cur.size = o := by omega
      by_cases h5 : i < o + 1 + vs.length
      · simp [e1, e2, h5, show ¬ i < o + 1 by omega, show ¬ i < o by omega, show i < o + (vs.length + 1) by omega, show ¬ i - o = 0 by omega, show i - (o + 1) = i - o - 1 by omega]
      · simp [e1, e2, h5, show ¬ i < o + (vs.length + 1) by omega, show o + 1 + vs.length + (i - (o + 1 + vs.length)) = o + (vs.length + 1) + (i - (o + (vs.length + 1))) by omega, show ¬ o = o + (vs.length + 1) + (i - (o + (vs.length + 1))) by omega]
theorem OD (w : World) (g o : Nat) (v : Value) : w.grownBy (w.setCell ⟨g, o, none⟩ v) (some g) :=
 ⟨rfl, rfl, rfl, by simp [World.setCell], fun k hk hne => Below.heap_setCell w ⟨g, o, none⟩ v k (fun h => hne (by rw [h]))⟩
theorem DI (g : Nat) : ∀ (vs : List Value) (o : Nat) (w : World), w.grownBy (w.setCells g o vs) (some g)
 | [], o, w => World.grownBy.refl w _
 | v :: vs, o, w => World.grownBy.trans (OD w g o v) (DI g vs (o + 1) _)
def Dp.f (l : List AX) (i j : Int) : Option (List AX) := if 0 ≤ i ∧ i.toNat < l.length ∧ j = i + 1 then some (l.eraseIdx i.toNat) else none
theorem TK (W : World) (ty : TypeId) (g o c : Nat) (cur : Array Value) (hh : W.heap[g]? = some (.cells cur 47 (0, 0))) (ho : o + 4 ≤ cur.size) :
    (Builtin.clear_ #[33] ty #[.slice (some ⟨g, o, none⟩) 1 c]).run Try.prog W = .ok (.tuple #[]) (W.setCells g o [.int .i64 0, .int .i64 0, .int .i64 0, .int .i64 0]) := by
  have hst := run_storeCells_cells (P := Try.prog) g o [.int .i64 0, .int .i64 0, .int .i64 0, .int .i64 0] 0 W (fun j hj => by rw [yA hh, Array.getElem?_eq_getElem (by simp at hj; omega)]; rfl) (fun j hj => zH hh _) (by intro u hu; simp only [List.mem_cons, List.not_mem_nil, or_false] at hu; rcases hu with rfl | rfl | rfl | rfl <;> rfl)
  rw [Nat.add_zero] at hst
  have hz : (Builtin.zeroCells (Value.agg #[.int .i64 0, .int .i64 0, .int .i64 0, .int .i64 0]).cells 1).toList = [.int .i64 0, .int .i64 0, .int .i64 0, .int .i64 0] := by simp [Builtin.zeroCells, Value.cells]; rfl
  have hv : ∀ w, (zeroValue 47).run Try.prog w = .ok (Value.agg #[.int .i64 0, .int .i64 0, .int .i64 0, .int .i64 0]) w := Try.zeroValue47
  simp [Builtin.clear_, run_underlying Try.underlying33, hv, hz, hst]
set_option maxHeartbeats 1000000 in
set_option maxRecDepth 100000 in
theorem Dp.calls (Jq : Nat → Prop) (Gb : Value) (l0 : List AX) (a1 a2 : Int) (r : List AX) (w0 w : World) (hB : Below w0.heap.size w0 w) (ho0 : Kd.R CS 47 w w0.heap.size Jq Gb l0) (h : Dp.f l0 a1 a2 = some r) :
    Calls Try.prog 43 #[Gb, .int .i64 a1, .int .i64 a2] w fun e w' => ∃ GG : Value, e = .returned GG ∧ Kd.R CS 47 w' w0.heap.size (fun k_ => (Jq k_ ∨ w.heap.size ≤ k_)) GG r ∧ Below w0.heap.size w0 w' ∧ Kept w w' (fun k_ => Jq k_) := by
  unfold Dp.f at h
  by_cases hc : 0 ≤ a1 ∧ a1.toNat < l0.length ∧ a2 = a1 + 1
  · rw [if_pos hc] at h
    obtain rfl := Option.some.inj h
    obtain ⟨hc1, hc2, rfl⟩ := hc
    obtain ⟨k, rfl⟩ : ∃ k : Nat, a1 = (k : Int) := ⟨a1.toNat, by omega⟩
    rw [Int.toNat_natCast] at hc2 ⊢
    rcases Ir ho0 with ⟨rfl, rfl⟩ | ⟨g, cap, cur, rfl, hP, hb, hh, h1, h2, h3, h4⟩
    · simp at hc2
    · have hcap : cap ≤ 9223372036854775807 := h2
      have e1 : (((k : Nat) : Int) + 1) = ((k + 1 : Nat) : Int) := by omega
      rw [e1]
      obtain ⟨m, hm⟩ : ∃ m, l0.length = m + 1 := ⟨l0.length - 1, by omega⟩
      rw [hm] at ho0 hc2 h1 ⊢
      have HO := yf.mk ho0
      have HBB := yf.mk hB
      have HP := yf.mk hP
      have HG := yf.mk hb
      have HM := yf.mk hm
      clear ho0 hB hh h4 h3 e1 hP hb hm
      have hic : k ≤ cap := by omega
      have hjc : k + 1 ≤ cap := by omega
      have hk0 : 0 ≤ (k : Int) + 1 := by omega
      have hk1 : (k : Int) + 1 ≤ (m : Int) + 1 := by omega
      have hA : (if cap = k + 1 then some (⟨g, 0, none⟩ : Addr) else some ⟨g, (k + 1) * 4, none⟩) = if cap = k + 1 then some (⟨g, 0, none⟩ : Addr) else (some (⟨g, 0, none⟩ : Addr)).map (·.add ((k + 1) * CS.sz)) := by
        split
        · rfl
        · show _ = some (Addr.add ⟨g, 0, none⟩ ((k + 1) * 4))
          simp [Addr.add]
      replace hA := yf.mk hA
      have t1 : (k == k + 1) = false := by simp
      have t1' : ((k : Int) == ((k + 1 : Nat) : Int)) = false := by simp; omega
      go_enter Try.func43, Try.ntmps43
      go_wp2
      go_region_law (refine Kd.Og CS (w0 := w0) w0.heap.size (by rfl) (.tmp 22) (.tmp 25) 33 47 rfl Try.underlying33 (by rfl) (g := g) (n := m + 1) (c := cap) (k := k) rfl rfl hA.out (by omega) (xs := l0) (ok := Jq) (Kd.AQ HO.out) hc2 HBB.out.drew HBB.out.size ?_; intro w1 ho hb hg; have HO1 := yf.mk ho; have HB1 := yf.mk hb; have YP := yf.mk hg; clear ho hb hg)
      obtain ⟨cur, hh, hcs, hct⟩ : ∃ cur, w1.heap[g]? = some (.cells cur 47 (0, 0)) ∧ cur.size = cap * 4 ∧ cur.toList.take ((l0.eraseIdx k).length * 4) = Bt (l0.eraseIdx k) := by
        rcases Ir HO1.out with ⟨h, _⟩ | ⟨g', cap', cur, h, _, _, hh, _, _, h3, h4⟩
        · cases h
        · injection h with h5 _ h6
          injection h5 with h5
          injection h5 with h5
          subst h5; subst h6
          exact ⟨cur, hh, h3, h4⟩
      have hel : (l0.eraseIdx k).length = m := by rw [List.length_eraseIdx, if_pos (by have := HM.out; omega), HM.out]; omega
      have hmc : m ≤ cap := by omega
      have hm1 : (cap = m) = False := eq_false (by omega)
      have hcl := TK w1 0 g (m * 4) (cap - m) cur hh (by omega)
      have e2 : m + 1 - m = 1 := by omega
      obtain ⟨cur', k1, k2, k3⟩ := DF g 47 [.int .i64 0, .int .i64 0, .int .i64 0, .int .i64 0] (m * 4) w1 cur hh (by simp; omega)
      have KG := yf.mk (DI g [.int .i64 0, .int .i64 0, .int .i64 0, .int .i64 0] (m * 4) w1)
      obtain ⟨w2, hw2⟩ : ∃ w2, w1.setCells g (m * 4) [.int .i64 0, .int .i64 0, .int .i64 0, .int .i64 0] = w2 := ⟨_, rfl⟩
      rw [hw2] at hcl k1 KG
      have hR : Kd.R CS 47 w2 w0.heap.size (fun k_ => (Jq k_ ∨ w.heap.size ≤ k_)) (.slice (some ⟨g, 0, none⟩) m cap) (l0.eraseIdx k) := by
        have h5 := Qo (w := w2) (base := w0.heap.size) (ok := fun k_ => (Jq k_ ∨ w.heap.size ≤ k_)) (l := l0.eraseIdx k) (cap := cap) (.inl HP.out) HG.out k1 (by omega) h2 (by omega) (by rw [k3, hel, List.append_assoc, List.take_append_of_le_length (by rw [List.length_take, Array.length_toList]; omega), List.take_take, Nat.min_self, ← hel]; exact hct)
        rwa [hel] at h5
      have hBn : Below w0.heap.size w0 w2 := HB1.out.grown KG.out HB1.out.size (fun k hk => by injection hk with hk; subst hk; exact HG.out)
      have hKp : Kept w w2 (fun k_ => Jq k_) := ⟨Nat.le_trans YP.out.size KG.out.size, fun j hj hn => (KG.out.block j (Nat.lt_of_lt_of_le hj YP.out.size) (fun e => hn (by injection e with e; rw [e]; exact HP.out))).trans (YP.out.block j hj (fun e => hn (by injection e with e; rw [e]; exact HP.out)))⟩
      have HR2 : cap = k + 1 → Kd.R CS 47 w2 w0.heap.size (fun k_ => (Jq k_ ∨ w.heap.size ≤ k_)) (.slice (some ⟨g, 0, none⟩) m (k + 1)) (l0.eraseIdx k) := fun h => h ▸ hR
      replace HR2 := yf.mk HR2
      have HR := yf.mk hR
      have HBN := yf.mk hBn
      have HKP := yf.mk hKp
      clear hw2 k1 k2 k3 hh hct hcs hR hBn hKp KG HB1 HO1 YP hel
      go_wp2
      all_goals (go_ret; first | exact ⟨_, rfl, HR.out, HBN.out, HKP.out⟩ | exact ⟨_, rfl, HR2.out (by assumption), HBN.out, HKP.out⟩)
  · rw [if_neg hc] at h
    cases h
end Go.Proofs.Ytjonnfmoocijlaa.P
