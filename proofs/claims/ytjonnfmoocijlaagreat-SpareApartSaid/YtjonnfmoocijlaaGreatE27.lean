/- Texts of a claim, packed. -/
import Derived.Test.YtjonnfmoocijlaaGreatE26
set_option linter.all false
namespace Go.Proofs.YtjonnfmoocijlaaGreat.P
open Go.RowKit Go.Proofs.YtjonnfmoocijlaaGreatKW.PrintWords Go.Proofs.YtjonnfmoocijlaaGreatKW.PrintLast Go.Proofs.YtjonnfmoocijlaaGreatKW.PrintMore
attribute [local go_sem] zN zP Af Ag zz zA zO zQ
attribute [local go_sem high] WE
mutual
def zx.l0 : Nat → List (AP) → Int → List Int → Int → Int → List (List Int) → Int → Int → Option (List Int)
 | 0,_,_,_,_,_,_,_,_ => none
 | k + 1,x1,x2,x7,x8,aa,ae,af,ag => (Ca.f aa ae af ag).bind fun XZ => (if x8 < XZ then (zx.l1 k x1 x2 x7 x8 0 aa ae af ag) else (some x7))
def zx.l1 : Nat → List (AP) → Int → List Int → Int → Int → Int → List (List Int) → Int → Int → Option (List Int)
 | 0,_,_,_,_,_,_,_,_,_ => none
 | k + 1,x1,x2,x7,x8,x9,aa,ae,af,ag => if x9 < (x1.length : Int) then (if 0 ≤ x9 then (if (((yh x1 x9).f2.f0) == x2 && (((yh x1 x9).f2.f1) == x8)) = true then (if x7.length < 17592186044416 then (zx.l1 k x1 x2 (x7 ++ [x8]) x8 (wrap64 (x9 + 1)) aa ae af ag) else (none)) else (zx.l1 k x1 x2 x7 x8 (wrap64 (x9 + 1)) aa ae af ag)) else (none)) else (zx.l0 k x1 x2 x7 (wrap64 (x8 + 1)) aa ae af ag)
end
def zx.f (k : Nat) (yj : Int) (yg : List (List Int)) (ym : Int) (yn : Int) (l1 : List (AP)) (a2 : Int) : Option (List Int) := (AY.f yj yg ym yn).bind fun Vj => (zx.l0 k l1 a2 ([] : List Int) Vj yj yg ym yn)
set_option maxHeartbeats 8000000 in
set_option maxRecDepth 100000 in
theorem zx.calls (k : Nat) (yj : Int) (yK : Option Addr) (yE : Nat) (yg : List (List Int)) (ym : Int) (yn : Int) (A1 : Option Addr) (c1 : Nat) (l1 : List (AP)) (a2 : Int) (r : List Int) (w : World) (zS : Kd.C (Kd.slice 3 (Kd.int .i64)) w yK yg.length yg) (zT : yg.length ≤ yE) (hr1 : Kd.C DN w A1 l1.length l1) (hc1 : l1.length ≤ c1) (h : zx.f k yj yg ym yn l1 a2 = some r) :
  Calls Tryz.prog 12 #[.agg #[.int .i64 yj,.slice yK yg.length yE,.int .i64 ym,.int .i64 yn],.slice A1 l1.length c1,.int .i64 a2] w fun e w' => ∃ G7 : Value,e = .returned (G7) ∧ Kd.R (Kd.int .i64) 3 w' w.heap.size (fun _ => True) G7 r ∧ Below w.heap.size w w' := by
 have ET := Tryz.underlying29;have KE := Tryz.underlying51;have zk := yf.mk zS;have zq := yf.mk zT;clear zS zT;have HR1 := yf.mk hr1;have Gt := yf.mk hc1;clear hr1 hc1;have HB := yf.mk (Below.refl w.heap.size w)
 have H : ((AY.f yj yg ym yn).bind fun Vj => (zx.l0 k l1 a2 ([] : List Int) Vj yj yg ym yn)) = some r := h
 clear h;obtain ⟨Vj,A4,H⟩ := bE H
 try dsimp only at H
 have H' := yf.mk H;clear H
 go_enter Tryz.func12,Tryz.ntmps12
 go_wp2_with (first | ((with_reducible refine yG (N := 3) rfl ?_);refine yD rfl (N := 3) rfl (cs := #[.int .i64 yj,.slice yK yg.length yE,.int .i64 ym,.int .i64 yn]) (t := 29) (by go_simp) ?_;intro au hg w5 yI hb;have aa := yf.mk (yI);have aG := bG (w := w) hg;have aD := bG (w := w) hg;replace HB := bS HB hb;clear hb yI hg;have Z4 := AO aa;have Z7 := bf aa) | ((with_reducible refine yz (f := 31) rfl ?_);refine gL (some 11) Tryz.func31 #[.agg #[.int .i64 yj,.slice yK yg.length yE,.int .i64 ym,.int .i64 yn]] ?_;(with_reducible refine (AY.calls yj _ _ yg ym yn Vj _ ?yB ?yC A4.out).mono ?_);(case yB => exact CU zk);(case yC => exact zq.out);rintro e w7 ⟨rfl,hb⟩;refine ⟨_,rfl,?_⟩;replace aa := bB aa hb;replace HB := bS HB hb;clear hb))
 go_loopg [7,8] k (fun kq v7 v8 w' => ∃ (Am : List Int) (BX : Int),v8 = .int .i64 BX ∧ yf (zx.l0 kq l1 a2 Am BX yj yg ym yn = some r) ∧ yf (kq ≤ k) ∧ yf (Kd.R (Kd.int .i64) 3 w' w.heap.size (fun _ => True) v7 Am) ∧ yf (w'.heap[au]? = some (.cells #[.int .i64 yj,(.slice yK yg.length yE),.int .i64 ym,.int .i64 yn] 29 (0,0))) ∧ yf (Below w.heap.size w w'))
 case atStart => exact ⟨(([] : List Int)),(Vj),(by rfl),H',⟨Nat.le_refl _⟩,⟨by exact Kd.Dc _ _ _ _ _⟩,⟨kk aa⟩,⟨bO HB⟩⟩
 case round =>
 clear H' Z4 Z7;obtain ⟨Am,BX,rfl,HA,Bn,CX,aa,HB⟩ := hrel
 cases gk with
 | zero => exact absurd HA.out (by simp [zx.l0])
 | succ k1 =>
 have H := HA.out;clear HA;simp only [zx.l0] at H;obtain ⟨XZ,A8,H⟩ := bE H
 try dsimp only at H
 by_cases c9 : BX < XZ
 rotate_left
 ·
  rw [if_neg c9] at H;have I5 := decide_eq_false c9;clear c9;obtain rfl := Option.some.inj H;have IB := AO aa;have IG := bf aa
  go_wp2_with (((with_reducible refine yz (f := 32) rfl ?_);refine gL (some 14) Tryz.func32 #[.agg #[.int .i64 yj,.slice yK yg.length yE,.int .i64 ym,.int .i64 yn]] ?_;(with_reducible refine (Ca.calls yj _ _ yg ym yn XZ _ ?yB ?yC A8.out).mono ?_);(case yB => exact CU zk);(case yC => exact zq.out);rintro e w18 ⟨rfl,hb⟩;refine ⟨_,rfl,?_⟩;replace CX := CR CX hb;replace aa := bB aa hb;replace HB := bS HB hb;clear hb))
  go_ret
  exact ⟨_,by rfl,by (with_reducible repeat (apply Kd.zg));exact CX.out,bO HB⟩
 rw [if_pos c9] at H;have I5 := decide_eq_true c9;clear c9;have H' := yf.mk H;clear H;have Kr := AO aa;have Kz := bf aa
 go_wp2_with (((with_reducible refine yz (f := 32) rfl ?_);refine gL (some 14) Tryz.func32 #[.agg #[.int .i64 yj,.slice yK yg.length yE,.int .i64 ym,.int .i64 yn]] ?_;(with_reducible refine (Ca.calls yj _ _ yg ym yn XZ _ ?yB ?yC A8.out).mono ?_);(case yB => exact CU zk);(case yC => exact zq.out);rintro e w11 ⟨rfl,hb⟩;refine ⟨_,rfl,?_⟩;replace CX := CR CX hb;replace aa := bB aa hb;replace HB := bS HB hb;clear hb))
 go_loopg [7,9] k1 (fun kq v7 v9 w' => ∃ (BU : List Int) (Br : Int),v9 = .int .i64 Br ∧ yf (zx.l1 kq l1 a2 BU BX Br yj yg ym yn = some r) ∧ yf (kq ≤ k1) ∧ yf (Kd.R (Kd.int .i64) 3 w' w.heap.size (fun _ => True) v7 BU) ∧ yf (w'.heap[au]? = some (.cells #[.int .i64 yj,(.slice yK yg.length yE),.int .i64 ym,.int .i64 yn] 29 (0,0))) ∧ yf (Below w.heap.size w w'))
 case atStart => exact ⟨(Am),(0),(by rfl),H',⟨Nat.le_refl _⟩,⟨kR CX⟩,⟨kk aa⟩,⟨bO HB⟩⟩
 case round =>
 clear H' I5 Kr Kz;obtain ⟨BU,Br,rfl,HA,Di,CX,aa,HB⟩ := hrel
 cases gk with
 | zero => exact absurd HA.out (by simp [zx.l1])
 | succ k2 =>
  have H := HA.out;clear HA;simp only [zx.l1] at H
  by_cases c12 : Br < (l1.length : Int)
  ·
   rw [if_pos c12] at H;have Gj := decide_eq_true c12;clear c12
   by_cases c13 : 0 ≤ Br
   ·
    rw [if_pos c13] at H;have J3 := decide_eq_true c13;clear c13
    by_cases c14 : (((yh l1 Br).f2.f0) == a2 && (((yh l1 Br).f2.f1) == BX)) = true
    ·
     rw [if_pos c14] at H
     have Na : (((yh l1 Br).f2.f0) == a2 && (((yh l1 Br).f2.f1) == BX)) = true := c14
     (try (have Nb : decide (((yh l1 Br).f2.f0) = a2 && (((yh l1 Br).f2.f1) == BX)) = true := by simpa using c14))
     (try (have ZP : (((yh l1 Br).f2.f0) == a2 && (((yh l1 Br).f2.f1) == BX)) = true := by simpa using c14))
     clear c14
     by_cases c15 : BU.length < 17592186044416
     ·
      rw [if_pos c15] at H;have az := yf.mk c15;clear c15;obtain ⟨ax,av⟩ : ∃ y_ : List Int,y_ = (BU ++ [BX]) := ⟨_,rfl⟩
      replace H : (zx.l1 k2 l1 a2 ax BX (wrap64 (Br + 1)) yj yg ym yn) = some r := by (rw [av];with_reducible exact H)
      have aA := yf.mk av;clear av;have H' := yf.mk H;clear H
      have ae : 0 ≤ (Br : Int) := of_decide_eq_true ‹_›
      have af : Br < (l1.length : Int) := of_decide_eq_true ‹_›
      obtain ⟨aC,ak,ag,ah,ai,aj⟩ := Ck HR1.out Br ae af;cases ak;replace ag := cB HB ag;replace ah := cB HB ah;replace ai := cB HB ai;replace aj := cB HB aj;replace ae := eq_true ae;replace af := eq_true af
      go_wp2_with (((with_reducible refine Bf (b := .append) (xs := #[.tmp 33,.tmp 35]) rfl ?_);at_builtin;refine Kd.Dz (Kd.int .i64) (w0 := w) w.heap.size rfl (.tmp 33) (.tmp 35) 37 3 (.int .i64 0) 8 rfl Tryz.underlying37 info3 rfl (by decide) (by omega) u7 BU BX [.int .i64 BX] (fun _ => True) (fun _ => False) rfl rfl ?aP (fun _ hk => hk.elim) ?aF ?aO ?aB ?aS ?aL ?_;(case aP => exact rfl);(case aB => exact (bO HB));(case aF => exact (fun _ _ => trivial));(case aO => exact (kR CX));(case aS => exact (yF (bO HB)));(case aL => have := az.out;omega);intro v494 w16 ho hb hg hat;rw [← aA.out] at ho;have BR := yf.mk (zL (g := au) (o := .cells #[.int .i64 yj,.slice yK yg.length yE,.int .i64 ym,.int .i64 yn] 29 (0,0)) (kk aa) hg (Kd.DC CX.out aa.out (by decide)));have BS := yf.mk (hb);have Ce := yf.mk (ho);clear aa;clear HB;clear CX;have aa := BR;have HB := BS;have ay := Ce;clear BR BS Ce;clear ho hb hg hat))
      go_roundg k2
      case measure => have := Bn.out;have := Di.out;omega
      case rel => exact ⟨(ax),(wrap64 (Br + 1)),(by rfl),H',⟨by have := Bn.out;have := Di.out;omega⟩,⟨kR ay⟩,⟨kk aa⟩,⟨bO HB⟩⟩
     ·
      rw [if_neg c15] at H;exact absurd H (by simp)
    ·
     rw [if_neg c14] at H
     have Na : (((yh l1 Br).f2.f0) == a2 && (((yh l1 Br).f2.f1) == BX)) = false := by simpa using c14
     (try (have Nb : decide (((yh l1 Br).f2.f0) = a2 && (((yh l1 Br).f2.f1) == BX)) = false := by simpa using c14))
     (try (have ZP : (((yh l1 Br).f2.f0) == a2 && (((yh l1 Br).f2.f1) == BX)) = false := by simpa using c14))
     (try (have aH : ¬ (((yh l1 Br).f2.f0) = a2 && (((yh l1 Br).f2.f1) == BX)) := by simpa using c14))
     clear c14;have H' := yf.mk H;clear H
     have ae : 0 ≤ (Br : Int) := of_decide_eq_true ‹_›
     have af : Br < (l1.length : Int) := of_decide_eq_true ‹_›
     obtain ⟨aC,ak,ag,ah,ai,aj⟩ := Ck HR1.out Br ae af;cases ak;replace ag := cB HB ag;replace ah := cB HB ah;replace ai := cB HB ai;replace aj := cB HB aj;replace ae := eq_true ae;replace af := eq_true af
     go_wp2
     go_roundg k2
     case measure => have := Bn.out;have := Di.out;omega
     case rel => exact ⟨(BU),(wrap64 (Br + 1)),(by rfl),H',⟨by have := Bn.out;have := Di.out;omega⟩,⟨kR CX⟩,⟨kk aa⟩,⟨bO HB⟩⟩
   ·
    rw [if_neg c13] at H;exact absurd H (by simp)
  ·
   rw [if_neg c12] at H;have Gj := decide_eq_false c12;clear c12;have H' := yf.mk H;clear H
   go_wp2
   go_roundg k2
   case measure => have := Bn.out;have := Di.out;omega
   case rel => exact ⟨(BU),(wrap64 (BX + 1)),(by rfl),H',⟨by have := Bn.out;have := Di.out;omega⟩,⟨kR CX⟩,⟨kk aa⟩,⟨bO HB⟩⟩
end Go.Proofs.YtjonnfmoocijlaaGreat.P
namespace Go.Proofs.YtjonnfmoocijlaaGreat.P
open Go.RowKit Go.Proofs.YtjonnfmoocijlaaGreatKW.PrintWords
def PP (x : Int) (ms : List Mv) : List Int := (ms.filter fun m => m.f2.f0 == x).map fun m => m.f2.f1
def DR (ms : List Mv) (x : Int) : List Int := sorted (PP x ms)
theorem MJ (x : Int) (ms : List Mv) : (PP x ms).length ≤ ms.length := by
 unfold PP
 rw [List.length_map]
 exact List.length_filter_le _ _
theorem Jw (x : Int) (ms : List Mv) : (DR ms x).length ≤ ms.length := by
 unfold DR
 rw [Ht]
 exact MJ x ms
theorem UY (x b : Int) (ms : List Mv) : (PP x ms).count b = (ms.filter fun m => m.f2.f0 == x && m.f2.f1 == b).length := by
  unfold PP
  induction ms with
  | nil => rfl
  | cons m ms ih =>
    by_cases c1 : m.f2.f0 = x
    · rw [List.filter_cons_of_pos (by simpa using c1),List.map_cons,List.count_cons,ih]
      by_cases c2 : m.f2.f1 = b
      · rw [List.filter_cons_of_pos (by simp [c1,c2])]
        simp [c2]
      · rw [List.filter_cons_of_neg (by simp [c2])]
        simp [c2]
    · rw [List.filter_cons_of_neg (by simpa using c1),List.filter_cons_of_neg (by simp [c1]),ih]
theorem KR (ms : List Mv) (hl : ms.length ≤ 1000) (d T S a b : Int) (L : List (List Int)) (x : Int) : Ev (fun k => zR.f k d L T S ms a b x) (DR ms x) := by
  have h0 : ∀ t j : Nat,ms.length - j = t → j ≤ ms.length → Ev (fun k => zR.l0 k x (PP x (ms.take j)) ms (ms.length : Int) (j : Int)) (DR ms x) := by
    intro t
    induction t with
    | zero =>
      intro j ht hj
      have := MJ x ms
      refine evs (fun k => by rw [zR.l0]) (BF (by omega) ?_)
      rw [List.take_of_length_le (by omega)]
      exact GZ (a := DR ms x) (by unfold slices_Sort_int.f DR;rw [if_pos (by omega)]) (Ev.now _)
    | succ t ih =>
      intro j ht hj
      have hlt : j < ms.length := by omega
      have hln := MJ x (ms.take j)
      rw [List.length_take] at hln
      have := ih (j + 1) (by omega) (by omega)
      refine evs (fun k => by rw [zR.l0]) (AA (by omega) (AA (by omega) (AA (by omega) ?_)))
      rw [G5 ms j hlt,ww (by omega) (by omega),show (j : Int) + 1 = ((j + 1 : Nat) : Int) by omega]
      rw [List.take_succ_eq_append_getElem hlt] at this
      unfold PP at this hln ⊢
      rw [List.filter_append,List.map_append] at this
      by_cases c : ms[j].f2.f0 = x
      · refine AA c (AA (by omega) ?_)
        rw [List.filter_cons_of_pos (by simpa using c)] at this
        exact this
      · refine BF c ?_
        rw [List.filter_cons_of_neg (by simpa using c),List.filter_nil,List.map_nil,List.append_nil] at this
        exact this
  exact h0 _ 0 rfl (Nat.zero_le _)
section
variable {d : Int} {L : List (List Int)} {w n r : Nat} {T S : Int} (H : Lo d L w n r T S)
include H
theorem Lo.a1d (ms : List Mv) (hl : ms.length ≤ 1000) (hb : ∀ m ∈ ms,T * r ≤ m.f2.f1 ∧ m.f2.f1 < T * r + S) (x : Int) : Ev (fun k => zx.f k d L T S ms x) (DR ms x) := by
  have hr := H.tr
  have hs1 := H.s1
  have hin : ∀ y,(PP x ms).count y ≠ 0 → T * r ≤ y ∧ y < T * r + S := by
    intro y hy
    have := List.count_pos_iff.1 (Nat.pos_of_ne_zero hy)
    unfold PP at this
    obtain ⟨m,hm,rfl⟩ := List.mem_map.1 this
    exact hb m (List.mem_filter.1 hm).1
  have h1 : ∀ (acc : List Int) (b : Int) (R : List Int),acc.length ≤ 8000 → -1000000 ≤ b ∧ b ≤ 1000000 →
      ∀ t q c : Nat,ms.length - q = t → q ≤ ms.length → c ≤ q → Ev (fun k => zx.l0 k ms x (acc ++ List.replicate (c + ((ms.drop q).filter fun m => m.f2.f0 == x && m.f2.f1 == b).length) b) (b + 1) d L T S) R →
        Ev (fun k => zx.l1 k ms x (acc ++ List.replicate c b) b (q : Int) d L T S) R := by
    intro acc b R hacc hbb t
    induction t with
    | zero =>
      intro q c ht hq hc hR
      refine evs (fun k => by rw [zx.l1]) (BF (by omega) ?_)
      rw [List.drop_of_length_le (by omega)] at hR
      rw [ww (by omega) (by omega)]
      exact hR
    | succ t ih =>
      intro q c ht hq hc hR
      have hlt : q < ms.length := by omega
      refine evs (fun k => by rw [zx.l1]) (AA (by omega) (AA (by omega) ?_))
      rw [G5 ms q hlt,ww (x := (q : Int) + 1) (by omega) (by omega),show (q : Int) + 1 = ((q + 1 : Nat) : Int) by omega]
      rw [List.drop_eq_getElem_cons hlt] at hR
      by_cases c1 : (ms[q].f2.f0 == x && (ms[q].f2.f1 == b)) = true
      · rw [List.filter_cons_of_pos (by exact c1),List.length_cons] at hR
        refine AA c1 (AA (by simp;omega) ?_)
        rw [List.append_assoc,show List.replicate c b ++ [b] = List.replicate (c + 1) b from List.replicate_succ'.symm]
        refine ih (q + 1) (c + 1) (by omega) (by omega) (by omega) ?_
        rw [show c + 1 + ((ms.drop (q + 1)).filter fun m => m.f2.f0 == x && m.f2.f1 == b).length = c + (((ms.drop (q + 1)).filter fun m => m.f2.f0 == x && m.f2.f1 == b).length + 1) by omega]
        exact hR
      · rw [List.filter_cons_of_neg (by exact c1)] at hR
        refine BF c1 (ih (q + 1) c (by omega) (by omega) (by omega) hR)
  have h0 : ∀ (t : Nat) (b : Int) (acc : List Int),T * r + S - b = (t : Int) → T * r ≤ b → acc.length ≤ (b - T * r).toNat * 1000 → acc.Pairwise (· ≤ ·) → (∀ y ∈ acc,y < b) → (∀ y,y < b → acc.count y = (PP x ms).count y) → Ev (fun k => zx.l0 k ms x acc b d L T S) (DR ms x) := by
    intro t
    induction t with
    | zero =>
      intro b acc ht hb1 hlen hpw hlt hc
      refine evs (fun k => by rw [zx.l0]) (GZ H.blocks (BF (show ¬ b < T * r + S by omega) (Hw ?_)))
      refine Hu _ _ hpw (Ib _) (List.Perm.trans ?_ (sorted_perm _).symm)
      rw [List.perm_iff_count]
      intro y
      by_cases hy : y < b
      · exact hc y hy
      · rw [List.count_eq_zero.2 (fun h => hy (hlt y h))]
        by_cases h2 : (PP x ms).count y = 0
        · exact h2.symm
        · have := hin y h2
          omega
    | succ t ih =>
      intro b acc ht hb1 hlen hpw hlt hc
      have hsm : (b - T * r).toNat ≤ 7 := by omega
      refine evs (fun k => by rw [zx.l0]) (GZ H.blocks (AA (show b < T * r + S by omega) ?_))
      have := h1 acc b (DR ms x) (by have : (b - T * r).toNat * 1000 ≤ 7 * 1000 := Nat.mul_le_mul_right _ hsm;omega) (by omega) _ 0 0 rfl (Nat.zero_le _) (Nat.le_refl _) ?_
      · rw [List.replicate_zero,List.append_nil] at this
        exact this
      · rw [List.drop_zero,Nat.zero_add,← UY]
        have hcl : (PP x ms).count b ≤ 1000 := Nat.le_trans (List.count_le_length) (Nat.le_trans (MJ x ms) hl)
        refine ih (b + 1) _ (by omega) (by omega) ?_ ?_ ?_ ?_
        · rw [List.length_append,List.length_replicate,show (b + 1 - T * r).toNat = (b - T * r).toNat + 1 by omega,Nat.succ_mul]
          omega
        · rw [List.pairwise_append]
          refine ⟨hpw,?_,fun a ha b' hb' => ?_⟩
          · rw [List.pairwise_iff_getElem]
            intro i j hi hj _
            simp
          · rw [List.eq_of_mem_replicate hb']
            have := hlt a ha
            omega
        · intro y hy
          rcases List.mem_append.1 hy with h | h
          · have := hlt y h
            omega
          · rw [List.eq_of_mem_replicate h]
            omega
        · intro y hy
          rw [List.count_append,List.count_replicate]
          by_cases e : y = b
          · subst e
            rw [List.count_eq_zero.2 (fun h => by have := hlt y h;omega)]
            simp
          · rw [hc y (by omega)]
            simp [show ¬ b = y from fun h => e h.symm]
  unfold zx.f
  refine GZ H.homes ?_
  exact h0 S.toNat _ [] (by omega) (Int.le_refl _) (by simp) List.Pairwise.nil (by simp) (fun y hy => by
    rw [List.count_nil]
    by_cases h2 : (PP x ms).count y = 0
    · exact h2.symm
    · have := hin y h2
      omega)
end
end Go.Proofs.YtjonnfmoocijlaaGreat.P
namespace Go.Proofs.YtjonnfmoocijlaaGreat.P
open Go.RowKit Go.Proofs.YtjonnfmoocijlaaGreatKW.PrintWords Go.Proofs.YtjonnfmoocijlaaGreatKW.PrintLast Go.Proofs.YtjonnfmoocijlaaGreatKW.PrintMore
attribute [local go_sem] zN zP Af Ag zz zA zO zQ
def slices_Index_int.l0 : Nat → List Int → Int → Int → Int → Option (Int)
 | 0,_,_,_,_ => none
 | k + 1,x0,x1,x7,x8 => if x8 < x7 then (if 0 ≤ x8 then (if x8 < (x0.length : Int) then (if x1 = (rd x0 x8) then (some x8) else (slices_Index_int.l0 k x0 x1 x7 (wrap64 (x8 + 1)))) else (none)) else (none)) else (some (-1))
def slices_Index_int.f (k : Nat) (l0 : List Int) (a1 : Int) : Option (Int) := slices_Index_int.l0 k l0 a1 (l0.length : Int) 0
theorem slices_Index_int.mono_l : ∀ k,(∀ y0 y1 y2 y3,Bh (slices_Index_int.l0 k y0 y1 y2 y3) (slices_Index_int.l0 (k + 1) y0 y1 y2 y3))
 | 0 => fun _ _ _ _ r h => by simp [slices_Index_int.l0] at h
 | k + 1 => by
  have Fz := slices_Index_int.mono_l k
  ·
   intro y0 y1 y2 y3
   unfold slices_Index_int.l0
   repeat' first
   | exact Fz _ _ _ _
   | exact Bh.refl _
   | exact Bh.none _
   | refine Bh.ite ?_ ?_
   | refine Bh.bind ?_ (fun _ => ?_)
theorem slices_Index_int.mono : ∀ a0 a1 k,Bh (slices_Index_int.f k a0 a1) (slices_Index_int.f (k + 1) a0 a1) := by
 intro a0 a1 k
 have Fz := slices_Index_int.mono_l k
 unfold slices_Index_int.f
 repeat' first
  | exact Fz _ _ _ _
  | exact Bh.refl _
  | exact Bh.none _
  | refine Bh.ite ?_ ?_
  | refine Bh.bind ?_ (fun _ => ?_)
set_option maxHeartbeats 8000000 in
set_option maxRecDepth 100000 in
theorem slices_Index_int.calls (k : Nat) (A0 : Option Addr) (c0 : Nat) (l0 : List Int) (a1 : Int) (r : Int) (w : World) (hr0 : Kd.C (Kd.int .i64) w A0 l0.length l0) (hc0 : l0.length ≤ c0) (h : slices_Index_int.f k l0 a1 = some r) :
  Calls Tryz.prog 64 #[.slice A0 l0.length c0,.int .i64 a1] w fun e w' => e = .returned (.int .i64 r) ∧ zZ w w' := by
 have MS := yf.mk hr0;have Yy := yf.mk hc0;clear hr0 hc0
 have H : (slices_Index_int.l0 k l0 a1 (l0.length : Int) 0) = some r := h
 clear h;have H' := yf.mk H;clear H
 go_enter Tryz.func64,Tryz.ntmps64
 go_wp2
 go_loopg [8] k (fun kq v8 w' => ∃ (BX : Int),v8 = .int .i64 BX ∧ yf (slices_Index_int.l0 kq l0 a1 (l0.length : Int) BX = some r) ∧ yf (kq ≤ k) ∧ zZ w w')
 case atStart => exact ⟨(0),(by rfl),H',⟨Nat.le_refl _⟩,by repeat (exact zZ.refl _)⟩
 case round =>
 clear H';obtain ⟨BX,rfl,HA,Bn,⟨m1,rfl⟩⟩ := hrel
 cases gk with
 | zero => exact absurd HA.out (by simp [slices_Index_int.l0])
 | succ k1 =>
 have H := HA.out;clear HA;simp only [slices_Index_int.l0] at H
 by_cases c3 : BX < (l0.length : Int)
 rotate_left
 ·
  rw [if_neg c3] at H;have Gz := decide_eq_false c3;clear c3;obtain rfl := Option.some.inj H
  go_wp2
  go_ret
  exact ⟨by rfl,by repeat (first | exact zZ.refl _ | apply zZ.step)⟩
 rw [if_pos c3] at H;have Gz := decide_eq_true c3;clear c3
 by_cases c4 : 0 ≤ BX
 rotate_left
 ·
  rw [if_neg c4] at H;exact absurd H (by simp)
 rw [if_pos c4] at H;have ER := decide_eq_true c4;clear c4
 by_cases c5 : BX < (l0.length : Int)
 rotate_left
 ·
  rw [if_neg c5] at H;exact absurd H (by simp)
 rw [if_pos c5] at H;have ES := decide_eq_true c5;clear c5
 by_cases c6 : a1 = (rd l0 BX)
 ·
  rw [if_pos c6] at H;have Eu := beq_iff_eq.mpr c6
  have Ml : (a1 != (rd l0 BX)) = false := bne_eq_false_iff_eq.mpr c6
  clear c6;obtain rfl := Option.some.inj H
  have aa : 0 ≤ (BX : Int) := of_decide_eq_true ‹_›
  have ae : BX < (l0.length : Int) := of_decide_eq_true ‹_›
  obtain ⟨af,e272,ag⟩ := Kd.BG MS.out BX aa ae;cases e272;replace aa := eq_true aa;replace ae := eq_true ae
  go_wp2
  go_ret
  exact ⟨by rfl,by repeat (first | exact zZ.refl _ | apply zZ.step)⟩
 rw [if_neg c6] at H;have Eu := beq_eq_false_iff_ne.mpr c6;have Ml := bne_iff_ne.mpr c6;have H' := yf.mk H;clear H
 have aa : 0 ≤ (BX : Int) := of_decide_eq_true ‹_›
 have ae : BX < (l0.length : Int) := of_decide_eq_true ‹_›
 obtain ⟨af,e272,ag⟩ := Kd.BG MS.out BX aa ae;cases e272;replace aa := eq_true aa;replace ae := eq_true ae
 go_wp2
 go_roundg k1
 case measure => have := Bn.out;omega
 case rel => exact ⟨(wrap64 (BX + 1)),(by rfl),H',⟨by have := Bn.out;omega⟩,by repeat (first | exact zZ.refl _ | apply zZ.step)⟩
def slices_Contains_int.f (k : Nat) (l0 : List Int) (a1 : Int) : Option (Bool) := (slices_Index_int.f k l0 a1).bind fun XQ => (some (decide (XQ ≥ 0)))
set_option maxHeartbeats 8000000 in
set_option maxRecDepth 100000 in
theorem slices_Contains_int.calls (k : Nat) (A0 : Option Addr) (c0 : Nat) (l0 : List Int) (a1 : Int) (r : Bool) (w : World) (hr0 : Kd.C (Kd.int .i64) w A0 l0.length l0) (hc0 : l0.length ≤ c0) (h : slices_Contains_int.f k l0 a1 = some r) :
  Calls Tryz.prog 37 #[.slice A0 l0.length c0,.int .i64 a1] w fun e w' => e = .returned (.bool r) ∧ zZ w w' := by
 have MS := yf.mk hr0;have Yy := yf.mk hc0;clear hr0 hc0
 have H : ((slices_Index_int.f k l0 a1).bind fun XQ => (some (decide (XQ ≥ 0)))) = some r := h
 clear h;obtain ⟨XQ,A3,H⟩ := bE H
 try dsimp only at H
 obtain rfl := Option.some.inj H
 go_enter Tryz.func37,Tryz.ntmps37
 go_wp2_with (((with_reducible refine yz (f := 64) rfl ?_);refine gL (some 7) Tryz.func64 #[.slice A0 l0.length c0,.int .i64 a1] ?_;(with_reducible refine (slices_Index_int.calls k _ _ l0 a1 XQ _ ?yB ?yC A3.out).mono ?_);(case yB => repeat (exact MS.out));(case yC => exact Yy.out);rintro e w' ⟨rfl,⟨nd,rfl⟩⟩;refine ⟨_,rfl,?_⟩))
 go_ret
 exact ⟨by rfl,by repeat (first | exact zZ.refl _ | apply zZ.step)⟩
end Go.Proofs.YtjonnfmoocijlaaGreat.P
