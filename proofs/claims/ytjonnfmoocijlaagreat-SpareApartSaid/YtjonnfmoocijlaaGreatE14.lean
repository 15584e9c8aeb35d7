/- Texts of a claim, packed. -/
import Derived.Test.YtjonnfmoocijlaaGreatE13
set_option linter.all false
namespace Go.Proofs.YtjonnfmoocijlaaGreat.P
open Go.RowKit Go.Proofs.YtjonnfmoocijlaaGreatKW.PrintWords Go.Proofs.YtjonnfmoocijlaaGreatKW.PrintLast Go.Proofs.YtjonnfmoocijlaaGreatKW.PrintMore
def LC (w : World) (g t : Nat) (F : Int → Int → Int) : Prop := ∃ c : Array Value,w.heap[g]? = some (.cells c t (0,0)) ∧ c.size = 3600 ∧ ∀ a b : Nat,a < 60 → b < 60 → c[a * 60 + b]? = some (.int .i64 (F a b))
def Ie : Array Value := Array.replicate 3600 (.int .i64 0)
def cnt (g : List Int) (a : Int) : Int := (g.countP (· == a) : Nat)
def AB (l : List (List Int)) (a b : Int) : Int := (l.map fun g => cnt g a * cnt g b).sum
def Fb (F : Int → Int → Int) (g : List Int) (p q : Nat) (a b : Int) : Int := F a b + cnt (g.take p) a * cnt g b + (if g.getD p (-1) = a then cnt (g.take q) b else 0)
theorem JG (g : List Int) (q : Nat) (h : q < g.length) (b : Int) : cnt (g.take (q + 1)) b = cnt (g.take q) b + (if g[q] = b then 1 else 0) := by
 unfold cnt
 rw [List.take_succ_eq_append_getElem h,List.countP_append,List.countP_singleton]
 by_cases e : g[q] = b <;> simp [e]
theorem NP (F : Int → Int → Int) (g : List Int) (p : Nat) (h : p < g.length) (a b : Int) (ha : a ≠ -1) : Fb F g p g.length a b = Fb F g (p + 1) 0 a b := by
 unfold Fb
 rw [JG g p h a,List.take_length,getD_at _ _ _ h]
 have : (if g.getD (p + 1) (-1) = a then cnt (List.take 0 g) b else 0) = 0 := by split <;> rfl
 rw [this]
 by_cases e : g[p] = a
 · rw [if_pos e,if_pos e,Int.add_mul,Int.one_mul];omega
 · rw [if_neg e,if_neg e];simp
theorem M6 (F : Int → Int → Int) (g : List Int) (a b : Int) : Fb F g 0 0 a b = F a b := by
 unfold Fb
 have h1 : cnt (List.take 0 g) a = 0 := rfl
 have h2 : cnt (List.take 0 g) b = 0 := rfl
 rw [h1,h2]
 split <;> simp
theorem Qy {d : Int} {l : List (List Int)} (h : DF d l) (i : Nat) (hi : i < l.length) {g : List Int} (hg : g = l.getD i []) : g.Pairwise (· < ·) ∧ ∀ p,p < g.length → ∃ x : Nat,rd g (p : Int) = (x : Int) ∧ x < 60 := by
 obtain ⟨h1,h2,_,_,_,h5⟩ := h
 rw [getD_at _ _ _ hi] at hg
 subst hg
 have h6 := (List.all_eq_true.1 h5) _ (List.getElem_mem hi)
 have h7 := of_decide_eq_true h6
 refine ⟨h7.2.2,fun p hp => ?_⟩
 have h8 := h7.2.1 _ (List.getElem_mem hp)
 exact ⟨(l[i][p]).toNat,by rw [IJ _ _ hp];omega,by omega⟩
theorem LC.at_ {w : World} {g t : Nat} {F : Int → Int → Int} (h : LC w g t F) (a b : Nat) (ha : a < 60) (hb : b < 60) : w.cell? ⟨g,a * 60 + b,none⟩ = some (.int .i64 (F a b)) ∧ w.frozen? ⟨g,a * 60 + b,none⟩ = false := by
 obtain ⟨c,hh,hs,hc⟩ := h
 exact ⟨(yx hh _).trans (hc a b ha hb),zy hh _⟩
theorem LC.congr {w : World} {g t : Nat} {F F' : Int → Int → Int} (h : LC w g t F) (e : ∀ a b : Nat,a < 60 → b < 60 → F a b = F' a b) : LC w g t F' := by
 obtain ⟨c,hh,hs,hc⟩ := h
 exact ⟨c,hh,hs,fun a b ha hb => by rw [hc a b ha hb,e a b ha hb]⟩
theorem LC.below {w w1 : World} {g t : Nat} {F : Int → Int → Int} (h : LC w g t F) (hb : Below w.heap.size w w1) : LC w1 g t F := by
 obtain ⟨c,hh,hs,hc⟩ := h
 exact ⟨c,(hb.block g (Array.getElem?_eq_some_iff.1 hh).1).trans hh,hs,hc⟩
theorem LC.put {w : World} {g t : Nat} {F : Int → Int → Int} (h : LC w g t F) (x y : Nat) (hx : x < 60) (hy : y < 60) (v : Int) : LC (w.setCell ⟨g,x * 60 + y,none⟩ (.int .i64 v)) g t (fun a b => if a = x ∧ b = y then v else F a b) := by
  obtain ⟨c,hh,hs,hc⟩ := h
  refine ⟨c.setIfInBounds (x * 60 + y) (.int .i64 v),?_,by simpa using hs,fun a b ha hb => ?_⟩
  · simp only [World.setCell,Array.getElem?_modify,if_true,hh]
    rfl
  · rw [Array.getElem?_setIfInBounds]
    by_cases e : x * 60 + y = a * 60 + b
    · have e1 : a = x := by omega
      have e2 : b = y := by omega
      subst e1;subst e2
      rw [if_pos rfl,if_pos (by omega)]
      simp
    · rw [if_neg e,hc a b ha hb]
      have : ¬ ((a : Int) = x ∧ (b : Int) = y) := fun h => e (by omega)
      simp only [if_neg this]
theorem LC.zeros {w : World} {g : Nat} {t : Nat} (h : w.heap[g]? = some (.cells Ie t (0,0))) : LC w g t (fun _ _ => 0) := ⟨_,h,by simp [Ie],fun a b ha hb => by
 unfold Ie
 rw [Array.getElem?_replicate,if_pos (by omega)]⟩
theorem Nq (g : List Int) (h : g.Pairwise (· < ·)) (a : Int) : 0 ≤ cnt g a ∧ cnt g a ≤ 1 := by
  induction g with
  | nil => simp [cnt]
  | cons x g ih =>
    rw [List.pairwise_cons] at h
    have := ih h.2
    have e : cnt (x :: g) a = cnt g a + (if x = a then 1 else 0) := by
      unfold cnt
      rw [List.countP_cons]
      by_cases e : x = a <;> simp [e]
    rw [e]
    by_cases e : x = a
    · subst e
      have : cnt g x = 0 := by
        unfold cnt
        rw [List.countP_eq_zero.2 (fun y hy => by have := h.1 y hy;simp;omega)]
        rfl
      rw [if_pos rfl];omega
    · rw [if_neg e];omega
theorem KP (l : List (List Int)) (i : Nat) (h : i < l.length) (a b : Int) : AB (l.take (i + 1)) a b = AB (l.take i) a b + cnt l[i] a * cnt l[i] b := by
 unfold AB
 rw [List.take_succ_eq_append_getElem h,List.map_append,List.sum_append]
 simp
theorem UL {d : Int} {l : List (List Int)} (h : DF d l) (g : List Int) (hg : g ∈ l) : g.Pairwise (· < ·) := (of_decide_eq_true ((List.all_eq_true.1 h.2.2.2.2.2) _ hg)).2.2
theorem Tg {d : Int} {l : List (List Int)} (h : DF d l) (a b : Int) (i : Nat) (hi : i ≤ l.length) : 0 ≤ AB (l.take i) a b ∧ AB (l.take i) a b ≤ i := by
 induction i with
 | zero => simp [AB]
 | succ i ih =>
  have h1 := ih (by omega)
  rw [KP l i (by omega)]
  have hp := UL h _ (List.getElem_mem (show i < l.length by omega))
  have ha := Nq _ hp a
  have hb := Nq _ hp b
  have : 0 ≤ cnt l[i] a * cnt l[i] b ∧ cnt l[i] a * cnt l[i] b ≤ 1 := by
   rcases (by omega : cnt l[i] a = 0 ∨ cnt l[i] a = 1) with e | e <;> rw [e] <;> simp <;> omega
  push_cast
  omega
theorem Uo {g : List Int} (h : g.Pairwise (· < ·)) (q : Nat) : (g.take q).Pairwise (· < ·) := h.sublist (List.take_sublist q g)
theorem KL {d : Int} {l : List (List Int)} (h : DF d l) (i : Nat) (hi : i ≤ l.length) (g : List Int) (hg : g.Pairwise (· < ·)) (p q : Nat) (a b : Int) : 0 ≤ Fb (AB (l.take i)) g p q a b ∧ Fb (AB (l.take i)) g p q a b ≤ 10000 := by
 have h1 := Tg h a b i hi
 have h2 := Nq _ (Uo hg p) a
 have h3 := Nq _ hg b
 have h4 := Nq _ (Uo hg q) b
 have h5 := h.2.2.2.1
 have : 0 ≤ cnt (g.take p) a * cnt g b ∧ cnt (g.take p) a * cnt g b ≤ 1 := by
  rcases (by omega : cnt (g.take p) a = 0 ∨ cnt (g.take p) a = 1) with e | e <;> rw [e] <;> simp <;> omega
 unfold Fb
 split <;> omega
theorem NQ (F : Int → Int → Int) (g : List Int) (p q : Nat) (hp : p < g.length) (hq : q < g.length) (x y : Int) (hx : rd g (p : Int) = x) (hy : rd g (q : Int) = y) (a b : Int) :
    (if a = x ∧ b = y then Fb F g p q x y + 1 else Fb F g p q a b) = Fb F g p (q + 1) a b := by
  have e1 : g.getD p (-1) = x := by rw [getD_at _ _ _ hp,← hx,IJ _ _ hp]
  have e2 : g[q] = y := by rw [← hy,IJ _ _ hq]
  unfold Fb
  rw [e1,JG g q hq b,e2]
  by_cases h1 : a = x
  · subst h1
    by_cases h2 : b = y
    · subst h2
      simp only [and_self,if_true];omega
    · rw [if_neg (fun h => h2 h.2),if_pos rfl,if_pos rfl,if_neg (fun h => h2 h.symm)];simp
  · rw [if_neg (fun h => h1 h.1),if_neg (fun h => h1 h.symm),if_neg (fun h => h1 h.symm)]
theorem OW (l : List (List Int)) (i : Nat) (hi : i < l.length) (g : List Int) (hg : l[i] = g) (a b : Int) : Fb (AB (l.take i)) g g.length 0 a b = AB (l.take (i + 1)) a b := by
 rw [KP l i hi,hg]
 unfold Fb
 have h2 : cnt (List.take 0 g) b = 0 := rfl
 rw [h2,List.take_length]
 split <;> simp
def ZB (d : Int) (l : List (List Int)) : Bool := (List.range d.toNat).all fun a => (List.range d.toNat).all fun b => AB l a b == if a = b then AB l 0 0 else AB l 0 1
theorem Pn {d : Int} {l : List (List Int)} (h : ZB d l = true) (a b : Nat) (ha : a < d.toNat) (hb : b < d.toNat) : AB l a b = if a = b then AB l 0 0 else AB l 0 1 := by
 have h1 := List.all_eq_true.1 ((List.all_eq_true.1 h) a (List.mem_range.2 ha)) b (List.mem_range.2 hb)
 exact of_decide_eq_true h1
theorem a1I {d : Int} {l : List (List Int)} (h : ∀ a b : Nat,a < d.toNat → b < d.toNat → AB l a b = if a = b then AB l 0 0 else AB l 0 1) : ZB d l = true :=
 List.all_eq_true.2 fun a ha => List.all_eq_true.2 fun b hb => decide_eq_true (h a b (List.mem_range.1 ha) (List.mem_range.1 hb))
def J5 (d : Int) (l : List (List Int)) : Int × Int × Int := if ZB d l && decide (1 ≤ AB l 0 1) then (AB l 0 0,AB l 0 1,0) else (0,0,5)
theorem Oz {d : Int} {l : List (List Int)} {r1 r2 r3 : Int} (h : J5 d l = (r1,r2,r3)) (hb : ¬ ZB d l = true) : r1 = 0 ∧ r2 = 0 ∧ r3 = 5 := by
 unfold J5 at h
 rw [Bool.not_eq_true] at hb
 rw [hb,Bool.false_and,if_neg (by decide)] at h
 simp only [Prod.mk.injEq] at h
 omega
theorem RX {d : Int} {l : List (List Int)} {r1 r2 r3 : Int} (h : J5 d l = (r1,r2,r3)) (hb : AB l 0 1 < 1) : r1 = 0 ∧ r2 = 0 ∧ r3 = 5 := by
 unfold J5 at h
 rw [decide_eq_false (by omega),Bool.and_false,if_neg (by decide)] at h
 simp only [Prod.mk.injEq] at h
 omega
theorem RY {d : Int} {l : List (List Int)} {r1 r2 r3 : Int} (h : J5 d l = (r1,r2,r3)) (hb : ZB d l = true) (hl : ¬ AB l 0 1 < 1) : r1 = AB l 0 0 ∧ r2 = AB l 0 1 ∧ r3 = 0 := by
 unfold J5 at h
 rw [decide_eq_true (by omega),hb,Bool.and_true,if_pos rfl] at h
 simp only [Prod.mk.injEq] at h
 omega
theorem Te {w : World} {A : Option Addr} {n : Nat} {l : List (List Int)} (h : Kd.C (Kd.slice 3 (Kd.int .i64)) w A n l) (g : List Int) (hg : g ∈ l) : g.length ≤ 9223372036854775807 := by
 obtain ⟨i,hi,rfl⟩ := List.getElem_of_mem hg
 obtain ⟨ad,A0,c0,_,_,_,h2⟩ := Ec h (i : Int) (by omega) (by have := h.1;omega)
 have e1 : yX l (i : Int) = l[i] := by unfold yX;rw [Int.toNat_natCast,getD_at _ _ _ hi]
 rw [e1] at h2
 exact h2.2.1
set_option maxHeartbeats 1000000 in
set_option maxRecDepth 100000 in
theorem Dn.tst (k : Nat) (yj : Int) (yK : Option Addr) (yE : Nat) (yg : List (List Int)) (r1 r2 r3 : Int) (w : World) (zS : Kd.C (Kd.slice 3 (Kd.int .i64)) w yK yg.length yg) (zT : yg.length ≤ yE) (hf : za.f k yj yg = some true) (hF : DF yj yg) (aa : J5 yj yg = (r1,r2,r3)) :
    Calls Tryz.prog 72 #[.agg #[.int .i64 yj,.slice yK yg.length yE]] w fun e w' => e = .returned (.tuple #[.int .i64 r1,.int .i64 r2,.int .i64 r3]) ∧ Below w.heap.size w w' := by
  have ET := Tryz.underlying27
  have a5a := Tryz.underlying130
  have a4Z := Tryz.underlying129
  have HR := yf.mk zS
  have HC := yf.mk zT
  have HF := yf.mk hf
  have HD := yf.mk hF
  have hres := yf.mk aa
  clear zS zT hf hF aa
  have HB := yf.mk (Below.refl w.heap.size w)
  go_enter Tryz.func72,Tryz.ntmps72
  go_wp2_with (first
    | ((with_reducible refine yG (N := 1) rfl ?_);refine yD ?hg (N := 1) ?hd (cs := #[.int .i64 yj,.slice yK yg.length yE]) (t := 27) ?hr ?_;(case hd => rfl);(case hg => rfl);(case hr => first | (go_simp;done) | (go_simp;rfl));intro gb hg w8 yI hb;have BK := yf.mk yI;have GE := bG (w := w) hg;replace HB := bS HB hb;clear hb yI hg;have hcz := bc2 BK;have hfz := bf BK)
    | (go_at_call 87;refine (za.calls k yj _ _ yg true _ (CU HR) HC.out HF.out).mono ?_;rintro e w9 ⟨rfl,hb⟩;replace BK := bB BK hb;replace HB := bS HB hb;clear hb hcz hfz;have hcz := bc2 BK;have hfz := bf BK)
    | ((with_reducible refine yG (N := 5) rfl ?_);refine yD ?hg (N := 5) ?hd (cs := Ie) (t := 130) ?hr ?_;(case hd => rfl);(case hg => rfl);(case hr => exact by unfold execOp;rfl);intro gm hg w10 yI hb;have BM := yf.mk (LC.zeros yI);have GM := bG (w := w) hg;have NB := Cq BK hg;replace BK := bB BK hb;replace HB := bS HB hb;clear hb yI hg hcz hfz;have hcz := bc2 BK;have hfz := bf BK))
  go_loopg [23] yg.length (fun kq v23 w' => ∃ i : Nat,v23 = .int .i64 (i : Int) ∧ yf (i ≤ yg.length ∧ kq = yg.length - i) ∧ yf (LC w' gm 130 (AB (yg.take i))) ∧ yf (w'.heap[gb]? = some (.cells #[.int .i64 yj,.slice yK yg.length yE] 27 (0,0))) ∧ yf (Below w.heap.size w w'))
  case atStart => exact ⟨0,rfl,⟨Nat.zero_le _,by omega⟩,BM,BK,HB⟩
  case round =>
    obtain ⟨i,rfl,HI,BM,BK,HB⟩ := hrel
    by_cases c1 : i < yg.length
    · have c1b : decide ((i : Int) < (yg.length : Int)) = true := decide_eq_true (by omega)
      have p1 : 0 ≤ (i : Int) := by omega
      have q1 : (i : Int) < (yg.length : Int) := by omega
      have HL := yf.mk c1
      obtain ⟨k1,rfl⟩ : ∃ k1,gk = k1 + 1 := ⟨gk - 1,by have := HI.out.2;omega⟩
      clear c1
      obtain ⟨ad1,A1,n1,e1,hx1,hl1,hr1⟩ := Ec HR.out (i : Int) p1 q1
      cases e1
      rw [Int.toNat_natCast] at hx1
      replace hx1 := (HB.out.cell (World.block_lt_of_cell? w _ hx1)).trans hx1
      have HRG := yf.mk hr1
      clear hr1 hl1
      replace p1 := eq_true p1
      replace q1 := eq_true q1
      obtain ⟨g,hg⟩ : ∃ g,yX yg (i : Int) = g := ⟨_,rfl⟩
      rw [hg] at hx1
      replace HRG : yf ((Kd.int .i64).C w A1 g.length g) := ⟨hg ▸ HRG.out⟩
      have HG := yf.mk hg
      clear hg
      have HGOK := yf.mk (Qy HD.out i HL.out (g := g) (HG.out.symm.trans rfl))
      go_wp2
      go_loopg [29] g.length (fun kq v29 w' => ∃ p : Nat,v29 = .int .i64 (p : Int) ∧ yf (p ≤ g.length ∧ kq = g.length - p) ∧ yf (LC w' gm 130 (Fb (AB (yg.take i)) g p 0)) ∧ yf (w'.heap[gb]? = some (.cells #[.int .i64 yj,.slice (some ad1) yg.length yE] 27 (0,0))) ∧ yf (Below w.heap.size w w'))
      case atStart => exact ⟨0,rfl,⟨Nat.zero_le _,by omega⟩,⟨BM.out.congr fun a b _ _ => (M6 _ _ _ _).symm⟩,BK,HB⟩
      case round =>
        clear BM BK HB hcz hfz
        obtain ⟨p,rfl,HP,BM,BK,HB⟩ := hrel
        by_cases c2 : p < g.length
        · have c2b : decide ((p : Int) < (g.length : Int)) = true := decide_eq_true (by omega)
          have p2 : 0 ≤ (p : Int) := by omega
          have q2 : (p : Int) < (g.length : Int) := by omega
          have HPL := yf.mk c2
          obtain ⟨k2,rfl⟩ : ∃ k2,gk = k2 + 1 := ⟨gk - 1,by have := HP.out.2;omega⟩
          clear c2
          obtain ⟨x,hx,SN⟩ := HGOK.out.2 p HPL.out
          obtain ⟨ad2,e2,hx2⟩ := Kd.BG HRG.out (p : Int) p2 q2
          cases e2
          rw [Int.toNat_natCast,hx] at hx2
          have HX := yf.mk hx
          have Pd := yf.mk SN
          clear hx SN
          replace hx2 := (HB.out.cell (World.block_lt_of_cell? w _ hx2)).trans hx2
          replace p2 := eq_true p2
          replace q2 := eq_true q2
          go_wp2
          go_loopg [35] g.length (fun kq v35 w' => ∃ q : Nat,v35 = .int .i64 (q : Int) ∧ yf (q ≤ g.length ∧ kq = g.length - q) ∧ yf (LC w' gm 130 (Fb (AB (yg.take i)) g p q)) ∧ yf (w'.heap[gb]? = some (.cells #[.int .i64 yj,.slice (some ad1) yg.length yE] 27 (0,0))) ∧ yf (Below w.heap.size w w'))
          case atStart => exact ⟨0,rfl,⟨Nat.zero_le _,by omega⟩,BM,BK,HB⟩
          case round =>
            clear BM BK HB hx2
            obtain ⟨q,rfl,HQ,BM,BK,HB⟩ := hrel
            by_cases c3 : q < g.length
            · have c3b : decide ((q : Int) < (g.length : Int)) = true := decide_eq_true (by omega)
              have p3 : 0 ≤ (q : Int) := by omega
              have q3 : (q : Int) < (g.length : Int) := by omega
              have HQL := yf.mk c3
              obtain ⟨k3,rfl⟩ : ∃ k3,gk = k3 + 1 := ⟨gk - 1,by have := HQ.out.2;omega⟩
              clear c3
              obtain ⟨y,hy,SQ⟩ := HGOK.out.2 q HQL.out
              obtain ⟨ad3,e3,hx3⟩ := Kd.BG HRG.out (q : Int) p3 q3
              cases e3
              rw [Int.toNat_natCast,hy] at hx3
              have HY := yf.mk hy
              replace hx3 := (HB.out.cell (World.block_lt_of_cell? w _ hx3)).trans hx3
              replace p3 := eq_true p3
              replace q3 := eq_true q3
              have SN := Pd.out
              have hcell := (BM.out.at_ x y Pd.out SQ).1
              have hfr := (BM.out.at_ x y Pd.out SQ).2
              obtain ⟨v,hv⟩ : ∃ v,Fb (AB (yg.take i)) g p q x y = v := ⟨_,rfl⟩
              rw [hv] at hcell
              have HV := yf.mk hv
              clear hv
              have hv0 : 0 ≤ v := HV.out ▸ (KL HD.out i (Nat.le_of_lt HL.out) g HGOK.out.1 p q x y).1
              have hv1 : v ≤ 10000 := HV.out ▸ (KL HD.out i (Nat.le_of_lt HL.out) g HGOK.out.1 p q x y).2
              go_wp2
              go_region
              go_wp2
              go_roundg k3
              case measure => exact Nat.lt_succ_self _
              case rel =>
                refine ⟨q + 1,vi HQL.out HRG.out.2.1,⟨by have := HQL.out;omega,by have := HQ.out.2;have := HQL.out;omega⟩,⟨?_⟩,⟨Gp BK.out NB.out _⟩,⟨zt (Dw HB.out GM.out)⟩⟩
                refine (BM.out.put x y Pd.out SQ (v + 1)).congr fun a b _ _ => ?_
                rw [← HV.out]
                exact NQ _ g p q HPL.out HQL.out x y HX.out HY.out a b
            · have c3b : decide ((q : Int) < (g.length : Int)) = false := decide_eq_false (by omega)
              obtain rfl : q = g.length := by have := HQ.out.1;omega
              clear c3
              go_wp2
              go_roundg k2
              case measure => exact Nat.lt_succ_self _
              case rel => exact ⟨p + 1,vi HPL.out HRG.out.2.1,⟨by have := HPL.out;omega,by have := HP.out.2;have := HPL.out;omega⟩,⟨BM.out.congr fun a b _ _ => NP _ g p HPL.out a b (by omega)⟩,BK,HB⟩
        · have c2b : decide ((p : Int) < (g.length : Int)) = false := decide_eq_false (by omega)
          obtain rfl : p = g.length := by have := HP.out.1;omega
          clear c2
          go_wp2
          go_roundg k1
          case measure => exact Nat.lt_succ_self _
          case rel => exact ⟨i + 1,vi HL.out HR.out.2.1,⟨by have := HL.out;omega,by have := HI.out.2;have := HL.out;omega⟩,⟨BM.out.congr fun a b _ _ => OW yg i HL.out g ((getD_at yg [] i HL.out).symm.trans HG.out) a b⟩,BK,HB⟩
    · have c1b : decide ((i : Int) < (yg.length : Int)) = false := decide_eq_false (by omega)
      obtain rfl : i = yg.length := by have := HI.out.1;omega
      clear c1 HI
      rw [List.take_length] at BM
      obtain ⟨rr,hrr⟩ : ∃ x,AB yg 0 0 = x := ⟨_,rfl⟩
      obtain ⟨lm,hlm⟩ : ∃ x,AB yg 0 1 = x := ⟨_,rfl⟩
      have a2i : wr.cell? ⟨gm,0,none⟩ = some (.int .i64 rr) := hrr ▸ (BM.out.at_ 0 0 (by omega) (by omega)).1
      have a2j : wr.cell? ⟨gm,1,none⟩ = some (.int .i64 lm) := hlm ▸ (BM.out.at_ 0 1 (by omega) (by omega)).1
      have HRR := yf.mk hrr
      have HLM := yf.mk hlm
      clear hrr hlm
      clear hcz hfz
      have hcz := bc2 BK
      go_wp2
      go_region
      clear a2i a2j
      go_wp2
      go_loopg [58] yj.toNat (fun kq v58 w' => ∃ i : Nat,v58 = .int .i64 (i : Int) ∧ yf (i ≤ yj.toNat ∧ kq = yj.toNat - i) ∧ yf (∀ a b : Nat,a < i → b < yj.toNat → AB yg a b = if a = b then rr else lm) ∧ yf (LC w' gm 130 (AB yg)) ∧ yf (w'.heap[gb]? = some (.cells #[.int .i64 yj,.slice yK yg.length yE] 27 (0,0))) ∧ yf (Below w.heap.size w w'))
      case atStart => exact ⟨0,rfl,⟨Nat.zero_le _,by omega⟩,⟨fun a b h => absurd h (by omega)⟩,BM,BK,⟨zt HB.out⟩⟩
      case round =>
        clear BM BK HB hcz
        obtain ⟨i,rfl,HI,HA,BM,BK,HB⟩ := hrel
        have hcz := bc2 BK
        have hd0 := HD.out.1
        have a6d := HD.out.2.1
        by_cases c1 : i < yj.toNat
        · have c1b : decide ((i : Int) < yj) = true := decide_eq_true (by omega)
          have HL := yf.mk c1
          obtain ⟨k1,rfl⟩ : ∃ k1,gk = k1 + 1 := ⟨gk - 1,by have := HI.out.2;omega⟩
          go_wp2
          go_loopg [63] yj.toNat (fun kq v63 w' => ∃ j : Nat,v63 = .int .i64 (j : Int) ∧ yf (j ≤ yj.toNat ∧ kq = yj.toNat - j) ∧ yf (∀ b : Nat,b < j → AB yg i b = if i = b then rr else lm) ∧ yf (LC w' gm 130 (AB yg)) ∧ yf (w'.heap[gb]? = some (.cells #[.int .i64 yj,.slice yK yg.length yE] 27 (0,0))) ∧ yf (Below w.heap.size w w'))
          case atStart => exact ⟨0,rfl,⟨Nat.zero_le _,by omega⟩,⟨fun b h => absurd h (by omega)⟩,BM,BK,HB⟩
          case round =>
            clear BM BK HB hcz
            obtain ⟨j,rfl,HJ,HN,BM,BK,HB⟩ := hrel
            by_cases c2 : j < yj.toNat
            · have c2b : decide ((j : Int) < yj) = true := decide_eq_true (by omega)
              obtain ⟨k2,rfl⟩ : ∃ k2,gk = k2 + 1 := ⟨gk - 1,by have := HJ.out.2;omega⟩
              obtain ⟨v,hv⟩ : ∃ v,AB yg (i : Int) (j : Int) = v := ⟨_,rfl⟩
              have hcell : wr.cell? ⟨gm,i * 60 + j,none⟩ = some (.int .i64 v) := hv ▸ (BM.out.at_ i j (by omega) (by omega)).1
              have HV := yf.mk hv
              have HJL := yf.mk c2
              clear hv
              have p1 : i < 60 := by omega
              have p2 : j < 60 := by omega
              by_cases c3 : i = j
              · subst c3
                by_cases c4 : v = rr
                · have c4b : (v != rr) = false := by simp [c4]
                  have HEQ := yf.mk c4
                  clear c4 c1 c2
                  go_wp2
                  go_roundg k2
                  case measure => exact Nat.lt_succ_self _
                  case rel => exact ⟨i + 1,by go_num,⟨by have := HJL.out;omega,by have := HJ.out.2;have := HJL.out;omega⟩,⟨fun b hb => by
                    rcases Nat.lt_or_ge b i with h | h
                    · exact HN.out b h
                    · obtain rfl : b = i := by omega
                      rw [if_pos rfl,HV.out,HEQ.out]⟩,BM,BK,HB⟩
                · have c4b : (v != rr) = true := by simp [c4]
                  have HNE := yf.mk c4
                  clear c4 c1 c2
                  obtain ⟨rfl,rfl,rfl⟩ := Oz hres.out (fun hb => HNE.out (by have := Pn hb i i HJL.out HJL.out;rw [if_pos rfl,HV.out,HRR.out] at this;exact this))
                  go_wp2
                  go_ret3
                  exact ⟨rfl,HB.out⟩
              · have c3b : ((i : Int) == (j : Int)) = false := by simp;omega
                by_cases c4 : v = lm
                · have c4b : (v != lm) = false := by simp [c4]
                  have HEQ := yf.mk c4
                  have HIJ := yf.mk c3
                  clear c4 c1 c2 c3
                  go_wp2
                  go_roundg k2
                  case measure => exact Nat.lt_succ_self _
                  case rel => exact ⟨j + 1,by go_num,⟨by have := HJL.out;omega,by have := HJ.out.2;have := HJL.out;omega⟩,⟨fun b hb => by
                    rcases Nat.lt_or_ge b j with h | h
                    · exact HN.out b h
                    · obtain rfl : b = j := by omega
                      rw [if_neg HIJ.out,HV.out,HEQ.out]⟩,BM,BK,HB⟩
                · have c4b : (v != lm) = true := by simp [c4]
                  have HNE := yf.mk c4
                  have HIJ := yf.mk c3
                  clear c4 c1 c2 c3
                  obtain ⟨rfl,rfl,rfl⟩ := Oz hres.out (fun hb => HNE.out (by have := Pn hb i j HL.out HJL.out;rw [if_neg HIJ.out,HV.out,HLM.out] at this;exact this))
                  go_wp2
                  go_ret3
                  exact ⟨rfl,HB.out⟩
            · have c2b : decide ((j : Int) < yj) = false := decide_eq_false (by omega)
              have HJE : j = yj.toNat := by have := HJ.out.1;omega
              replace HJE := yf.mk HJE
              clear c1 c2
              go_wp2
              go_roundg k1
              case measure => exact Nat.lt_succ_self _
              case rel => exact ⟨i + 1,vi (n := yj.toNat) HL.out (by omega),⟨by have := HL.out;omega,by have := HI.out.2;have := HL.out;omega⟩,⟨fun a b ha hb => by
                rcases Nat.lt_or_ge a i with h | h
                · exact HA.out a b h hb
                · obtain rfl : a = i := by omega
                  exact HN.out b (by have := HJE.out;omega)⟩,BM,BK,HB⟩
        · have c1b : decide ((i : Int) < yj) = false := decide_eq_false (by omega)
          have HIE : i = yj.toNat := by have := HI.out.1;omega
          replace HIE := yf.mk HIE
          have HBAL := yf.mk (a1I (d := yj) (l := yg) fun a b ha hb => by rw [HA.out a b (by have := HIE.out;omega) hb,HRR.out,HLM.out])
          clear c1
          by_cases c2 : lm < 1
          · obtain ⟨rfl,rfl,rfl⟩ := RX hres.out (by rw [HLM.out];exact c2)
            go_wp2
            go_ret3
            exact ⟨rfl,HB.out⟩
          · obtain ⟨rfl,rfl,rfl⟩ := RY hres.out HBAL.out (by rw [HLM.out];exact c2)
            go_wp2
            go_ret3
            exact ⟨by rw [HRR.out,HLM.out];rfl,HB.out⟩
def Dn.f (a0 : Int) (l : List (List Int)) : Option (Int × Int × Int) := if DF a0 l then some (J5 a0 l) else some (0,0,5)
set_option maxHeartbeats 1000000 in
set_option maxRecDepth 100000 in
theorem Dn.calls (yj : Int) (yK : Option Addr) (yE : Nat) (yg : List (List Int)) (r1 r2 r3 : Int) (w : World) (zS : Kd.C (Kd.slice 3 (Kd.int .i64)) w yK yg.length yg) (zT : yg.length ≤ yE) (h : Dn.f yj yg = some (r1,r2,r3)) :
    Calls Tryz.prog 72 #[.agg #[.int .i64 yj,.slice yK yg.length yE]] w fun e w' => e = .returned (.tuple #[.int .i64 r1,.int .i64 r2,.int .i64 r3]) ∧ Below w.heap.size w w' := by
  obtain ⟨k,hk⟩ := (UI yj yg (fun g hg => Te zS g hg)).rounds
  unfold Dn.f at h
  by_cases hF : DF yj yg
  · rw [if_pos hF] at h
    rw [decide_eq_true hF] at hk
    exact Dn.tst k yj yK yE yg r1 r2 r3 w zS zT hk hF (Option.some.inj h)
  · rw [if_neg hF] at h
    rw [decide_eq_false hF] at hk
    obtain ⟨rfl,rfl,rfl⟩ : r1 = 0 ∧ r2 = 0 ∧ r3 = 5 := by simp at h;omega
    have ET := Tryz.underlying27
    have HR := yf.mk zS
    have HC := yf.mk zT
    have HF := yf.mk hk
    clear zS zT hk h hF
    have HB := yf.mk (Below.refl w.heap.size w)
    go_enter Tryz.func72,Tryz.ntmps72
    go_wp2_with (first
      | ((with_reducible refine yG (N := 1) rfl ?_);refine yD ?hg (N := 1) ?hd (cs := #[.int .i64 yj,.slice yK yg.length yE]) (t := 27) ?hr ?_;(case hd => rfl);(case hg => rfl);(case hr => first | (go_simp;done) | (go_simp;rfl));intro gb hg w8 yI hb;have BK := yf.mk yI;have GE := bG (w := w) hg;replace HB := bS HB hb;clear hb yI hg;have hcz := bc2 BK;have hfz := bf BK)
      | (go_at_call 87;refine (za.calls k yj _ _ yg false _ (CU HR) HC.out HF.out).mono ?_;rintro e w9 ⟨rfl,hb⟩;replace BK := bB BK hb;replace HB := bS HB hb;clear hb hcz hfz;have hcz := bc2 BK;have hfz := bf BK))
    go_ret3
    exact ⟨rfl,HB.out⟩
end Go.Proofs.YtjonnfmoocijlaaGreat.P
