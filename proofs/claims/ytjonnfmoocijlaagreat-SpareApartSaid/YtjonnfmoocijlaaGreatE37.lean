/- Texts of a claim, packed. -/
import Derived.Lib.SliceRun
import Derived.Deep.RegionLaw
import Derived.Test.YtjonnfmoocijlaaGreatE2
import Derived.Test.YtjonnfmoocijlaaGreatE4
set_option linter.all false
namespace Go.Proofs.YtjonnfmoocijlaaGreat.P
open Go.RowKit Go.Proofs.YtjonnfmoocijlaaGreatKW.PrintWords Go.Proofs.YtjonnfmoocijlaaGreatKW.PrintLast Go.Proofs.YtjonnfmoocijlaaGreatKW.PrintMore
def D5.f (l : List AP) : Option (List AP) := if l.length < 4398046511104 then some l else none
set_option maxHeartbeats 1000000 in
set_option maxRecDepth 100000 in
theorem D5.calls (A0 : Option Addr) (c0 : Nat) (l0 : List AP) (r : List AP) (w : World) (hr0 : Kd.C DN w A0 l0.length l0) (hc0 : l0.length ≤ c0) (h : D5.f l0 = some r) :
    Calls Tryz.prog 39 #[.slice A0 l0.length c0] w fun e w' => ∃ G7 : Value,e = .returned G7 ∧ Kd.R DN 60 w' w.heap.size (fun _ => True) G7 r ∧ Below w.heap.size w w' := by
  have hnil : ∀ (w : World) (a : Option Addr) (n c n' c' : Nat),(binOp .eql 31 (.slice a n c) (.slice none n' c')).run Tryz.prog w = .ok (.bool a.isNone) w := fun w a n c n' c' => Lib.run_eql_slice_nil w _ _ a n c n' c' Tryz.underlying31
  unfold D5.f at h
  by_cases hl : l0.length < 4398046511104
  · rw [if_pos hl] at h
    obtain rfl := Option.some.inj h
    rcases A0 with _ | ad
    · have h0 : l0 = [] := by
        rcases Nat.eq_zero_or_pos l0.length with h | h
        · exact List.eq_nil_of_length_eq_zero h
        · obtain ⟨ad,h,_⟩ := hr0.2.2 h
          cases h
      subst h0
      go_enter Tryz.func39,Tryz.ntmps39
      go_wp2
      go_ret
      exact ⟨_,rfl,Kd.Dc _ _ _ _ _,Below.refl _ _⟩
    · have MS := yf.mk hr0
      have Yy := yf.mk hc0
      have HL := yf.mk hl
      clear hr0 hc0 hl h
      have HB := yf.mk (Below.refl w.heap.size w)
      go_enter Tryz.func39,Tryz.ntmps39
      go_wp2_with (first
        | ((with_reducible refine yG (N := 5) rfl ?_);refine Kd.JC DN _ 60 ?hg (N := 5) ?hd (xs := ([] : List (AP))) (inner := []) (ok := fun _ => True) (okp := fun _ => True) ?hr ?hp (fun _ hk => hk) trivial (Below.refl _ _) (Nat.le_refl _) (by simp) ?_;(case hd => rfl);(case hg => rfl);(case hr => first | (go_simp;done) | (go_simp;rfl));(case hp => exact (BQ.none _ _));intro v545 w3 ae hb JY DL;clear JY DL;have aa := yf.mk (Kd.AC ae (yF (bO HB)));replace HB := bS HB hb;clear hb ae)
        | ((with_reducible refine Bf (b := .append) (xs := #[.tmp 5,.tmp 6]) rfl ?_);at_builtin;refine Kd.Hg DN (w0 := w) w.heap.size rfl (.tmp 5) (.tmp 6) 31 60 (.agg #[(.int .i64 0),(.int .i64 0),(.int .i64 0),(.int .i64 0)]) 32 rfl Tryz.underlying31 J8 rfl (by decide) (by omega) v545 [] l0 _ _ _ (fun _ => True) (fun _ => False) rfl rfl ?aO ?aR (fun _ _ h => h) (fun _ h => h.elim) ?aF ?aB ?aS ?aL ?_;(case aR => exact (Kd.CE MS.out HB.out));(case aB => exact (bO HB));(case aF => exact (fun _ _ => trivial));(case aO => exact (kR aa));(case aS => exact (yF (bO HB)));(case aL => have := HL.out;simp only [List.length_nil];omega);intro v548 w5 ho hb hg hat;rw [List.nil_append] at ho;have BR := yf.mk (hb);have BS := yf.mk (ho);clear HB;clear aa;have HB := BR;have af := BS;clear BR BS;clear ho hb hg hat))
      go_ret
      exact ⟨_,rfl,af.out,bO HB⟩
  · rw [if_neg hl] at h
    cases h
def Qq (x : AP) : List Value := [.int .i64 x.f0,.int .i64 x.f1,.int .i64 x.f2.f0,.int .i64 x.f2.f1]
def AR (l : List AP) : List Value := l.flatMap Qq
theorem El (l : List AP) : (AR l).length = l.length * 4 := by
 induction l with
 | nil => rfl
 | cons x l ih => rw [AR,List.flatMap_cons,List.length_append,← AR,ih];simp [Qq];omega
theorem Kq (a b : List AP) : AR (a ++ b) = AR a ++ AR b := List.flatMap_append
theorem Jp (u : Value) (l : List AP) (h : u ∈ AR l) : u.oneCell' = true := by
 obtain ⟨x,_,hx⟩ := List.mem_flatMap.1 h
 simp only [Qq,List.mem_cons,List.not_mem_nil,or_false] at hx
 rcases hx with rfl | rfl | rfl | rfl <;> rfl
theorem JV (x : AP) (l : List AP) : AR (x :: l) = Qq x ++ AR l := List.flatMap_cons
theorem Nr (l : List AP) (n : Nat) : AR (l.take n) = (AR l).take (n * 4) := by
 induction l generalizing n with
 | nil => simp [AR]
 | cons x l ih =>
  cases n with
  | zero => simp [AR]
  | succ n =>
   rw [List.take_succ_cons,JV,JV,ih,Nat.succ_mul,List.take_append,show (Qq x).length = 4 from rfl,Nat.add_sub_cancel,List.take_of_length_le (l := Qq x) (by show 4 ≤ n * 4 + 4;omega)]
theorem JW (l : List AP) (n : Nat) : AR (l.drop n) = (AR l).drop (n * 4) := by
 induction l generalizing n with
 | nil => simp [AR]
 | cons x l ih =>
  cases n with
  | zero => simp [AR]
  | succ n =>
   rw [List.drop_succ_cons,JV,ih,Nat.succ_mul,List.drop_append,show (Qq x).length = 4 from rfl,Nat.add_sub_cancel,List.drop_of_length_le (l := Qq x) (by show 4 ≤ n * 4 + 4;omega),List.nil_append]
theorem XH {w : World} {base : Nat} {ok : Nat → Prop} {l : List AP} {cs : List Value} (h : BQ (DN.M w base ok) 4 l cs) : cs = AR l := by
 induction l generalizing cs with
 | nil => exact List.eq_nil_of_length_eq_zero (by rw [h.1];simp)
 | cons x l ih =>
  have h0 := Li (h.2 0 x rfl)
  rw [Nat.zero_mul,List.drop_zero] at h0
  have h1 : cs.drop 4 = AR l := ih ⟨by rw [List.length_drop,h.1];simp;omega,fun j p hj => by
   have := h.2 (j + 1) p (by simpa using hj)
   rw [List.drop_drop,show 4 + j * 4 = (j + 1) * 4 by omega]
   exact this⟩
  rw [← List.take_append_drop 4 cs,h0,h1]
  rfl
theorem Wq (w : World) (base : Nat) (ok : Nat → Prop) (l : List AP) : BQ (DN.M w base ok) 4 l (AR l) := by
 refine ⟨El l,fun j p hj => ?_⟩
 obtain ⟨hl,rfl⟩ := List.getElem?_eq_some_iff.1 hj
 rw [← JW,List.drop_eq_getElem_cons hl]
 exact Io w base ok _
theorem I8 {w : World} {base : Nat} {ok : Nat → Prop} {u : Value} {l : List AP} (h : Kd.R DN 60 w base ok u l) :
    (u = .slice none 0 0 ∧ l = []) ∨ ∃ g cap cur,u = .slice (some ⟨g,0,none⟩) l.length cap ∧ ok g ∧ base ≤ g ∧ w.heap[g]? = some (.cells cur 60 (0,0)) ∧ l.length ≤ cap ∧ cap ≤ maxLen ∧ cur.size = cap * 4 ∧ cur.toList.take (l.length * 4) = AR l := by
  obtain ⟨h0,inner,ho,hr⟩ := h
  have hin := XH hr
  subst hin
  rcases ho.2 with ⟨rfl,hn⟩ | ⟨g,cap,cur,rfl,hb,hh,h1,h2,h3,h4⟩
  · exact .inl ⟨rfl,List.eq_nil_of_length_eq_zero hn⟩
  · exact .inr ⟨g,cap,cur,rfl,h0 g rfl,hb,hh,h1,h2,h3,h4⟩
theorem PO {w : World} {base : Nat} {ok : Nat → Prop} {l : List AP} {g cap : Nat} {cur : Array Value} (hok : ok g) (hb : base ≤ g) (hh : w.heap[g]? = some (.cells cur 60 (0,0))) (h1 : l.length ≤ cap) (h2 : cap ≤ maxLen) (h3 : cur.size = cap * 4)
    (h4 : cur.toList.take (l.length * 4) = AR l) : Kd.R DN 60 w base ok (.slice (some ⟨g,0,none⟩) l.length cap) l :=
  ⟨fun k hk => by simp [Value.ownBlock] at hk;subst hk;exact hok,AR l,⟨El l,.inr ⟨g,cap,cur,rfl,hb,hh,h1,h2,h3,h4⟩⟩,Wq w base _ l⟩
theorem Dt (g t : Nat) : ∀ (vs : List Value) (o : Nat) (w : World) (cur : Array Value),w.heap[g]? = some (.cells cur t (0,0)) → o + vs.length ≤ cur.size →
    ∃ cur',(w.setCells g o vs).heap[g]? = some (.cells cur' t (0,0)) ∧ cur'.size = cur.size ∧ cur'.toList = cur.toList.take o ++ vs ++ cur.toList.drop (o + vs.length)
  | [],o,w,cur,h,_ => ⟨cur,h,rfl,by simp⟩
  | v :: vs,o,w,cur,h,hl => by
    rw [List.length_cons] at hl
    obtain ⟨cur',h1,h2,h3⟩ := Dt g t vs (o + 1) _ _ (MC h o v) (by simp;omega)
    refine ⟨cur',h1,by simpa using h2,?_⟩
    rw [h3,Array.toList_setIfInBounds]
    apply List.ext_getElem?
    intro i
    simp only [List.getElem?_append,List.getElem?_take,List.getElem?_drop,List.length_append,List.length_take,List.length_set,List.length_cons,List.getElem?_set,Array.length_toList,List.getElem?_cons]
    have ho : o < cur.size := by omega
    rcases Nat.lt_trichotomy i o with hi | rfl | hi
    · simp [show i < o + 1 by omega,show i < cur.size by omega,hi,show ¬ o = i by omega,show min (o + 1) cur.size = o + 1 by omega,show min o cur.size = o by omega,show i < o + 1 + vs.length by omega,show i < o + (vs.length + 1) by omega]
    · simp [show i < cur.size by omega,show min (i + 1) cur.size = i + 1 by omega,show min i cur.size = i by omega]
      intro h9;omega
    · have e1 : min (o + 1) cur.size = o + 1 := by omega
      have e2 : min o cur.size = o := by omega
      by_cases h5 : i < o + 1 + vs.length
      · simp [e1,e2,h5,show ¬ i < o + 1 by omega,show ¬ i < o by omega,show i < o + (vs.length + 1) by omega,show ¬ i - o = 0 by omega,show i - (o + 1) = i - o - 1 by omega]
      · simp [e1,e2,h5,show ¬ i < o + (vs.length + 1) by omega,show o + 1 + vs.length + (i - (o + 1 + vs.length)) = o + (vs.length + 1) + (i - (o + (vs.length + 1))) by omega,show ¬ o = o + (vs.length + 1) + (i - (o + (vs.length + 1))) by omega]
theorem O9 (w : World) (g o : Nat) (v : Value) : w.grownBy (w.setCell ⟨g,o,none⟩ v) (some g) :=
 ⟨rfl,rfl,rfl,by simp [World.setCell],fun k hk hne => Below.heap_setCell w ⟨g,o,none⟩ v k (fun h => hne (by rw [h]))⟩
theorem Du (g : Nat) : ∀ (vs : List Value) (o : Nat) (w : World),w.grownBy (w.setCells g o vs) (some g)
 | [],o,w => World.grownBy.refl w _
 | v :: vs,o,w => World.grownBy.trans (O9 w g o v) (Du g vs (o + 1) _)
def Dk.f (l : List AP) (i j : Int) : Option (List AP) := if 0 ≤ i ∧ i.toNat < l.length ∧ j = i + 1 then some (l.eraseIdx i.toNat) else none
theorem RZ (W : World) (ty : TypeId) (g o c : Nat) (cur : Array Value) (hh : W.heap[g]? = some (.cells cur 60 (0,0))) (ho : o + 4 ≤ cur.size) :
    (Builtin.clear_ #[31] ty #[.slice (some ⟨g,o,none⟩) 1 c]).run Tryz.prog W = .ok (.tuple #[]) (W.setCells g o [.int .i64 0,.int .i64 0,.int .i64 0,.int .i64 0]) := by
  have hst := run_storeCells_cells (P := Tryz.prog) g o [.int .i64 0,.int .i64 0,.int .i64 0,.int .i64 0] 0 W (fun j hj => by rw [yx hh,Array.getElem?_eq_getElem (by simp at hj;omega)];rfl) (fun j hj => zy hh _) (by intro u hu;simp only [List.mem_cons,List.not_mem_nil,or_false] at hu;rcases hu with rfl | rfl | rfl | rfl <;> rfl)
  rw [Nat.add_zero] at hst
  have hz : (Builtin.zeroCells (Value.agg #[.int .i64 0,.int .i64 0,.int .i64 0,.int .i64 0]).cells 1).toList = [.int .i64 0,.int .i64 0,.int .i64 0,.int .i64 0] := by simp [Builtin.zeroCells,Value.cells];rfl
  have hv : ∀ w,(zeroValue 60).run Tryz.prog w = .ok (Value.agg #[.int .i64 0,.int .i64 0,.int .i64 0,.int .i64 0]) w := Tryz.zeroValue60
  simp [Builtin.clear_,run_underlying Tryz.underlying31,hv,hz,hst]
set_option maxHeartbeats 1000000 in
set_option maxRecDepth 100000 in
theorem Dk.calls (Ig : Nat → Prop) (EK : Value) (l0 : List AP) (a1 a2 : Int) (r : List AP) (w0 w : World) (hB : Below w0.heap.size w0 w) (ho0 : Kd.R DN 60 w w0.heap.size Ig EK l0) (h : Dk.f l0 a1 a2 = some r) :
    Calls Tryz.prog 40 #[EK,.int .i64 a1,.int .i64 a2] w fun e w' => ∃ G7 : Value,e = .returned G7 ∧ Kd.R DN 60 w' w0.heap.size (fun k_ => (Ig k_ ∨ w.heap.size ≤ k_)) G7 r ∧ Below w0.heap.size w0 w' ∧ Kept w w' (fun k_ => Ig k_) := by
  unfold Dk.f at h
  by_cases hc : 0 ≤ a1 ∧ a1.toNat < l0.length ∧ a2 = a1 + 1
  · rw [if_pos hc] at h
    obtain rfl := Option.some.inj h
    obtain ⟨hc1,hc2,rfl⟩ := hc
    obtain ⟨k,rfl⟩ : ∃ k : Nat,a1 = (k : Int) := ⟨a1.toNat,by omega⟩
    rw [Int.toNat_natCast] at hc2 ⊢
    rcases I8 ho0 with ⟨rfl,rfl⟩ | ⟨g,cap,cur,rfl,hP,hb,hh,h1,h2,h3,h4⟩
    · simp at hc2
    · have hcap : cap ≤ 9223372036854775807 := h2
      have e1 : (((k : Nat) : Int) + 1) = ((k + 1 : Nat) : Int) := by omega
      rw [e1]
      obtain ⟨m,hm⟩ : ∃ m,l0.length = m + 1 := ⟨l0.length - 1,by omega⟩
      rw [hm] at ho0 hc2 h1 ⊢
      have HO := yf.mk ho0
      have HBB := yf.mk hB
      have HP := yf.mk hP
      have HG := yf.mk hb
      have HM := yf.mk hm
      clear ho0 hB hh h4 h3 e1 hP hb hm
      have hic : k ≤ cap := by omega
      have hjc : k + 1 ≤ cap := by omega
      have hk0 : 0 ≤ (k : Int) + 1 := by omega
      have hk1 : (k : Int) + 1 ≤ (m : Int) + 1 := by omega
      have hA : (if cap = k + 1 then some (⟨g,0,none⟩ : Addr) else some ⟨g,(k + 1) * 4,none⟩) = if cap = k + 1 then some (⟨g,0,none⟩ : Addr) else (some (⟨g,0,none⟩ : Addr)).map (·.add ((k + 1) * DN.sz)) := by
        split
        · rfl
        · show _ = some (Addr.add ⟨g,0,none⟩ ((k + 1) * 4))
          simp [Addr.add]
      replace hA := yf.mk hA
      have t1 : (k == k + 1) = false := by simp
      have t1' : ((k : Int) == ((k + 1 : Nat) : Int)) = false := by simp;omega
      go_enter Tryz.func40,Tryz.ntmps40
      go_wp2
      go_region_law (refine Kd.O4 DN (w0 := w0) w0.heap.size (by rfl) (.tmp 22) (.tmp 25) 31 60 rfl Tryz.underlying31 (by rfl) (g := g) (n := m + 1) (c := cap) (k := k) rfl rfl hA.out (by omega) (xs := l0) (ok := Ig) (Kd.DI HO.out) hc2 HBB.out.drew HBB.out.size ?_;intro w1 ho hb hg;have HO1 := yf.mk ho;have HB1 := yf.mk hb;have Yk := yf.mk hg;clear ho hb hg)
      obtain ⟨cur,hh,hcs,hct⟩ : ∃ cur,w1.heap[g]? = some (.cells cur 60 (0,0)) ∧ cur.size = cap * 4 ∧ cur.toList.take ((l0.eraseIdx k).length * 4) = AR (l0.eraseIdx k) := by
        rcases I8 HO1.out with ⟨h,_⟩ | ⟨g',cap',cur,h,_,_,hh,_,_,h3,h4⟩
        · cases h
        · injection h with h5 _ h6
          injection h5 with h5
          injection h5 with h5
          subst h5;subst h6
          exact ⟨cur,hh,h3,h4⟩
      have hel : (l0.eraseIdx k).length = m := by rw [List.length_eraseIdx,if_pos (by have := HM.out;omega),HM.out];omega
      have hmc : m ≤ cap := by omega
      have hm1 : (cap = m) = False := eq_false (by omega)
      have hcl := RZ w1 0 g (m * 4) (cap - m) cur hh (by omega)
      have e2 : m + 1 - m = 1 := by omega
      obtain ⟨cur',k1,k2,k3⟩ := Dt g 60 [.int .i64 0,.int .i64 0,.int .i64 0,.int .i64 0] (m * 4) w1 cur hh (by simp;omega)
      have KG := yf.mk (Du g [.int .i64 0,.int .i64 0,.int .i64 0,.int .i64 0] (m * 4) w1)
      obtain ⟨w2,hw2⟩ : ∃ w2,w1.setCells g (m * 4) [.int .i64 0,.int .i64 0,.int .i64 0,.int .i64 0] = w2 := ⟨_,rfl⟩
      rw [hw2] at hcl k1 KG
      have hR : Kd.R DN 60 w2 w0.heap.size (fun k_ => (Ig k_ ∨ w.heap.size ≤ k_)) (.slice (some ⟨g,0,none⟩) m cap) (l0.eraseIdx k) := by
        have h5 := PO (w := w2) (base := w0.heap.size) (ok := fun k_ => (Ig k_ ∨ w.heap.size ≤ k_)) (l := l0.eraseIdx k) (cap := cap) (.inl HP.out) HG.out k1 (by omega) h2 (by omega) (by rw [k3,hel,List.append_assoc,List.take_append_of_le_length (by rw [List.length_take,Array.length_toList];omega),List.take_take,Nat.min_self,← hel];exact hct)
        rwa [hel] at h5
      have hBn : Below w0.heap.size w0 w2 := HB1.out.grown KG.out HB1.out.size (fun k hk => by injection hk with hk;subst hk;exact HG.out)
      have hKp : Kept w w2 (fun k_ => Ig k_) := ⟨Nat.le_trans Yk.out.size KG.out.size,fun j hj hn => (KG.out.block j (Nat.lt_of_lt_of_le hj Yk.out.size) (fun e => hn (by injection e with e;rw [e];exact HP.out))).trans (Yk.out.block j hj (fun e => hn (by injection e with e;rw [e];exact HP.out)))⟩
      have HR2 : cap = k + 1 → Kd.R DN 60 w2 w0.heap.size (fun k_ => (Ig k_ ∨ w.heap.size ≤ k_)) (.slice (some ⟨g,0,none⟩) m (k + 1)) (l0.eraseIdx k) := fun h => h ▸ hR
      replace HR2 := yf.mk HR2
      have HR := yf.mk hR
      have HBN := yf.mk hBn
      have HKP := yf.mk hKp
      clear hw2 k1 k2 k3 hh hct hcs hR hBn hKp KG HB1 HO1 Yk hel
      go_wp2
      all_goals (go_ret;first | exact ⟨_,rfl,HR.out,HBN.out,HKP.out⟩ | exact ⟨_,rfl,HR2.out (by assumption),HBN.out,HKP.out⟩)
  · rw [if_neg hc] at h
    cases h
end Go.Proofs.YtjonnfmoocijlaaGreat.P
