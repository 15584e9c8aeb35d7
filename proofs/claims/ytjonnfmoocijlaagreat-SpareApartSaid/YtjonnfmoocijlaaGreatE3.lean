/- Texts of a claim, packed. -/
import Derived.OrdersHeld
import Derived.Laws.BitsLemmas
import Derived.Laws.StructEq
import Derived.Test.YtjonnfmoocijlaaGreatE1
set_option linter.all false
namespace Go.Proofs.YtjonnfmoocijlaaGreatKW.PrintLast
section
variable {P : Program} {ops : Array Oper} {Q : Exit → Act → World → Prop} {md : Region.Mode} {S : World → Prop} {ds : List Nat}
def Region.Gd (md : Region.Mode) (ops : Array Oper) (i : Nat) : Nat → Nat → Bool
 | 0,_ => false
 | fuel + 1,d => match ops[d]? with
  | some o => o.after.any fun e => Region.binds md e && (e.on == i || Region.Gd md ops i fuel e.on)
  | none => false
def Region.Kn (md : Region.Mode) (ops : Array Oper) (listed : Array Bool) : Bool :=
 (List.range ops.size).all fun j => !listed.getD j false || match ops[j]? with
  | some o => o.after.all fun e => !Region.binds md e || listed.getD e.on false
  | none => true
def Region.lastB (md : Region.Mode) (ops : Array Oper) (listed : Array Bool) (ds : List Nat) (i : Nat) : Bool :=
 ds.all fun d => listed.getD d true || Region.Gd md ops i ops.size d
def Er (md : Region.Mode) (ops : Array Oper) (listed : Array Bool) : Prop :=
 ∀ j oj,ops[j]? = some oj → listed.getD j false = true → ∀ e ∈ oj.after,Region.binds md e = true → listed.getD e.on false = true
theorem Region.Pv {listed : Array Bool} (h : Region.Kn md ops listed = true) : Er md ops listed := by
 intro j oj hj hl e he hb
 have hlt : j < ops.size := (Array.getElem?_eq_some_iff.1 hj).1
 have h1 := List.all_eq_true.1 h j (List.mem_range.2 hlt)
 simp only [hl,hj,Bool.not_true,Bool.false_or] at h1
 have h2 := Array.all_eq_true_iff_forall_mem.1 h1 e he
 simpa [hb] using h2
theorem Er.set {listed : Array Bool} {i : Nat} (h : Er md ops listed) (hi : i ∈ Region.ready md ops listed) : Er md ops (listed.setIfInBounds i true) := by
  obtain ⟨_,oi,hoi,hall⟩ := mem_ready.1 hi
  intro j oj hj hl e he hb
  by_cases hij : i = j
  · subst hij
    have : oj = oi := Option.some.inj (hj.symm.trans hoi)
    subst this
    exact getD_set_true (hall e he hb)
  · rw [getD_set_ne false hij] at hl
    exact getD_set_true (h j oj hj hl e he hb)
theorem Region.KN {listed : Array Bool} {i : Nat} (hc : Er md ops listed) : ∀ (fuel d : Nat),Region.Gd md ops i fuel d = true → listed.getD d false = true → listed.getD i false = true
 | 0,_,h,_ => by simp [Region.Gd] at h
 | fuel + 1,d,h,hl => by
  unfold Region.Gd at h
  cases ho : ops[d]? with
  | none => rw [ho] at h;simp at h
  | some o =>
   rw [ho] at h
   obtain ⟨e,he,h1⟩ := Array.any_eq_true'.1 h
   simp only [Bool.and_eq_true,Bool.or_eq_true,beq_iff_eq] at h1
   have hle := hc d o ho hl e he h1.1
   rcases h1.2 with h2 | h2
   · rw [← h2];exact hle
   · exact Region.KN hc fuel e.on h2 hle
theorem Region.Ms {listed : Array Bool} {i d fuel : Nat} (hc : Er md ops listed) (hr : Region.Gd md ops i fuel d = true) (hun : listed.getD i true = false) : d ∉ Region.ready md ops listed := by
  intro hd
  obtain ⟨_,o,ho,hall⟩ := mem_ready.1 hd
  have hi : listed.getD i false = true := by
    cases fuel with
    | zero => simp [Region.Gd] at hr
    | succ n =>
      unfold Region.Gd at hr
      rw [ho] at hr
      obtain ⟨e,he,h1⟩ := Array.any_eq_true'.1 hr
      simp only [Bool.and_eq_true,Bool.or_eq_true,beq_iff_eq] at h1
      have hle := hall e he h1.1
      rcases h1.2 with h2 | h2
      · rw [← h2];exact hle
      · exact Region.KN hc n e.on h2 hle
  rcases Nat.lt_or_ge i listed.size with h' | h'
  · simp [h'] at hun hi
    rw [hun] at hi
    cases hi
  · simp [Array.getElem?_eq_none h'] at hun
def Aa (P : Program) (md : Region.Mode) (ops : Array Oper) (Q : Exit → Act → World → Prop) (S : World → Prop) (ds : List Nat) : Nat → Array Bool → Act → World → Prop
 | 0,listed,a,w => Region.ready md ops listed = [] ∧ Q .normal a w
 | fuel + 1,listed,a,w =>
  (Region.ready md ops listed = [] → Q .normal a w) ∧
  ∀ i ∈ Region.ready md ops listed,wpOp P ops Q i (fun a' w' => (i ∉ ds → S w → S w') ∧ Aa P md ops Q S ds fuel (listed.setIfInBounds i true) a' w') a w
theorem JN : ∀ (fuel : Nat) (listed : Array Bool) (a : Act) (w : World),Aa P md ops Q S ds fuel listed a w → wpAny P md ops Q fuel listed a w
 | 0,_,_,_,h => h
 | fuel + 1,_,_,_,h => ⟨h.1,fun i hi => wpOp_mono (fun a' w' h' => JN fuel _ a' w' h'.2) (h.2 i hi)⟩
theorem Mw {i : Nat} {oi : Oper} {v : Value} (hi : ops[i]? = some oi) (hsel : ∀ (j : Nat) (o : Oper) cs b,ops[j]? = some o → o.op ≠ .select cs b)
    (hQ : ∀ c a w,Q (.panic c) (a.put oi.dst v) w → Q (.panic c) a w) (n : Nat) :
    ∀ (fuel : Nat) (listed : Array Bool) (a : Act) (w : World),
      (∀ j oj,ops[j]? = some oj → j ≠ i → listed.getD j true = false → (∀ e ∈ oj.after,Region.binds md e = true → e.on ≠ i) → oi.apart ops oj = true) →
      Er md ops listed → (∀ d ∈ ds,listed.getD d true = false → Region.Gd md ops i n d = true) →
      i ∈ Region.ready md ops listed → YieldsIf P ops S oi v a → S w →
      Aa P md ops Q S ds fuel (listed.setIfInBounds i true) (a.put oi.dst v) w → Aa P md ops Q S ds (fuel + 1) listed a w := by
  intro fuel
  induction fuel with
  | zero =>
    intro listed a w _ _ _ hr hy hS H
    refine ⟨fun h => (by rw [h] at hr;cases hr),fun j hj => ?_⟩
    by_cases hji : j = i
    · subst hji;exact hy.wpOp hi hS ⟨fun _ h => h,H⟩
    · have := ready_mono hj hji
      rw [H.1] at this
      cases this
  | succ fuel ih =>
    intro listed a w hfree hc hd hr hy hS H
    refine ⟨fun h => (by rw [h] at hr;cases hr),fun j hj => ?_⟩
    by_cases hji : j = i
    · subst hji;exact hy.wpOp hi hS ⟨fun _ h => h,H⟩
    · have h1 := H.2 j (ready_mono hj hji)
      obtain ⟨hjun,oj,hoj,hall⟩ := mem_ready.1 hj
      have hiun := (mem_ready.1 hr).1
      have hnot : ∀ e ∈ oj.after,Region.binds md e = true → e.on ≠ i := fun e he hb heq => by
        have h1 := hall e he hb
        rw [heq] at h1
        rcases Nat.lt_or_ge i listed.size with h' | h'
        · simp [h'] at hiun h1;rw [hiun] at h1;cases h1
        · simp [Array.getElem?_eq_none h'] at h1
      have hjd : j ∉ ds := fun hm => Region.Ms hc (hd j hm hjun) hiun hj
      have h2 := wpOp_putIf hoj (hfree j oj hoj hji hjun hnot) (fun cs b => hsel i oi cs b hi) (fun cs b => hsel j oj cs b hoj) hQ hy h1
      have hfree' : ∀ k ok,ops[k]? = some ok → k ≠ i → (listed.setIfInBounds j true).getD k true = false →
          (∀ e ∈ ok.after,Region.binds md e = true → e.on ≠ i) → oi.apart ops ok = true := fun k ok hk hki hun hno => by
        refine hfree k ok hk hki ?_ hno
        by_cases hjk : j = k
        · subst hjk;exact hjun
        · rw [getD_set_ne true hjk] at hun;exact hun
      have hd' : ∀ d ∈ ds,(listed.setIfInBounds j true).getD d true = false → Region.Gd md ops i n d = true := fun d hm hun => by
        refine hd d hm ?_
        by_cases hjk : j = d
        · subst hjk;exact hjun
        · rw [getD_set_ne true hjk] at hun;exact hun
      refine wpOp_mono (fun a' w' h3 => ⟨h3.2.1,ih (listed.setIfInBounds j true) a' w' hfree' (hc.set hj) hd' (ready_mono hr (Ne.symm hji)) h3.1 (h3.2.1 hjd hS) ?_⟩) h2
      rw [Array.setIfInBounds_comm _ _ hji]
      exact h3.2.2
theorem Oo {i : Nat} {oi : Oper} {v : Value} (hi : ops[i]? = some oi) (hsel : ∀ (j : Nat) (o : Oper) cs b,ops[j]? = some o → o.op ≠ .select cs b)
    (hQ : ∀ c a w,Q (.panic c) (a.put oi.dst v) w → Q (.panic c) a w) :
    ∀ (fuel : Nat) (listed : Array Bool) (a : Act) (w : World),
      (∀ j oj,ops[j]? = some oj → j ≠ i → listed.getD j true = false → (∀ e ∈ oj.after,Region.binds md e = true → e.on ≠ i) → oi.apart ops oj = true) →
      i ∈ Region.ready md ops listed → Yields P ops oi v a →
      Aa P md ops Q S ds fuel (listed.setIfInBounds i true) (a.put oi.dst v) w → Aa P md ops Q S ds (fuel + 1) listed a w := by
  intro fuel
  induction fuel with
  | zero =>
    intro listed a w _ hr hy H
    refine ⟨fun h => (by rw [h] at hr;cases hr),fun j hj => ?_⟩
    by_cases hji : j = i
    · subst hji;exact (hy.yieldsIf (S := fun _ => True)).wpOp hi trivial ⟨fun _ h => h,H⟩
    · have := ready_mono hj hji
      rw [H.1] at this
      cases this
  | succ fuel ih =>
    intro listed a w hfree hr hy H
    refine ⟨fun h => (by rw [h] at hr;cases hr),fun j hj => ?_⟩
    by_cases hji : j = i
    · subst hji;exact (hy.yieldsIf (S := fun _ => True)).wpOp hi trivial ⟨fun _ h => h,H⟩
    · have h1 := H.2 j (ready_mono hj hji)
      obtain ⟨hjun,oj,hoj,hall⟩ := mem_ready.1 hj
      have hiun := (mem_ready.1 hr).1
      have hnot : ∀ e ∈ oj.after,Region.binds md e = true → e.on ≠ i := fun e he hb heq => by
        have h1 := hall e he hb
        rw [heq] at h1
        rcases Nat.lt_or_ge i listed.size with h' | h'
        · simp [h'] at hiun h1;rw [hiun] at h1;cases h1
        · simp [Array.getElem?_eq_none h'] at h1
      have h2 := wpOp_put hoj (hfree j oj hoj hji hjun hnot) (fun cs b => hsel i oi cs b hi) (fun cs b => hsel j oj cs b hoj) hQ hy h1
      have hfree' : ∀ k ok,ops[k]? = some ok → k ≠ i → (listed.setIfInBounds j true).getD k true = false →
          (∀ e ∈ ok.after,Region.binds md e = true → e.on ≠ i) → oi.apart ops ok = true := fun k ok hk hki hun hno => by
        refine hfree k ok hk hki ?_ hno
        by_cases hjk : j = k
        · subst hjk;exact hjun
        · rw [getD_set_ne true hjk] at hun;exact hun
      refine wpOp_mono (fun a' w' h3 => ⟨h3.2.1,ih (listed.setIfInBounds j true) a' w' hfree' (ready_mono hr (Ne.symm hji)) h3.1 ?_⟩) h2
      rw [Array.setIfInBounds_comm _ _ hji]
      exact h3.2.2
theorem NZ {i : Nat} {oi : Oper} {v : Value} {fuel : Nat} {listed : Array Bool} {a : Act} {w : World} (hi : ops[i]? = some oi)
    (hs : Region.noSelect ops = true) (hf : Region.free md ops listed i = true) (hr : (Region.ready md ops listed).contains i = true)
    (hc : Region.Kn md ops listed = true) (hl : Region.lastB md ops listed ds i = true)
    (hQ : ∀ c a w,Q (.panic c) (a.put oi.dst v) w → Q (.panic c) a w) (hy : YieldsIf P ops S oi v a) (hS : S w)
    (h : Aa P md ops Q S ds fuel (listed.setIfInBounds i true) (a.put oi.dst v) w) : Aa P md ops Q S ds (fuel + 1) listed a w :=
  Mw hi (Region.noSelect_spec hs) hQ ops.size fuel listed a w (Region.free_spec hi hf) (Region.Pv hc)
    (fun d hm hun => by have := List.all_eq_true.1 hl d hm;rw [hun] at this;simpa using this) (by simpa using hr) hy hS h
theorem Om {rs : List Nat} {fuel : Nat} {listed : Array Bool} {a : Act} {w : World} (hr : Region.ready md ops listed = rs) (hne : rs ≠ [])
    (h : ∀ i ∈ rs,wpOp P ops Q i (fun a' w' => (i ∉ ds → S w → S w') ∧ Aa P md ops Q S ds fuel (listed.setIfInBounds i true) a' w') a w) : Aa P md ops Q S ds (fuel + 1) listed a w :=
  ⟨fun h0 => absurd (hr ▸ h0) hne,hr ▸ h⟩
theorem NY {listed : Array Bool} {a : Act} {w : World} (hr : Region.ready md ops listed = []) (h : Q .normal a w) :
    ∀ fuel,Aa P md ops Q S ds fuel listed a w
  | 0 => ⟨hr,h⟩
  | _ + 1 => ⟨fun _ => h,by rw [hr];simp⟩
theorem O0 {id : Nat} {a : Act} {w : World} (hm : P.follows .mixedOrders = true)
    (h : Aa P .any ops Q S ds ops.size (Array.replicate ops.size false) a { w with drawn := w.drawn + 1 }) : (Code.region id ops true).wp P Q a w :=
  wp_region_any hm (JN _ _ _ _ h)
end
section
variable {P : Program} {ops : Array Oper} {Q : Exit → Act → World → Prop} {md : Region.Mode} {S : World → Prop} {ds : List Nat}
def D8 (P : Program) (md : Region.Mode) (ops : Array Oper) (Q : Exit → Act → World → Prop) (S : World → Prop) (ds : List Nat) (fuel : Nat) (listed : Array Bool) (a : Act) (w : World) (rs : List Nat) : Prop :=
 ∀ i ∈ rs,wpOp P ops Q i (fun a' w' => (i ∉ ds → S w → S w') ∧ Aa P md ops Q S ds fuel (listed.setIfInBounds i true) a' w') a w
theorem D8.nil {fuel : Nat} {listed : Array Bool} {a : Act} {w : World} : D8 P md ops Q S ds fuel listed a w [] := fun _ h => by cases h
theorem D8.cons {fuel : Nat} {listed : Array Bool} {a : Act} {w : World} {i : Nat} {o : Oper} {rs : List Nat} (ho : ops[i]? = some o) (hd : i ∉ ds)
    (h : ∀ K' : Act → World → Prop,Shut (∀ a w,S w → (S w → Aa P md ops Q S ds fuel (listed.setIfInBounds i true) a w) → K' a w) → if Region.wanted o (yielded ops a.tmps) = true then Oper.wp P o a w K' Q else K' (a.put o.dst undef) w)
    (hs : D8 P md ops Q S ds fuel listed a w rs) : D8 P md ops Q S ds fuel listed a w (i :: rs) := fun j hj => by
  rcases List.mem_cons.1 hj with rfl | hj
  · exact wpOp_step ho (fun K' hK => h K' (fun a w hS hW => hK a w ⟨fun _ _ => hS,hW hS⟩))
  · exact hs j hj
theorem D8.UF {fuel : Nat} {listed : Array Bool} {a : Act} {w : World} {i : Nat} {o : Oper} {rs : List Nat} (ho : ops[i]? = some o) (hd : i ∈ ds)
    (h : ∀ K' : Act → World → Prop,Shut (∀ a w,Aa P md ops Q S ds fuel (listed.setIfInBounds i true) a w → K' a w) → if Region.wanted o (yielded ops a.tmps) = true then Oper.wp P o a w K' Q else K' (a.put o.dst undef) w)
    (hs : D8 P md ops Q S ds fuel listed a w rs) : D8 P md ops Q S ds fuel listed a w (i :: rs) := fun j hj => by
  rcases List.mem_cons.1 hj with rfl | hj
  · exact wpOp_step ho (fun K' hK => h K' (fun a w hW => hK a w ⟨fun hn => absurd hd hn,hW⟩))
  · exact hs j hj
theorem Gh {rs : List Nat} {fuel : Nat} {listed : Array Bool} {a : Act} {w : World} (hr : Region.ready md ops listed = rs) (hne : rs ≠ [])
 (h : D8 P md ops Q S ds fuel listed a w rs) : Aa P md ops Q S ds (fuel + 1) listed a w := Om hr hne h
theorem Bt {id n : Nat} {a : Act} {w : World} (l : Array Bool) (hm : P.follows .mixedOrders = true) (hn : ops.size = n) (hl : Array.replicate n false = l) (hS : S w.drew)
    (h : S w.drew → Aa P .any ops Q S ds n l a w.drew) : (Code.region id ops true).wp P Q a w := by
  subst hn
  subst hl
  exact O0 hm (h hS)
def takeB (md : Region.Mode) (ops : Array Oper) (ds : List Nat) (l l' : Array Bool) (i : Nat) : Bool :=
 Region.noSelect ops && Region.free md ops l i && (Region.ready md ops l).contains i && Region.Kn md ops l && Region.lastB md ops l ds i && (l.setIfInBounds i true == l')
theorem Rj {i : Nat} {N : Option Tmp} {oi : Oper} {v : Value} {fuel : Nat} {l : Array Bool} {a : Act} {w : World} (l' : Array Bool) (hi : ops[i]? = some oi) (hN : oi.dst = N) (hc : takeB md ops ds l l' i = true)
    (hQ : ∀ c a w,Q (.panic c) (a.put oi.dst v) w → Q (.panic c) a w) (hy : YieldsIf P ops S oi v a) (hS : S w) {a' : Act} (ha : a.put N v = a')
    (h : Aa P md ops Q S ds fuel l' a' w) : Aa P md ops Q S ds (fuel + 1) l a w := by
  subst ha
  subst hN
  simp only [takeB,Bool.and_eq_true,beq_iff_eq] at hc
  obtain ⟨⟨⟨⟨⟨h1,h2⟩,h3⟩,h4⟩,h5⟩,h6⟩ := hc
  subst h6
  exact NZ hi h1 h2 h3 h4 h5 hQ hy hS h
def YJ (md : Region.Mode) (ops : Array Oper) (l l' : Array Bool) (i : Nat) : Bool :=
 Region.noSelect ops && Region.free md ops l i && (Region.ready md ops l).contains i && (l.setIfInBounds i true == l')
theorem KM {i : Nat} {N : Option Tmp} {oi : Oper} {v : Value} {fuel : Nat} {l : Array Bool} {a : Act} {w : World} (l' : Array Bool) (hi : ops[i]? = some oi) (hN : oi.dst = N) (hc : YJ md ops l l' i = true)
    (hQ : ∀ c a w,Q (.panic c) (a.put oi.dst v) w → Q (.panic c) a w) (hy : Yields P ops oi v a) {a' : Act} (ha : a.put N v = a')
    (h : Aa P md ops Q S ds fuel l' a' w) : Aa P md ops Q S ds (fuel + 1) l a w := by
  subst ha
  subst hN
  simp only [YJ,Bool.and_eq_true,beq_iff_eq] at hc
  obtain ⟨⟨⟨h1,h2⟩,h3⟩,h6⟩ := hc
  subst h6
  exact Oo hi (Region.noSelect_spec h1) hQ fuel l a w (Region.free_spec hi h2) (by simpa using h3) hy h
def Lm (md : Region.Mode) (ops : Array Oper) (l l' : Array Bool) (i : Nat) : Bool := (Region.ready md ops l == [i]) && (l.setIfInBounds i true == l')
theorem CB {i : Nat} {N : Option Tmp} {oi : Oper} {fuel : Nat} {l : Array Bool} {a : Act} {w : World} (l' : Array Bool) (hi : ops[i]? = some oi) (hN : oi.dst = N) (hc : Lm md ops l l' i = true) (hd : i ∉ ds)
    (h : ∀ K : Act → World → Prop,Shut (∀ a' w',S w' → (S w' → Aa P md ops Q S ds fuel l' a' w') → K a' w') → if Region.wanted oi (yielded ops a.tmps) = true then Oper.wp P oi a w K Q else K (a.put N undef) w) :
    Aa P md ops Q S ds (fuel + 1) l a w := by
  subst hN
  simp only [Lm,Bool.and_eq_true,beq_iff_eq] at hc
  obtain ⟨h1,h2⟩ := hc
  subst h2
  exact Gh h1 (by simp) (D8.cons hi hd (fun K hK => h K hK) D8.nil)
theorem OO {i : Nat} {N : Option Tmp} {oi : Oper} {fuel : Nat} {l : Array Bool} {a : Act} {w : World} (l' : Array Bool) (hi : ops[i]? = some oi) (hN : oi.dst = N) (hc : Lm md ops l l' i = true) (hd : i ∈ ds)
    (h : ∀ K : Act → World → Prop,Shut (∀ a' w',Aa P md ops Q S ds fuel l' a' w' → K a' w') → if Region.wanted oi (yielded ops a.tmps) = true then Oper.wp P oi a w K Q else K (a.put N undef) w) :
    Aa P md ops Q S ds (fuel + 1) l a w := by
  subst hN
  simp only [Lm,Bool.and_eq_true,beq_iff_eq] at hc
  obtain ⟨h1,h2⟩ := hc
  subst h2
  exact Gh h1 (by simp) (D8.UF hi hd (fun K hK => h K hK) D8.nil)
theorem Cn {l : Array Bool} {a : Act} {w : World} {n : Nat} (hr : (Region.ready md ops l == []) = true) (h : Q .normal a w) : Aa P md ops Q S ds n l a w := NY (by simpa using hr) h n
theorem Rl {i j : Nat} {Ni Nj : Option Tmp} {oi oj : Oper} {fuel : Nat} {l : Array Bool} {a : Act} {w : World} (li lj : Array Bool) (hi : ops[i]? = some oi) (hj : ops[j]? = some oj) (hNi : oi.dst = Ni) (hNj : oj.dst = Nj)
    (hc : (Region.ready md ops l == [i,j] && l.setIfInBounds i true == li && l.setIfInBounds j true == lj) = true) (hdi : i ∉ ds) (hdj : j ∉ ds)
    (h1 : ∀ K : Act → World → Prop,Shut (∀ a' w',S w' → (S w' → Aa P md ops Q S ds fuel li a' w') → K a' w') → if Region.wanted oi (yielded ops a.tmps) = true then Oper.wp P oi a w K Q else K (a.put Ni undef) w)
    (h2 : ∀ K : Act → World → Prop,Shut (∀ a' w',S w' → (S w' → Aa P md ops Q S ds fuel lj a' w') → K a' w') → if Region.wanted oj (yielded ops a.tmps) = true then Oper.wp P oj a w K Q else K (a.put Nj undef) w) :
    Aa P md ops Q S ds (fuel + 1) l a w := by
  subst hNi
  subst hNj
  simp only [Bool.and_eq_true,beq_iff_eq] at hc
  obtain ⟨⟨h3,h4⟩,h5⟩ := hc
  subst h4
  subst h5
  exact Gh h3 (by simp) (D8.cons hi hdi (fun K hK => h1 K hK) (D8.cons hj hdj (fun K hK => h2 K hK) D8.nil))
def Jd : Act → List (Tmp × Value) → Act
 | a,[] => a
 | a,(n,v) :: r => Jd (a.put (some n) v) r
theorem Ul {σ : Type} {fuel : Nat} {l : Array Bool} {a : Act} {w : World} (fuel' : Nat) (l' : Array Bool) (ns : σ → List (Tmp × Value)) (F : σ → World → Prop)
 (hcont : ∀ s w',F s w' → Aa P md ops Q S ds fuel' l' (Jd a (ns s)) w')
 (h : (∀ s w',F s w' → Aa P md ops Q S ds fuel' l' (Jd a (ns s)) w') → Aa P md ops Q S ds fuel l a w) : Aa P md ops Q S ds fuel l a w := h hcont
theorem AU {fuel : Nat} {l : Array Bool} {a a' : Act} {w : World} (ha : a = a') (h : Aa P md ops Q S ds fuel l a' w) : Aa P md ops Q S ds fuel l a w := by
 subst ha
 exact h
theorem call_ {oi : Oper} {N : Option Tmp} {a : Act} {w : World} {K : Act → World → Prop} (f : FuncId) (args : Array Value) (hw : Region.wanted oi (yielded ops a.tmps) = true) (hN : oi.dst = N) (hrun : (execOp a.eval oi).run P w = .ok (.enter f args) w)
    (h : Calls P f args w fun e w' => ∃ v,e = .returned v ∧ K (a.put N v) w') : if Region.wanted oi (yielded ops a.tmps) = true then Oper.wp P oi a w K Q else K (a.put N undef) w := by
  rw [if_pos hw]
  subst hN
  unfold Oper.wp
  rw [hrun,Oper.upon_enter]
  refine h.mono fun e w'' hh => ?_
  obtain ⟨v,rfl,hk⟩ := hh
  exact hk
theorem Py {f : FuncId} {fn : Func} (hf : P.funcs[f]? = some fn) (hname : (fn.name == "runtime.NumGoroutine") = false) (hb : fn.body.isSome = true) (args : Array Value) (w : World) : (callFunc f args).run P w = .ok (.enter f args) w := by
 have h1 : fn.name ≠ "runtime.NumGoroutine" := by simpa using hname
 obtain ⟨c,hc⟩ := Option.isSome_iff_exists.1 hb
 simp [callFunc,hf,h1,hc]
theorem a03 {oi : Oper} {N : Option Tmp} {a : Act} {w : World} {K : Act → World → Prop} {f : FuncId} {fn : Func} {as : Array Operand} {ts : Array TypeId} (hf : P.funcs[f]? = some fn) (hname : (fn.name == "runtime.NumGoroutine") = false) (hb : fn.body.isSome = true) (args : Array Value)
    (hw : Region.wanted oi (yielded ops a.tmps) = true) (hN : oi.dst = N) (hop : oi.op = .call { callee := .value (.func f),args := as,argTypes := ts }) (hargs : as.map a.eval = args)
    (h : Calls P f args w fun e w' => ∃ v,e = .returned v ∧ K (a.put N v) w') : if Region.wanted oi (yielded ops a.tmps) = true then Oper.wp P oi a w K Q else K (a.put N undef) w := by
  refine call_ f args hw hN ?_ h
  have he := Py hf hname hb args w
  unfold execOp
  simp [hop,resolve,Deferred.ofValue,invoke,Act.eval,hargs,he]
theorem Le {rest : List Oper} {oi : Oper} {a : Act} {w : World} (N : Option Tmp) (hd : oi.dst = N) (hg : oi.guard = none) {f : FuncId} {fn : Func} {as : Array Operand} {ts : Array TypeId} (hf : P.funcs[f]? = some fn) (hname : (fn.name == "runtime.NumGoroutine") = false) (hb : fn.body.isSome = true) (args : Array Value)
    (hop : oi.op = .call { callee := .value (.func f),args := as,argTypes := ts }) (hargs : as.map a.eval = args)
    (h : Calls P f args w fun e w' => ∃ v,e = .returned v ∧ wpList P ops Q rest (a.put N v) w') : wpList P ops Q (oi :: rest) a w := by
  refine wpList_plain hg fun K hK => ?_
  have he := Py hf hname hb args w
  have hrun : (execOp a.eval oi).run P w = .ok (.enter f args) w := by
    unfold execOp
    simp [hop,resolve,Deferred.ofValue,invoke,Act.eval,hargs,he]
  unfold Oper.wp
  rw [hrun,Oper.upon_enter]
  refine h.mono fun e w'' hh => ?_
  obtain ⟨v,rfl,hk⟩ := hh
  subst hd
  exact hK _ _ hk
theorem Ti {oi : Oper} {N : Option Tmp} {a : Act} {w w1 : World} {v : Value} {K : Act → World → Prop} (hw : Region.wanted oi (yielded ops a.tmps) = true) (hN : oi.dst = N) (hrun : (execOp a.eval oi).run P w = .ok (.value v) w1)
    (h : K (a.put N v) w1) : if Region.wanted oi (yielded ops a.tmps) = true then Oper.wp P oi a w K Q else K (a.put N undef) w := by
  rw [if_pos hw]
  subst hN
  unfold Oper.wp
  rw [hrun]
  exact h
theorem Ia {oi : Oper} {a : Act} {w w1 : World} {K : Act → World → Prop} (hw : Region.wanted oi (yielded ops a.tmps) = true) (hN : oi.dst = none) (hrun : (execOp a.eval oi).run P w = .ok .skip w1)
    (h : K a w1) : if Region.wanted oi (yielded ops a.tmps) = true then Oper.wp P oi a w K Q else K (a.put none undef) w := by
  rw [if_pos hw]
  unfold Oper.wp
  rw [hrun]
  show K (a.put oi.dst undef) w1
  rw [hN]
  exact h
theorem i64_w (n : Int) : IntKind.i64.wrap n = Go.RowKit.wrap64 n := by unfold Go.RowKit.wrap64;exact IntKind.wrap_i64 n
theorem i32_w (n : Int) : IntKind.i32.wrap n = Go.RowKit.wrap32 n := by unfold Go.RowKit.wrap32;exact IntKind.wrap_i32 n
end
end Go.Proofs.YtjonnfmoocijlaaGreatKW.PrintLast
namespace Go.Proofs.YtjonnfmoocijlaaGreatKW.PrintLast
open Go.Proofs.YtjonnfmoocijlaaGreatKW.PrintWords (yf)
def Jr (md : Region.Mode) (o : Oper) : List Nat := (o.after.toList.filter (fun e => Region.binds md e)).map (fun e => e.on)
def Ps (md : Region.Mode) (ops : Array Oper) (i : Nat) (oi : Oper) : List Nat := (List.range ops.size).filter fun j => !(j == i) && match ops[j]? with
 | some oj => !(oj.after.any (fun e => Region.binds md e && e.on == i) || oi.apart ops oj)
 | none => false
def Dv (md : Region.Mode) (ops : Array Oper) : Bool × List (List Nat × List Nat) := (Region.noSelect ops,(List.range ops.size).map fun i => match ops[i]? with
 | some o => (Jr md o,Ps md ops i o)
 | none => ([],[]))
def Ha (T : List (List Nat × List Nat)) (l : List Bool) (i : Nat) : Bool := !l.getD i true && match T[i]? with
 | some r => r.1.all (fun j => l.getD j false)
 | none => false
def Lp (T : List (List Nat × List Nat)) (l : List Bool) : List Nat := (List.range T.length).filter (Ha T l)
def Qw (T : List (List Nat × List Nat)) (l : List Bool) (i : Nat) : Bool := match T[i]? with
 | some r => r.2.all (fun j => l.getD j true)
 | none => false
def ME (T : List (List Nat × List Nat)) (l : List Bool) : Bool := (List.range T.length).all fun j => !l.getD j false || match T[j]? with
 | some r => r.1.all (fun k => l.getD k false)
 | none => true
def Ll (T : List (List Nat × List Nat)) (i : Nat) : Nat → Nat → Bool
 | 0,_ => false
 | fuel + 1,d => match T[d]? with
  | some r => r.1.any fun j => j == i || Ll T i fuel j
  | none => false
def lastT (T : List (List Nat × List Nat)) (l : List Bool) (ds : List Nat) (i : Nat) : Bool := ds.all fun d => l.getD d true || Ll T i T.length d
section
variable {md : Region.Mode} {ops : Array Oper} {T : Bool × List (List Nat × List Nat)} {l l' li lj lk : Array Bool} {ds : List Nat} {i j k : Nat}
theorem gd (l : Array Bool) (j : Nat) (b : Bool) : l.getD j b = l.toList.getD j b := by simp [Array.getD_eq_getD_getElem?,List.getD_eq_getElem?_getD]
theorem OU (o : Oper) (p : Nat → Bool) : o.after.all (fun e => !Region.binds md e || p e.on) = (Jr md o).all p := by
 unfold Jr
 rw [← Array.all_toList]
 induction o.after.toList with
 | nil => rfl
 | cons e r ih =>
  rw [List.all_cons,ih,List.filter_cons]
  cases h : Region.binds md e <;> simp
theorem UX (o : Oper) (p : Nat → Bool) : o.after.any (fun e => Region.binds md e && p e.on) = (Jr md o).any p := by
 unfold Jr
 rw [← Array.any_toList]
 induction o.after.toList with
 | nil => rfl
 | cons e r ih =>
  rw [List.any_cons,ih,List.filter_cons]
  cases h : Region.binds md e <;> simp
theorem Hd : (Dv md ops).2.length = ops.size := by simp [Dv]
theorem Ju {o : Oper} (h : ops[i]? = some o) : (Dv md ops).2[i]? = some (Jr md o,Ps md ops i o) := by
 have hi := (Array.getElem?_eq_some_iff.1 h).1
 unfold Dv
 rw [List.getElem?_map,List.getElem?_range hi,Option.map_some,h]
theorem Jt (h : ops[i]? = none) : (Dv md ops).2[i]? = none := by
 have hi : ops.size ≤ i := Array.getElem?_eq_none_iff.1 h
 exact List.getElem?_eq_none (by rw [Hd];exact hi)
theorem Td : Ha (Dv md ops).2 l.toList i = (!l.getD i true && ((ops[i]?).map (·.after.all fun e => !Region.binds md e || l.getD e.on false)).getD false) := by
 unfold Ha
 rw [gd]
 cases h : ops[i]? with
 | none => rw [Jt h];rfl
 | some o =>
  rw [Ju h]
  simp only [Option.map_some,Option.getD_some]
  rw [← OU]
  simp only [gd]
theorem ready_eq : Region.ready md ops l = Lp (Dv md ops).2 l.toList := by
 unfold Region.ready Lp
 rw [Hd]
 refine List.filter_congr (fun i _ => ?_)
 rw [Td]
theorem free_eq : Region.free md ops l i = Qw (Dv md ops).2 l.toList i := by
 unfold Region.free Qw
 cases h : ops[i]? with
 | none => rw [Jt h]
 | some oi =>
  rw [Ju h]
  simp only [Ps]
  rw [List.all_filter]
  congr 1
  funext j
  rw [gd]
  cases hj : ops[j]? with
  | none => cases (j == i) <;> cases (l.toList.getD j true) <;> simp
  | some oj =>
   cases (j == i) <;> cases (l.toList.getD j true) <;> cases (oj.after.any (fun e => Region.binds md e && e.on == i) || oi.apart ops oj) <;> simp_all
theorem UB : Region.Kn md ops l = ME (Dv md ops).2 l.toList := by
 unfold Region.Kn ME
 rw [Hd]
 congr 1
 funext j
 rw [gd]
 cases h : ops[j]? with
 | none => rw [Jt h]
 | some o =>
  rw [Ju h]
  simp only
  rw [← OU]
  simp only [gd]
theorem R5 : ∀ (fuel d : Nat),Region.Gd md ops i fuel d = Ll (Dv md ops).2 i fuel d
 | 0,_ => rfl
 | fuel + 1,d => by
  unfold Region.Gd Ll
  cases h : ops[d]? with
  | none => rw [Jt h]
  | some o =>
   rw [Ju h]
   simp only
   rw [← UX]
   congr 1
   funext e
   rw [R5 fuel]
theorem Zi : Region.lastB md ops l ds i = lastT (Dv md ops).2 l.toList ds i := by
 unfold Region.lastB lastT
 rw [Hd]
 congr 1
 funext d
 rw [gd,R5]
theorem M9 (h : Ha T.2 l.toList i = true) (hT : Dv md ops = T) : (Region.ready md ops l).contains i = true := by
 subst hT
 rw [ready_eq]
 unfold Lp
 rw [List.contains_iff_mem,List.mem_filter,List.mem_range]
 refine ⟨?_,h⟩
 unfold Ha at h
 rw [Bool.and_eq_true] at h
 cases hq : (Dv md ops).2[i]? with
 | none => rw [hq] at h;simp at h
 | some r => exact (List.getElem?_eq_some_iff.1 hq).1
theorem NT (h : (l.toList.set i true == l'.toList) = true) : (l.setIfInBounds i true == l') = true := by
 rw [beq_iff_eq] at h ⊢
 apply Array.ext'
 rw [Array.toList_setIfInBounds]
 exact h
def YK (T : Bool × List (List Nat × List Nat)) (l l' : List Bool) (i : Nat) : Bool := T.1 && Qw T.2 l i && Ha T.2 l i && (l.set i true == l')
theorem VF (hT : Dv md ops = T) (h : YK T l.toList l'.toList i = true) : YJ md ops l l' i = true := by
 simp only [YK,Bool.and_eq_true] at h
 obtain ⟨⟨⟨h1,h2⟩,h3⟩,h4⟩ := h
 have h5 := M9 h3 hT
 have h6 := NT h4
 subst hT
 simp only [YJ,Bool.and_eq_true]
 exact ⟨⟨⟨h1,by rw [free_eq];exact h2⟩,h5⟩,h6⟩
def Yc (T : Bool × List (List Nat × List Nat)) (ds : List Nat) (l l' : List Bool) (i : Nat) : Bool := T.1 && Qw T.2 l i && Ha T.2 l i && ME T.2 l && lastT T.2 l ds i && (l.set i true == l')
theorem Zy (hT : Dv md ops = T) (h : Yc T ds l.toList l'.toList i = true) : takeB md ops ds l l' i = true := by
 simp only [Yc,Bool.and_eq_true] at h
 obtain ⟨⟨⟨⟨⟨h1,h2⟩,h3⟩,h4⟩,h5⟩,h6⟩ := h
 have h7 := M9 h3 hT
 have h8 := NT h6
 subst hT
 simp only [takeB,Bool.and_eq_true]
 exact ⟨⟨⟨⟨⟨h1,by rw [free_eq];exact h2⟩,h7⟩,by rw [UB];exact h4⟩,by rw [Zi];exact h5⟩,h8⟩
theorem Ar (hT : Dv md ops = T) (h : (Lp T.2 l.toList == [i] && l.toList.set i true == l'.toList) = true) : Lm md ops l l' i = true := by
 simp only [Bool.and_eq_true] at h
 obtain ⟨h1,h2⟩ := h
 subst hT
 simp only [Lm,Bool.and_eq_true]
 exact ⟨by rw [ready_eq];exact h1,NT h2⟩
theorem Ji (hT : Dv md ops = T) (h : (Lp T.2 l.toList == [i,j] && l.toList.set i true == li.toList && l.toList.set j true == lj.toList) = true) : (Region.ready md ops l == [i,j] && l.setIfInBounds i true == li && l.setIfInBounds j true == lj) = true := by
 simp only [Bool.and_eq_true] at h ⊢
 obtain ⟨⟨h1,h2⟩,h3⟩ := h
 subst hT
 exact ⟨⟨by rw [ready_eq];exact h1,NT h2⟩,NT h3⟩
theorem AZ (hT : Dv md ops = T) (h : (Lp T.2 l.toList == []) = true) : (Region.ready md ops l == []) = true := by
 subst hT
 rw [ready_eq]
 exact h
def upM (B : List Nat) (d : Nat) : List Nat → Nat
 | [] => 0
 | n :: r => (2 ^ n ||| (if n < d then B.getD n 0 else 0)) ||| upM B d r
def BH (T : List (List Nat × List Nat)) (B : List Nat) : Bool := (List.range T.length).all fun d => match T[d]? with
 | some r => (B.getD d 0 ||| upM B d r.1) == upM B d r.1
 | none => false
theorem Ur {B : List Nat} {d i : Nat} : ∀ {ns : List Nat},(upM B d ns).testBit i = true → ∃ n ∈ ns,n = i ∨ (n < d ∧ (B.getD n 0).testBit i = true)
  | [],h => by simp [upM] at h
  | n :: r,h => by
    unfold upM at h
    rw [Nat.testBit_or,Nat.testBit_or,Bool.or_eq_true,Bool.or_eq_true] at h
    rcases h with (h | h) | h
    · rw [Nat.testBit_two_pow] at h
      exact ⟨n,List.mem_cons_self,.inl (by simpa using h)⟩
    · by_cases hn : n < d
      · rw [if_pos hn] at h
        exact ⟨n,List.mem_cons_self,.inr ⟨hn,h⟩⟩
      · rw [if_neg hn] at h
        simp at h
    · obtain ⟨m,hm,h2⟩ := Ur h
      exact ⟨m,List.mem_cons_of_mem _ hm,h2⟩
theorem OX {T : List (List Nat × List Nat)} {B : List Nat} (hB : BH T B = true) : ∀ (fuel d : Nat),d < fuel → d < T.length → (B.getD d 0).testBit i = true → Ll T i fuel d = true
 | 0,d,h,_,_ => by omega
 | fuel + 1,d,h,hd,hb => by
  have h1 := List.all_eq_true.1 hB d (List.mem_range.2 hd)
  cases hr : T[d]? with
  | none => rw [hr] at h1;simp at h1
  | some r =>
   rw [hr] at h1
   simp only [beq_iff_eq] at h1
   have h2 : (upM B d r.1).testBit i = true := by rw [← h1,Nat.testBit_or,hb,Bool.true_or]
   obtain ⟨n,hn,h3⟩ := Ur h2
   unfold Ll
   rw [hr]
   simp only
   rw [List.any_eq_true]
   refine ⟨n,hn,?_⟩
   rcases h3 with rfl | ⟨h4,h5⟩
   · simp
   · rw [OX hB fuel n (by omega) (by omega) h5,Bool.or_true]
def a15 (T : List (List Nat × List Nat)) (B : List Nat) (l : List Bool) (ds : List Nat) (i : Nat) : Bool := ds.all fun d => l.getD d true || (decide (d < T.length) && (B.getD d 0).testBit i)
def Uq (T : Bool × List (List Nat × List Nat)) (B : List Nat) (ds : List Nat) (l l' : List Bool) (i : Nat) : Bool := T.1 && Qw T.2 l i && Ha T.2 l i && ME T.2 l && a15 T.2 B l ds i && (l.set i true == l')
theorem Rk {B : List Nat} (hT : Dv md ops = T) (hB : BH T.2 B = true) (h : Uq T B ds l.toList l'.toList i = true) : takeB md ops ds l l' i = true := by
 refine Zy hT ?_
 simp only [Uq,Yc,Bool.and_eq_true] at h ⊢
 obtain ⟨⟨⟨⟨⟨h1,h2⟩,h3⟩,h4⟩,h5⟩,h6⟩ := h
 refine ⟨⟨⟨⟨⟨h1,h2⟩,h3⟩,h4⟩,?_⟩,h6⟩
 unfold a15 at h5
 unfold lastT
 rw [List.all_eq_true] at h5 ⊢
 intro d hd
 have h7 := h5 d hd
 rw [Bool.or_eq_true,Bool.and_eq_true,decide_eq_true_eq] at h7
 rcases h7 with h7 | ⟨h8,h9⟩
 · rw [h7,Bool.true_or]
 · rw [OX hB _ d h8 h8 h9,Bool.or_true]
theorem Ab {P : Program} {Q : Exit → Act → World → Prop} {S : World → Prop} {n : Nat} {a : Act} {w : World} {B : List Nat} (hT : Dv md ops = T) (hB : BH T.2 B = true) (h : yf (Dv md ops = T) → yf (BH T.2 B = true) → Aa P md ops Q S ds n l a w) : Aa P md ops Q S ds n l a w := h ⟨hT⟩ ⟨hB⟩
end
def JM : Code → Nat → Option (Array Oper)
 | .region id ops _,k => if id == k then some ops else none
 | .seq a b,k => match JM a k with
  | some o => some o
  | none => JM b k
 | .cond _ a b,k => match JM a k with
  | some o => some o
  | none => JM b k
 | .block _ c,k => JM c k
 | .loop c,k => JM c k
 | .scope c,k => JM c k
 | .rangeFunc _ _ a b,k => match JM a k with
  | some o => some o
  | none => JM b k
 | _,_ => none
def opsOf (f : Func) (k : Nat) : Array Oper := ((f.body.bind fun c => JM c k)).getD #[]
end Go.Proofs.YtjonnfmoocijlaaGreatKW.PrintLast
namespace Go.Proofs.YtjonnfmoocijlaaGreatKW.PrintWords
open Go.RowKit
namespace Kd
def tag {α : Type} (f : Nat → Nat) (d : Kd α) : Kd (α × Nat) where
 sz := d.sz
 E := d.E
 K := fun w x cs => d.K w x.1 cs
 M := fun w base ok x cs => d.M w base (fun k => ok k ∧ f k = x.2) x.1 cs
 K_len := fun h => d.K_len h
 K_one := fun h => d.K_one h
 K_below := fun hb h => d.K_below hb h
 K_of_M := fun h => d.K_of_M h
 M_mono := fun hok h => d.M_mono (fun k hk => ⟨hok k hk.1,hk.2⟩) h
 M_bound := fun h => d.M_mono (fun _ hk => ⟨⟨hk.1.1,hk.2⟩,hk.1.2⟩) (d.M_bound h)
 M_move := fun hm h => d.M_move (fun k hk => hm k hk.1) h
 M_lower := fun hb h => d.M_lower hb h
def bare {α : Type} (d : Kd α) : Kd α where
 sz := d.sz
 E := d.E
 K := d.K
 M := fun w base _ x cs => d.M w base (fun _ => False) x cs
 K_len := fun h => d.K_len h
 K_one := fun h => d.K_one h
 K_below := fun hb h => d.K_below hb h
 K_of_M := fun h => d.K_of_M h
 M_mono := fun _ h => h
 M_bound := fun h => h
 M_move := fun _ h => d.M_move (fun _ hk => hk.elim) h
 M_lower := fun hb h => d.M_lower hb h
def raw (sz : Nat) : Kd (List Value) where
 sz := sz
 E := []
 K := fun _ x cs => cs = x ∧ cs.length = sz ∧ ∀ u ∈ cs,u.oneCell' = true
 M := fun _ _ _ x cs => cs = x ∧ cs.length = sz ∧ ∀ u ∈ cs,u.oneCell' = true
 K_len := fun h => h.2.1
 K_one := fun h => h.2.2
 K_below := fun _ h => h
 K_of_M := fun h => h
 M_mono := fun _ h => h
 M_bound := fun h => h
 M_move := fun _ h => h
 M_lower := fun _ h => h
def S {α : Type} (d : Kd α) (e : Nat) (w : World) (base : Nat) (ok : Nat → Prop) (v : Value) (xs : List α) : Prop := ∃ f,(tag f d).R e w base ok v xs.zipIdx
section
variable {α β : Type} {d : Kd α} {d' : Kd β} {e e' : Nat} {w w1 W : World} {base b : Nat} {ok ok' okv oku : Nat → Prop} {u v : Value} {xs : List α} {ys : List β}
theorem Jj {xs : List α} {j : Nat} {p : α} (h : xs[j]? = some p) : xs.zipIdx[j]? = some (p,j) := by rw [List.getElem?_zipIdx,h,Nat.zero_add];rfl
theorem Ym (h : S d e w base ok v xs) : d.R e w base ok v xs := by
 obtain ⟨f,h0,inner,ho,hr⟩ := h
 rw [List.length_zipIdx] at ho
 exact ⟨h0,inner,ho,by have := hr.1;rw [List.length_zipIdx] at this;exact this,fun j p hj => d.M_mono (fun _ hk => hk.1) (hr.2 j (p,j) (Jj hj))⟩
theorem a1t {ad : Addr} {n cap : Nat} (h : d.R e w base ok (.slice (some ad) n cap) xs) : ∃ g,ad = ⟨g,0,none⟩ := by
  obtain ⟨_,inner,ho,hr⟩ := h
  rcases ho.2 with ⟨hv,_⟩ | ⟨g,cap',cur,hv,_⟩
  · cases hv
  · injection hv with ha _ _
    injection ha with ha
    exact ⟨g,ha⟩
theorem ZM (h : d.R e w base ok v xs) : v.cells.toList = [v] ∧ v.oneCell' = true := by
 obtain ⟨A,c,rfl⟩ := zB h
 exact ⟨rfl,rfl⟩
theorem Gm (hE : d.E = []) (h : d.R e w base ok v xs) : d.R e w base (fun k => some k = v.ownBlock) v xs := by
 obtain ⟨h0,inner,ho,hr⟩ := h
 refine ⟨fun k hk => hk.symm,inner,ho,hr.Ho (fun p c hp => d.M_mono (fun k hk => ?_) (d.M_bound hp))⟩
 obtain ⟨_,_,_,q,hq,_⟩ := hk
 rw [hE] at hq
 cases hq
theorem VE (d : Kd α) (e : Nat) (w : World) (base : Nat) (ok : Nat → Prop) : S d e w base ok (.slice none 0 0) [] := ⟨fun _ => 0,Dc _ _ _ _ _⟩
theorem BI (h : S d e w base ok v xs) (hok : ∀ k,ok k → ok' k) : S d e w base ok' v xs := by
 obtain ⟨f,h⟩ := h
 exact ⟨f,zf h hok⟩
theorem Kb (h : S d e w base ok v xs) : S d e w base (fun k => ok k ∧ base ≤ k ∧ k < w.heap.size ∧ ∃ q,q ∈ e :: d.E ∧ ∃ cells,w.heap[k]? = some (.cells cells q (0,0))) v xs := by
 obtain ⟨f,h⟩ := h
 exact ⟨f,DZ h⟩
theorem a1z (h : S d e w base ok v xs) (hm : ∀ k,ok k → w1.heap[k]? = w.heap[k]?) : S d e w1 base ok v xs := by
 obtain ⟨f,h⟩ := h
 exact ⟨f,KV h hm⟩
theorem FO {base' : Nat} (h : S d e w base ok v xs) (hb : base' ≤ base) : S d e w base' ok v xs := by
 obtain ⟨f,h⟩ := h
 exact ⟨f,AC h hb⟩
theorem Pj (h : S d e w base ok v xs) (hm : ∀ k,ok k → k < w.heap.size → w1.heap[k]? = w.heap[k]?) : S d e w1 base ok v xs :=
 BI (a1z (Kb h) (fun k hk => hm k hk.1 hk.2.2.1)) (fun _ hk => hk.1)
theorem Fj (h : S d e w base ok v xs) (hb : Below w.heap.size w w1) : S d e w1 base ok v xs := Pj h (fun k _ hk => hb.block k hk)
theorem Be (h : S d e w base ok v xs) (o : Obj) : S d e (w.alloc o) base ok v xs := Fj h (Dr (Below.refl _ _) o)
theorem Pi (h : S d e w base ok v xs) : S d e w.drew base ok v xs := Fj h (FJ (Below.refl _ _))
theorem YD (h : S d e w base ok v xs) (m : Nat) : S d e (w.drewN m) base ok v xs := Fj h (CJ (Below.refl _ _) m)
theorem Tq (h : S d e w base ok v xs) {row : Option Nat} (hg : w.grownBy w1 row) (hok : ∀ k,ok k → some k ≠ row) : S d e w1 base ok v xs := Pj h (fun k ho hk => hg.block k hk (hok k ho))
theorem Hz (h : S d e w base ok v xs) {p : Addr} (hok : ∀ k,ok k → k ≠ p.block) (u : Value) : S d e (w.setCell p u) base ok v xs := Pj h (fun k ho _ => Below.heap_setCell w p u k (hok k ho))
theorem C8 (h : S d e w base ok v xs) {g t : Nat} {cells : Array Value} (hb : w.heap[g]? = some (.cells cells t (0,0))) (ht : ∀ q,q ∈ e :: d.E → q ≠ t) : S d e w base (fun k => ok k ∧ k ≠ g) v xs := by
 obtain ⟨f,h⟩ := h
 exact ⟨f,Bw h hb ht⟩
theorem Jn (h : S d e w base ok v xs) : ∀ k,v.ownBlock = some k → ∃ cells,w.heap[k]? = some (.cells cells e (0,0)) := Ii (Ym h)
theorem RO (h : S d e w base ok v xs) : ∀ k,v.ownBlock = some k → base ≤ k := Ba (Ym h)
theorem YF (h : S d e W base ok u xs) (hty : ∀ k,v.ownBlock = some k → ∃ cells,W.heap[k]? = some (.cells cells e' (0,0))) (ht : ∀ q,q ∈ e :: d.E → q ≠ e') (hg : W.grownBy w1 v.ownBlock) : S d e w1 base ok u xs := by
 obtain ⟨f,h⟩ := h
 exact ⟨f,Jl h hty ht hg⟩
theorem Gw (h : S d e W base ok u xs) (hbase : ∀ k,v.ownBlock = some k → W.heap.size ≤ k) (hb : Below W.heap.size W w1) : S d e w1 base (fun k => ok k ∧ some k ≠ v.ownBlock) u xs := by
 obtain ⟨f,h⟩ := h
 exact ⟨f,Bu h hbase hb⟩
theorem MB {v1 : Value} (h : S d e W base (fun k => ok k ∧ some k ≠ v.ownBlock) u xs) (hg : W.grownBy w1 v.ownBlock) (hat : v1.ownBlock = v.ownBlock ∨ ∃ b,v1.ownBlock = some b ∧ W.heap.size ≤ b) : S d e w1 base (fun k => ok k ∧ some k ≠ v1.ownBlock) u xs := by
 obtain ⟨f,h⟩ := h
 exact ⟨f,Mx h hg hat⟩
theorem a1v (h : (bare d).R e w base ok v xs) : S d e w base ok v xs := by
 obtain ⟨h0,inner,ho,hr⟩ := h
 refine ⟨fun _ => 0,h0,inner,by rw [List.length_zipIdx];exact ho,by rw [List.length_zipIdx];exact hr.1,fun j p hj => ?_⟩
 rw [List.getElem?_zipIdx,Nat.zero_add] at hj
 obtain ⟨x,hx,rfl⟩ := Option.map_eq_some_iff.1 hj
 exact d.M_mono (fun _ hk => hk.elim) (hr.2 j x hx)
theorem a3u {f f' : Nat → Nat} {zs : List (α × Nat)} (h : (tag f d).R e w base ok v zs) (hf : ∀ k,ok k → k < w.heap.size → f' k = f k) : (tag f' d).R e w base ok v zs := by
 obtain ⟨h0,inner,ho,hr⟩ := DZ h
 exact ⟨fun k hk => (h0 k hk).1,inner,ho,hr.1,fun j p hj => d.M_mono (fun k hk => ⟨⟨hk.1.1.1,hk.1.2⟩,(hf k hk.1.1.1 hk.1.1.2.2.1).trans hk.2⟩) (hr.2 j p hj)⟩
end
section
variable {α β : Type} {d : Kd α} {d' : Kd β} {e e' g : Nat} {w w1 W : World} {base b : Nat} {ok ok' okv oku : Nat → Prop} {u v : Value} {xs : List α} {ys : List β}
theorem YE (h : S d e w base ok v xs) {t : Nat} {cells : Array Value} (hb : w.heap[g]? = some (.cells cells t (0,0))) (ht : e ≠ t) : some g ≠ v.ownBlock := DC (Ym h) hb ht
theorem EM (h : S d e w base ok v xs) : ∃ A c,v = .slice A xs.length c := zB (Ym h)
theorem Cb {A : Option Addr} {n c : Nat} (h : S d e w base ok (.slice A n c) xs) : n = xs.length ∧ n ≤ c ∧ d.C w A xs.length xs := zb (Ym h)
theorem Rp (xs : List α) (p : α) : (xs ++ [p]).zipIdx = xs.zipIdx ++ [(p,xs.length)] := by rw [List.zipIdx_append];simp
end
section
open Classical in
theorem ZN {α : Type} {d : Kd α} {e base : Nat} {okv : Nat → Prop} {w : World} {v : Value} {xs : List α} (h : S d e w base okv v xs) (m : Nat) (okp : Nat → Prop) (hap : ∀ k,okp k → ¬ okv k) : ∃ f,(∀ k,okp k → f k = m) ∧ (tag f d).R e w base okv v xs.zipIdx := by
 obtain ⟨f,h⟩ := h
 exact ⟨fun k => if okp k then m else f k,fun k hk => if_pos hk,a3u h (fun k hk _ => if_neg (fun h2 => hap k h2 hk))⟩
variable {P : Program} {ops : Array Oper} {rest : List Oper} {o : Oper} {a : Act} {Q : Exit → Act → World → Prop} {Kc : Act → World → Prop} {α : Type}
theorem VD (d : Kd α) {w0 W : World} (base : Nat) (hgd : o.guard = none) (s x : Operand) (t e : TypeId) (z : Value) (bytes : Nat)
    (ho : o.op = .call { callee := .builtin .append,args := #[s,x],argTypes := #[t,t] })
    (ht : P.underlying t = some (.slice e)) (hinfo : (P.info? e).map (fun i => (i.zero,i.size,i.bytes)) = some (some z,d.sz,bytes)) (hz : z.cells.size = d.sz) (hs0 : 0 < d.sz) (hb0 : 0 < bytes)
    (v : Value) (xs : List α) (p : α) (cs : List Value) (ok okp : Nat → Prop) (hs : a.eval s = v) (hx : a.eval x = .slice (some ⟨W.heap.size,0,none⟩) 1 1) (hp : d.M W base okp p cs) (hokp : ∀ k,okp k → ok k ∧ some k ≠ v.ownBlock) (hfresh : ∀ k,W.heap.size ≤ k → ok k)
    (HO : S d e W base (fun k => ok k ∧ ¬ okp k) v xs) (HB : Below base w0 W) (hbase : base ≤ W.heap.size) (hl : (xs.length + 1) * bytes ≤ 140737488355328)
    (h : ∀ v1 w1,S d e w1 base ok v1 (xs ++ [p]) → Below base w0 w1 → W.grownBy w1 v.ownBlock → (v1.ownBlock = v.ownBlock ∨ ∃ b,v1.ownBlock = some b ∧ W.heap.size ≤ b) → wpList P ops Q rest (a.put o.dst v1) w1) :
    wpList P ops Q (o :: rest) a (W.alloc (.cells cs.toArray e)) := by
  obtain ⟨f,hf,hR⟩ := ZN HO xs.length okp (fun _ hk h2 => h2.2 hk)
  refine Dz (tag f d) base hgd s x t e z bytes ho ht hinfo hz hs0 hb0 v xs.zipIdx (p,xs.length) cs ok okp hs hx (d.M_mono (fun k hk => ⟨hk,hf k hk⟩) hp) hokp hfresh (zf hR (fun _ hk => hk.1)) HB hbase (by rw [List.length_zipIdx];exact hl) ?_
  intro v1 w1 hr
  rw [← Rp] at hr
  exact h v1 w1 ⟨f,hr⟩
theorem O5 (d : Kd α) {w0 W : World} (base : Nat) (hw : Region.wanted o (yielded ops a.tmps) = true) (s x : Operand) (t e : TypeId) (z : Value) (bytes : Nat)
    (ho : o.op = .call { callee := .builtin .append,args := #[s,x],argTypes := #[t,t] })
    (ht : P.underlying t = some (.slice e)) (hinfo : (P.info? e).map (fun i => (i.zero,i.size,i.bytes)) = some (some z,d.sz,bytes)) (hz : z.cells.size = d.sz) (hs0 : 0 < d.sz) (hb0 : 0 < bytes)
    (v : Value) (xs : List α) (p : α) (cs : List Value) (ok okp : Nat → Prop) (hs : a.eval s = v) (hx : a.eval x = .slice (some ⟨W.heap.size,0,none⟩) 1 1) (hp : d.M W base okp p cs) (hokp : ∀ k,okp k → ok k ∧ some k ≠ v.ownBlock) (hfresh : ∀ k,W.heap.size ≤ k → ok k)
    (HO : S d e W base (fun k => ok k ∧ ¬ okp k) v xs) (HB : Below base w0 W) (hbase : base ≤ W.heap.size) (hl : (xs.length + 1) * bytes ≤ 140737488355328)
    (h : ∀ v1 w1,S d e w1 base ok v1 (xs ++ [p]) → Below base w0 w1 → W.grownBy w1 v.ownBlock → (v1.ownBlock = v.ownBlock ∨ ∃ b,v1.ownBlock = some b ∧ W.heap.size ≤ b) → Kc (a.put o.dst v1) w1) :
    if Region.wanted o (yielded ops a.tmps) = true then Oper.wp P o a (W.alloc (.cells cs.toArray e)) Kc Q else Kc (a.put o.dst undef) (W.alloc (.cells cs.toArray e)) := by
  obtain ⟨f,hf,hR⟩ := ZN HO xs.length okp (fun _ hk h2 => h2.2 hk)
  refine Hl (tag f d) base hw s x t e z bytes ho ht hinfo hz hs0 hb0 v xs.zipIdx (p,xs.length) cs ok okp hs hx (d.M_mono (fun k hk => ⟨hk,hf k hk⟩) hp) hokp hfresh (zf hR (fun _ hk => hk.1)) HB hbase (by rw [List.length_zipIdx];exact hl) ?_
  intro v1 w1 hr
  rw [← Rp] at hr
  exact h v1 w1 ⟨f,hr⟩
theorem a1y (d : Kd α) {w0 W : World} (base e : Nat) (hgd : o.guard = none) {N : Tmp} (hd : o.dst = some N) (t : TypeId) (x y : Operand) (ho : o.op = .makeSlice t x y) (n : Int) (hx : a.eval x = .int .i64 n) (hy : a.eval y = .int .i64 n)
    (ht : P.underlying t = some (.slice e)) (z : Value) (bytes : Nat) (hinfo : (P.info? e).map (fun i => (i.zero,i.size,i.bytes)) = some (some z,d.sz,bytes)) (hz : z.cells.size = d.sz) (hs0 : 0 < d.sz) (hb0 : 0 < bytes)
    (z0 : α) {ok okp : Nat → Prop} (hzero : d.M W base (fun _ => False) z0 z.cells.toList) (_hok : ∀ k,okp k → ok k) (hfresh : ok W.heap.size) (h0 : 0 ≤ n) (hl : n.toNat * bytes ≤ 281474976710656) (HB : Below base w0 W) (hbase : base ≤ W.heap.size)
    (h : ∀ v1 w1,S d e w1 base ok v1 (List.replicate n.toNat z0) → Below base w0 w1 → W.grownBy w1 none → (∃ b,v1.ownBlock = some b ∧ W.heap.size ≤ b) → wpList P ops Q rest (a.put o.dst v1) w1) : wpList P ops Q (o :: rest) a W :=
  MW (bare d) base e hgd hd t x y ho n hx hy ht z bytes hinfo hz hs0 hb0 z0 (ok := ok) (okp := ok) hzero (fun _ hk => hk) hfresh h0 hl HB hbase (fun v1 w1 hr => h v1 w1 (a1v hr))
end
def gap {α : Type} (f : Nat → Nat) (d : Kd α) (i : Nat) (c : List Value) : Kd (α × Nat) where
 sz := d.sz
 E := d.E
 K := fun w x cs => (x.2 = i → cs = c ∧ cs.length = d.sz ∧ ∀ u ∈ cs,u.oneCell' = true) ∧ (x.2 ≠ i → d.K w x.1 cs)
 M := fun w base ok x cs => (x.2 = i → cs = c ∧ cs.length = d.sz ∧ ∀ u ∈ cs,u.oneCell' = true) ∧ (x.2 ≠ i → d.M w base (fun k => ok k ∧ f k = x.2) x.1 cs)
 K_len := fun {w x cs} h => by
  by_cases hx : x.2 = i
  · exact (h.1 hx).2.1
  · exact d.K_len (h.2 hx)
 K_one := fun {w x cs} h => by
  by_cases hx : x.2 = i
  · exact (h.1 hx).2.2
  · exact d.K_one (h.2 hx)
 K_below := fun hb h => ⟨h.1,fun hx => d.K_below hb (h.2 hx)⟩
 K_of_M := fun h => ⟨h.1,fun hx => d.K_of_M (h.2 hx)⟩
 M_mono := fun hok h => ⟨h.1,fun hx => d.M_mono (fun k hk => ⟨hok k hk.1,hk.2⟩) (h.2 hx)⟩
 M_bound := fun h => ⟨h.1,fun hx => d.M_mono (fun _ hk => ⟨⟨hk.1.1,hk.2⟩,hk.1.2⟩) (d.M_bound (h.2 hx))⟩
 M_move := fun hm h => ⟨h.1,fun hx => d.M_move (fun k hk => hm k hk.1) (h.2 hx)⟩
 M_lower := fun hb h => ⟨h.1,fun hx => d.M_lower hb (h.2 hx)⟩
def H {α : Type} (d : Kd α) (e : Nat) (w : World) (base : Nat) (ok : Nat → Prop) (v : Value) (xs : List α) (i : Int) (oki : Nat → Prop) (c : List Value) : Prop :=
 (∀ k,oki k → ok k) ∧ ∃ f,(gap f d i.toNat c).R e w base (fun k => ok k ∧ ¬ oki k) v xs.zipIdx
section
variable {α β : Type} {d : Kd α} {e e' g n cap : Nat} {w w1 W : World} {base : Nat} {ok ok' oki okp : Nat → Prop} {u v : Value} {xs : List α} {i : Int} {c : List Value}
theorem a1x (h : S d e W base ok (.slice (some ⟨g,0,none⟩) n cap) xs) (z : α) (i : Int) (h0 : 0 ≤ i) (h1 : i < n) :
    ∃ (oki : Nat → Prop) (c : List Value),c.length = d.sz ∧ d.M W base oki (xs.getD i.toNat z) c ∧ (∀ j u,c[j]? = some u → W.cell? ⟨g,i.toNat * d.sz + j,none⟩ = some u) ∧ (∀ k,oki k → ok k ∧ k ≠ g) ∧ H d e W base ok (.slice (some ⟨g,0,none⟩) n cap) xs i oki c := by
  obtain ⟨f,hR⟩ := h
  have hn := (zb hR).1
  rw [List.length_zipIdx] at hn
  have hgo : some g = (Value.slice (some ⟨g,0,none⟩) n cap).ownBlock := by simp [Value.ownBlock]
  obtain ⟨hok0,inner,ho,hr⟩ := hR
  have hil : i.toNat < xs.length := by omega
  have hlen : inner.length = xs.length * d.sz := by have := hr.1;rw [List.length_zipIdx] at this;exact this
  have hseg : i.toNat * d.sz + d.sz ≤ inner.length := by rw [hlen,← Nat.succ_mul];exact Nat.mul_le_mul_right _ hil
  have hM := hr.2 i.toNat _ (Jj (List.getElem?_eq_getElem hil))
  have hkg : ∀ k,some k ≠ (Value.slice (some ⟨g,0,none⟩) n cap).ownBlock → k ≠ g := fun k hk he => hk (by rw [he];exact hgo)
  refine ⟨fun k => (ok k ∧ k ≠ g) ∧ f k = i.toNat,(inner.drop (i.toNat * d.sz)).take d.sz,by rw [List.length_take,List.length_drop];omega,?_,fun j u hu => ?_,fun k hk => hk.1,fun k hk => hk.1.1,f,fun k hk => ⟨hok0 k hk,fun h2 => h2.1.2 ?_⟩,inner,ho,hr.1,fun m p hm => ?_⟩
  · rw [List.getD_eq_getElem?_getD,List.getElem?_eq_getElem hil]
    exact d.M_mono (fun k hk => ⟨⟨hk.1.1,hkg k hk.1.2⟩,hk.2⟩) hM
  · rw [List.getElem?_take] at hu
    split at hu
    · rw [List.getElem?_drop] at hu
      have := ho.cells (g := g) hgo.symm _ u hu
      rwa [add_plain] at this
    · cases hu
  · rw [← hgo] at hk;injection hk with hk;exact hk.symm
  · have hold := hr.2 m p hm
    have hp2 : p.2 = m := by
      rw [List.getElem?_zipIdx,Nat.zero_add] at hm
      obtain ⟨q,_,rfl⟩ := Option.map_eq_some_iff.1 hm
      rfl
    refine ⟨fun hx => ?_,fun hx => d.M_mono (fun k hk => ⟨⟨⟨hk.1.1,fun h2 => hx ?_⟩,hk.1.2⟩,hk.2⟩) hold⟩
    · have hmi : m = i.toNat := by omega
      subst hmi
      exact ⟨rfl,d.K_len (d.K_of_M hM),d.K_one (d.K_of_M hM)⟩
    · rw [← hk.2];exact h2.2
open Classical in
theorem a1o (h : H d e w base ok v xs i oki c) {x' : α} (hM : d.M w base okp x' c) (hok : ∀ k,okp k → oki k) : S d e w base ok v (xs.set i.toNat x') := by
  obtain ⟨ho,f,h0,inner,hown,hr⟩ := h
  refine ⟨fun k => if oki k then i.toNat else f k,fun k hk => (h0 k hk).1,inner,by rw [List.length_zipIdx,List.length_set];rw [List.length_zipIdx] at hown;exact hown,by have := hr.1;rw [List.length_zipIdx] at this;rw [List.length_zipIdx,List.length_set];exact this,fun m p hm => ?_⟩
  rw [List.getElem?_zipIdx,Nat.zero_add] at hm
  obtain ⟨q,hq,rfl⟩ := Option.map_eq_some_iff.1 hm
  have hml : m < xs.length := by
    have := (List.getElem?_eq_some_iff.1 hq).1
    rwa [List.length_set] at this
  by_cases hmi : m = i.toNat
  · subst hmi
    rw [List.getElem?_set_self hml] at hq
    injection hq with hq
    subst hq
    have hc := ((hr.2 i.toNat _ (Jj (List.getElem?_eq_getElem hml))).1 rfl).1
    show d.M w base _ x' ((inner.drop (i.toNat * d.sz)).take d.sz)
    rw [show (inner.drop (i.toNat * d.sz)).take d.sz = c from hc]
    exact d.M_mono (fun k hk => ⟨⟨ho k (hok k hk),fun he => (h0 k he.symm).2 (hok k hk)⟩,if_pos (hok k hk)⟩) hM
  · rw [List.getElem?_set_ne (Ne.symm hmi)] at hq
    exact d.M_mono (fun k hk => ⟨⟨hk.1.1.1,hk.1.2⟩,(if_neg hk.1.1.2).trans hk.2⟩) ((hr.2 m (q,m) (Jj hq)).2 hmi)
theorem YB (h : H d e w base ok v xs i oki c) : H d e w base ok v xs i (fun k => oki k ∨ ok k ∧ w.heap.size ≤ k) c := by
 obtain ⟨ho,f,h⟩ := h
 exact ⟨fun k hk => hk.elim (ho k) (fun h2 => h2.1),f,zf (DZ h) (fun k hk => ⟨hk.1.1,fun h2 => h2.elim hk.1.2 (fun h3 => by have := hk.2.2.1;omega)⟩)⟩
theorem a1q (h : H d e w base ok v xs i oki c) (hm : ∀ k,ok k → ¬ oki k → k < w.heap.size → w1.heap[k]? = w.heap[k]?) : H d e w1 base ok v xs i oki c := by
 obtain ⟨ho,f,h⟩ := h
 exact ⟨ho,f,JP h (fun k hk hlt => hm k hk.1 hk.2 hlt)⟩
theorem YA (h : H d e w base ok v xs i oki c) {row : Option Nat} (hg : w.grownBy w1 row) (hrow : ∀ k,row = some k → oki k) : H d e w1 base ok v xs i oki c :=
 a1q h (fun k _ hn hlt => hg.block k hlt (fun he => hn (hrow k he.symm)))
theorem a1p (h : H d e w base ok v xs i oki c) (hok : ∀ k,ok k → ok' k) : H d e w base ok' v xs i oki c := by
 obtain ⟨ho,f,h⟩ := h
 exact ⟨fun k hk => hok k (ho k hk),f,zf h (fun k hk => ⟨hok k hk.1,hk.2⟩)⟩
theorem a1w (h : S d e W base ok (.slice (some ⟨g,0,none⟩) n cap) xs) (z : α) (i : Int) (h0 : 0 ≤ i) (h1 : i < n) :
    ∃ (oki : Nat → Prop) (c : List Value),c.length = d.sz ∧ d.M W base oki (xs.getD i.toNat z) c ∧ (∀ j u,c[j]? = some u → W.cell? ⟨g,i.toNat * d.sz + j,none⟩ = some u) ∧ (∀ j,W.frozen? ⟨g,i.toNat * d.sz + j,none⟩ = false) ∧ (∀ k,oki k → ok k ∧ k ≠ g) ∧ H d e W base ok (.slice (some ⟨g,0,none⟩) n cap) xs i oki c := by
  obtain ⟨_,_,_,_,hfr⟩ := RL (Ym h) z i h0 h1
  obtain ⟨oki,c,hcl,hM,hcc,hoki,hH⟩ := a1x h z i h0 h1
  exact ⟨oki,c,hcl,hM,hcc,hfr,hoki,hH⟩
theorem a3r (h : H d e W base ok (.slice (some ⟨g,0,none⟩) n cap) xs i oki c) (h0 : 0 ≤ i) (h1 : i < n) :
    ∃ rows : List (List Value),rows.length = xs.length ∧ (raw d.sz).R e W base (fun _ => True) (.slice (some ⟨g,0,none⟩) n cap) rows ∧ c.length = d.sz ∧ (∀ u ∈ c,u.oneCell' = true) ∧ (∀ j u,c[j]? = some u → W.cell? ⟨g,i.toNat * d.sz + j,none⟩ = some u) ∧
      ∀ w1 c',W.grownBy w1 (some g) → (raw d.sz).R e w1 base (fun _ => True) (.slice (some ⟨g,0,none⟩) n cap) (rows.set i.toNat c') → H d e w1 base ok (.slice (some ⟨g,0,none⟩) n cap) xs i oki c' := by
  obtain ⟨hoo,f,hR⟩ := h
  have hn := (zb hR).1
  rw [List.length_zipIdx] at hn
  have hgo : some g = (Value.slice (some ⟨g,0,none⟩) n cap).ownBlock := by simp [Value.ownBlock]
  obtain ⟨hok0,inner,ho,hr⟩ := hR
  have hil : i.toNat < xs.length := by omega
  have hlen : inner.length = xs.length * d.sz := by have := hr.1;rw [List.length_zipIdx] at this;exact this
  have hkg : ∀ k,some k ≠ (Value.slice (some ⟨g,0,none⟩) n cap).ownBlock → k ≠ g := fun k hk he => hk (by rw [he];exact hgo)
  have hci := (hr.2 i.toNat _ (Jj (List.getElem?_eq_getElem hil))).1 rfl
  rw [hci.1] at hci
  have hc := ((hr.2 i.toNat _ (Jj (List.getElem?_eq_getElem hil))).1 rfl).1
  refine ⟨(List.range xs.length).map fun j => (inner.drop (j * d.sz)).take d.sz,by rw [List.length_map,List.length_range],⟨fun _ _ => trivial,inner,?_,?_,fun j p hj => ?_⟩,hci.2.1,hci.2.2,fun j u hu => ?_,fun w1 c' hg hraw => ?_⟩
  · rw [List.length_map,List.length_range];rw [List.length_zipIdx] at ho;exact ho
  · rw [List.length_map,List.length_range];exact hlen
  · rw [List.getElem?_map] at hj
    obtain ⟨j',hj',rfl⟩ := Option.map_eq_some_iff.1 hj
    obtain ⟨hl,he⟩ := List.getElem?_eq_some_iff.1 hj'
    rw [List.getElem_range] at he
    subst he
    rw [List.length_range] at hl
    have hm := (gap f d i.toNat c).K_of_M (hr.2 j _ (Jj (List.getElem?_eq_getElem hl)))
    exact ⟨rfl,(gap f d i.toNat c).K_len hm,(gap f d i.toNat c).K_one hm⟩
  · rw [← hc,List.getElem?_take] at hu
    split at hu
    · rw [List.getElem?_drop] at hu
      have := ho.cells (g := g) hgo.symm _ u hu
      rwa [add_plain] at this
    · cases hu
  · obtain ⟨_,inner',ho',hr'⟩ := hraw
    have hl' : inner'.length = xs.length * d.sz := by have := hr'.1;rw [List.length_set,List.length_map,List.length_range] at this;exact this
    rw [List.length_set,List.length_map,List.length_range] at ho'
    refine ⟨hoo,f,hok0,inner',by rw [List.length_zipIdx];exact ho',by rw [List.length_zipIdx];exact hl',fun m p hm => ?_⟩
    rw [List.getElem?_zipIdx,Nat.zero_add] at hm
    obtain ⟨q,hq,rfl⟩ := Option.map_eq_some_iff.1 hm
    have hml : m < xs.length := (List.getElem?_eq_some_iff.1 hq).1
    have hold := hr.2 m (q,m) (Jj hq)
    refine ⟨fun hx => ?_,fun hx => ?_⟩
    · have hx' : m = i.toNat := hx
      subst hx'
      exact hr'.2 i.toNat c' (List.getElem?_set_self (by rw [List.length_map,List.length_range];exact hml))
    · have hx' : m ≠ i.toNat := hx
      have hcm := (hr'.2 m ((inner.drop (m * d.sz)).take d.sz) (by
        rw [List.getElem?_set_ne (Ne.symm hx'),List.getElem?_map,List.getElem?_eq_getElem (by rw [List.length_range];exact hml),List.getElem_range]
        rfl)).1
      show d.M w1 base _ q ((inner'.drop (m * d.sz)).take d.sz)
      rw [show (inner'.drop (m * d.sz)).take d.sz = _ from hcm]
      exact d.M_mono (fun k hk => hk.1) (d.M_move (w1 := w1) (fun k hk => hg.block k hk.2.2.1 (fun he => hkg k hk.1.1.2 (by injection he))) (d.M_bound (hold.2 hx)))
theorem a3s (h : H d e W base ok (.slice (some ⟨g,0,none⟩) n cap) xs i oki c) (h0 : 0 ≤ i) (h1 : i < n) {seg : List Value} {j : Nat} (hj : j + seg.length ≤ d.sz) (hone : ∀ q ∈ seg,q.oneCell' = true) :
    H d e (W.setCells g (i.toNat * d.sz + j) seg) base ok (.slice (some ⟨g,0,none⟩) n cap) xs i oki (c.take j ++ seg ++ c.drop (j + seg.length)) ∧ W.grownBy (W.setCells g (i.toNat * d.sz + j) seg) (some g) := by
  obtain ⟨rows,_,hraw,hcl,hco,hcc,hback⟩ := a3r h h0 h1
  obtain ⟨h2,h3⟩ := ZL hraw i h0 h1 (c := c) (seg := seg) (j := j) (x' := c.take j ++ seg ++ c.drop (j + seg.length)) (okp := fun _ => False) hcl hcc hj
    ⟨rfl,by
      show (c.take j ++ seg ++ c.drop (j + seg.length)).length = d.sz
      simp only [List.length_append,List.length_take,List.length_drop];omega,fun u hu => by
      rcases List.mem_append.1 hu with hu | hu
      · rcases List.mem_append.1 hu with hu | hu
        · exact hco u (List.mem_of_mem_take hu)
        · exact hone u hu
      · exact hco u (List.mem_of_mem_drop hu)⟩ (fun _ hk => hk.elim)
  exact ⟨hback _ _ h3 h2,h3⟩
end
section
variable {P : Program} {ops : Array Oper} {rest : List Oper} {o : Oper} {a : Act} {Q : Exit → Act → World → Prop} {α : Type}
end
end Kd
end Go.Proofs.YtjonnfmoocijlaaGreatKW.PrintWords
namespace Go.Proofs.YtjonnfmoocijlaaGreatKW.PrintWords
open Go.RowKit
namespace Kd
section
variable {α : Type} {n : Nat} {d : Kd α} {hs : 0 < d.sz} {w : World} {base : Nat} {ok : Nat → Prop} {xs : List α} {cs : List Value}
end
section
variable {α : Type} {n : Nat} {enc : α → Value} {h1 : ∀ x,(enc x).oneCell' = true} {hs : 0 < (scalar enc h1).sz} {w : World} {base : Nat} {ok : Nat → Prop} {xs : List α} {cs : List Value}
theorem V8 (h : BQ (fun (x : α) (cs : List Value) => cs = [enc x]) 1 xs cs) : cs = encs enc xs := by
  apply List.ext_getElem?
  intro j
  have hl := h.1
  rw [Nat.mul_one] at hl
  rcases Nat.lt_or_ge j xs.length with hj | hj
  · have h2 := h.2 j _ (List.getElem?_eq_getElem hj)
    have hj' : j < cs.length := by omega
    rw [Nat.mul_one,List.drop_eq_getElem_cons hj'] at h2
    have h5 := congrArg List.head? h2
    rw [List.take_succ_cons] at h5
    have h4 : cs[j] = enc xs[j] := Option.some.inj h5
    rw [List.getElem?_eq_getElem hj',h4]
    simp [encs,List.getElem?_eq_getElem hj]
  · rw [List.getElem?_eq_none (by omega),List.getElem?_eq_none (by rw [J7];omega)]
end
end Kd
end Go.Proofs.YtjonnfmoocijlaaGreatKW.PrintWords
namespace Go.Proofs.YtjonnfmoocijlaaGreatKW.PrintWords
open Go.RowKit
namespace Kd
structure Heap {α : Type} (d : Kd α) : Prop where
 K : ∀ {w w1 : World} {x : α} {cs : List Value},(∀ k,k < w.heap.size → w1.heap[k]? = w.heap[k]?) → d.K w x cs → d.K w1 x cs
theorem UA {w w1 : World} (hb : ∀ k,k < w.heap.size → w1.heap[k]? = w.heap[k]?) {a : Addr} {v : Value} (h : w.cell? a = some v) : w1.cell? a = some v := by
 have := hb a.block (World.block_lt_of_cell? w a h)
 simpa [World.cell?,this] using h
theorem Heap.C {α : Type} {d : Kd α} (hd : Heap d) {w w1 : World} {A : Option Addr} {n : Nat} {xs : List α} (hb : ∀ k,k < w.heap.size → w1.heap[k]? = w.heap[k]?) (h : d.C w A n xs) : d.C w1 A n xs :=
 ⟨h.1,h.2.1,fun hn => by
  obtain ⟨ad,e,hc⟩ := h.2.2 hn
  refine ⟨ad,e,fun j p hj => ?_⟩
  obtain ⟨c,hs,hr,hcell⟩ := hc j p hj
  exact ⟨c,hs,hd.K hb hr,fun i u hu => UA hb (hcell i u hu)⟩⟩
theorem BV (k : IntKind) : Heap (Kd.int k) := ⟨fun _ h => h⟩
theorem BA {α : Type} {d : Kd α} (e : Nat) (hd : Heap d) : Heap (slice e d) := ⟨by
 rintro w w1 x cs hb ⟨A,c,rfl,hl,hr⟩
 exact ⟨A,c,rfl,hl,hd.C hb hr⟩⟩
theorem Lf {α β : Type} {a : Kd α} {b : Kd β} (ha : Heap a) (hb' : Heap b) : Heap (pair a b) := ⟨by
 rintro w w1 x cs hb ⟨c0,c1,rfl,h0,h1⟩
 exact ⟨c0,c1,rfl,ha.K hb h0,hb'.K hb h1⟩⟩
theorem QE {α β : Type} {d : Kd α} (f : β → α) (hd : Heap d) : Heap (iso d f) := ⟨fun hb h => hd.K hb h⟩
section
variable {α : Type} {d : Kd α} {e base g n c : Nat} {ok : Nat → Prop} {w w0 W : World} {A : Option Addr} {xs : List α}
end
end Kd
end Go.Proofs.YtjonnfmoocijlaaGreatKW.PrintWords
namespace Go.Proofs.YtjonnfmoocijlaaGreatKW.PrintWords
open Go.RowKit
def Kept (w W : World) (S : Nat → Prop) : Prop := w.heap.size ≤ W.heap.size ∧ ∀ i,i < w.heap.size → ¬ S i → W.heap[i]? = w.heap[i]?
section
variable {w W W2 : World} {S S2 S' : Nat → Prop}
theorem Kept.of_below (h : Below w.heap.size w W) (S : Nat → Prop) : Kept w W S := ⟨h.size,fun i hi _ => h.block i hi⟩
theorem EC {g : Nat} {o : Obj} (hb : W.heap[g]? = some o) (hk : Kept W W2 S) (hne : ¬ S g) : W2.heap[g]? = some o := (hk.2 g (ED hb) hne).trans hb
end
namespace Kd
section
variable {α : Type} {d : Kd α} {e base n c : Nat} {ok oki S S2 : Nat → Prop} {w w0 W W1 W2 : World} {v : Value} {A : Option Addr} {xs : List α} {i : Int} {cs : List Value}
theorem a1u (h : d.R e W base ok v xs) (hk : Kept W W2 S) (hne : ∀ k,ok k → ¬ S k) : d.R e W2 base ok v xs := JP h (fun k ho hlt => hk.2 k hlt (hne k ho))
end
end Kd
def GK (P : World → Prop) (W : World) (ok : Nat → Prop) : Prop := ∀ W' : World,(∀ k,ok k → k < W.heap.size → W'.heap[k]? = W.heap[k]?) → P W'
theorem Z5 {W W1 : World} {k : Nat} (h : W1.heap[k]? = W.heap[k]?) (hlt : k < W.heap.size) : k < W1.heap.size := by
 rw [Array.getElem?_eq_getElem hlt] at h
 exact (Array.getElem?_eq_some_iff.1 h).1
namespace GK
variable {P Q : World → Prop} {W W1 : World} {ok ok' : Nat → Prop}
theorem now (h : GK P W ok) : P W := h W (fun _ _ _ => rfl)
theorem mono (h : GK P W ok) (hok : ∀ k,ok k → ok' k) : GK P W ok' := fun W' hW => h W' (fun k hk hlt => hW k (hok k hk) hlt)
theorem bound (h : GK P W ok) : GK P W (fun k => ok k ∧ k < W.heap.size) := fun W' hW => h W' (fun k hk hlt => hW k ⟨hk,hlt⟩ hlt)
theorem step (h : GK P W ok) (hm : ∀ k,ok k → k < W.heap.size → W1.heap[k]? = W.heap[k]?) : GK P W1 ok := fun W' hW => h W' (fun k hk hlt => (hW k hk (Z5 (hm k hk hlt) hlt)).trans (hm k hk hlt))
theorem imp (h : GK P W ok) (hi : ∀ W',P W' → Q W') : GK Q W ok := fun W' hW => hi W' (h W' hW)
theorem old (h : GK P W ok) (hb : Below W.heap.size W W1) : GK P W1 (fun k => ok k ∧ k < W.heap.size) := (h.bound).step (fun k _ hlt => hb.block k hlt)
end GK
namespace Kd
def F {α : Type} (d : Kd α) (W : World) (ok : Nat → Prop) (A : Option Addr) (n : Nat) (xs : List α) : Prop := GK (fun W => d.C W A n xs) W ok
def FK {α : Type} (d : Kd α) (W : World) (ok : Nat → Prop) (x : α) (c : List Value) : Prop := GK (fun W => d.K W x c) W ok
section
variable {α β : Type} {d : Kd α} {e base n n' cc g N : Nat} {ok ok' okp S : Nat → Prop} {w w0 w1 W W1 : World} {A A' : Option Addr} {u v v1 : Value} {xs : List α} {xs' : List β} {d' : Kd β} {x : α} {c : List Value}
theorem ZC (h : F d W ok A n xs) : d.C W A n xs := GK.now h
theorem P9 (h : F d W ok A n xs) (hok : ∀ k,ok k → ok' k) : F d W ok' A n xs := GK.mono h hok
theorem P8 (h : F d W ok A n xs) : F d W (fun k => ok k ∧ k < W.heap.size) A n xs := GK.bound h
theorem RF (h : F d W ok A n xs) (hm : ∀ k,ok k → k < W.heap.size → W1.heap[k]? = W.heap[k]?) : F d W1 ok A n xs := GK.step h hm
theorem Bq (h : F d W ok A n xs) (hb : Below W.heap.size W W1) : F d W1 ok A n xs := RF h (fun k _ hlt => hb.block k hlt)
theorem Yw (h : F d W ok A n xs) (o : Obj) : F d (W.alloc o) ok A n xs := Bq h (Dr (Below.refl _ _) o)
theorem a1k (h : F d W ok A n xs) : F d W.drew ok A n xs := Bq h (FJ (Below.refl _ _))
theorem Yx (h : F d W ok A n xs) (m : Nat) : F d (W.drewN m) ok A n xs := Bq h (CJ (Below.refl _ _) m)
theorem a1l (h : F d W ok A n xs) (hk : Kept W W1 S) (hok : ∀ k,ok k → ¬ S k) : F d W1 ok A n xs := RF h (fun k ho hlt => hk.2 k hlt (hok k ho))
theorem a3m (d : Kd α) (W : World) (ok : Nat → Prop) : F d W ok none ([] : List α).length [] := fun W' _ => Lu d W'
theorem Vx (h : F d W ok A n xs) (hbase : ∀ k,v.ownBlock = some k → W.heap.size ≤ k) (hb : Below W.heap.size W W1) : F d W1 (fun k => ok k ∧ some k ≠ v.ownBlock) A n xs :=
 P9 (GK.old h hb) (fun k hk => ⟨hk.1,fun he => by have := hbase k he.symm;have := hk.2;omega⟩)
theorem Vy (h : F d W ok A n xs) (a : Nat) (ha : W.heap.size ≤ a) : F d W (fun k => ok k ∧ k ≠ a) A n xs := P9 (P8 h) (fun k hk => ⟨hk.1,by have := hk.2;omega⟩)
theorem Yv (h : F d W (fun k => ok k ∧ some k ≠ v.ownBlock) A n xs) (hg : W.grownBy W1 v.ownBlock) (hat : v1.ownBlock = v.ownBlock ∨ ∃ b,v1.ownBlock = some b ∧ W.heap.size ≤ b) : F d W1 (fun k => ok k ∧ some k ≠ v1.ownBlock) A n xs := by
  refine P9 (GK.step (P8 h) (fun k hk hlt => hg.block k hlt hk.1.2)) (fun k hk => ⟨hk.1.1,?_⟩)
  rcases hat with hat | ⟨b,hb,hle⟩
  · rw [hat];exact hk.1.2
  · rw [hb]
    intro he
    injection he with he
    have := hk.2
    omega
theorem IV (hd : Heap d) (h : d.C w A n xs) : F d w (fun k => k < w.heap.size) A n xs := fun _ hW => hd.C (fun k hlt => hW k hlt hlt) h
theorem R_F (h : d.R e W base ok (.slice A n cc) xs) : F d W ok A n xs := fun W' hW => by
 have h2 := zb (JP h hW)
 rw [h2.1]
 exact h2.2.2
theorem a1j (h : FK d W ok x c) : d.K W x c := GK.now h
theorem YX (W : World) (g : Nat) : ∃ W' : World,(∀ k,k ≠ g → W'.heap[k]? = W.heap[k]?) ∧ ∀ a : Addr,a.block = g → W'.cell? a = none := by
 refine ⟨{ W with heap := W.heap.setIfInBounds g (.cells #[] 0) },fun k hk => by simp [Ne.symm hk],fun a ha => ?_⟩
 subst ha
 by_cases hlt : a.block < W.heap.size
 · simp [World.cell?,hlt]
 · simp [World.cell?,hlt]
end
end Kd
end Go.Proofs.YtjonnfmoocijlaaGreatKW.PrintWords
namespace Go.Proofs.YtjonnfmoocijlaaGreatKW.PrintWords
open Go.RowKit
namespace Kd
section
variable {α : Type} {d : Kd α} {e base n cc g : Nat} {ok ok' okp S : Nat → Prop} {w w1 W W1 : World} {A : Option Addr} {u v v1 : Value} {xs : List α} {x : α} {c : List Value}
theorem a3l (h : F d W ok A n xs) (z : α) (i : Int) (h0 : 0 ≤ i) (h1 : i < n) :
    ∃ ad c,A = some ad ∧ c.length = d.sz ∧ FK d W ok (xs.getD i.toNat z) c ∧ (∀ j u,c[j]? = some u → W.cell? (ad.add (i.toNat * d.sz + j)) = some u) ∧ (0 < d.sz → ok ad.block) := by
  obtain ⟨ad,c,rfl,hcl,hK,hcc⟩ := Lt (ZC h) z i h0 h1
  have hin : 0 < d.sz → ok ad.block := by
    intro hs
    by_cases hk : ok ad.block
    · exact hk
    · obtain ⟨W',h2,h3⟩ := YX W ad.block
      obtain ⟨ad',c',he,hcl',_,hcc'⟩ := Lt (h W' (fun k hk' _ => h2 k (fun e => hk (e ▸ hk')))) z i h0 h1
      injection he with he
      subst he
      have h4 := hcc' 0 _ (List.getElem?_eq_getElem (by omega))
      rw [h3 _ (add_block _ _)] at h4
      cases h4
  refine ⟨ad,c,rfl,hcl,fun W' hW => ?_,hcc,hin⟩
  obtain ⟨ad',c',he,hcl',hK',hcc'⟩ := Lt (h W' hW) z i h0 h1
  injection he with he
  subst he
  have hc : c = c' := by
    apply List.ext_getElem?
    intro j
    by_cases hj : j < d.sz
    · have hb : W'.heap[ad.block]? = W.heap[ad.block]? := by
        have h5 := hcc j _ (List.getElem?_eq_getElem (by omega))
        have h6 := World.block_lt_of_cell? W _ h5
        rw [add_block] at h6
        exact hW _ (hin (by omega)) h6
      have h5 := hcc j _ (List.getElem?_eq_getElem (by omega))
      have h6 := hcc' j _ (List.getElem?_eq_getElem (by omega))
      have h7 : W'.cell? (ad.add (i.toNat * d.sz + j)) = W.cell? (ad.add (i.toNat * d.sz + j)) := by simp [World.cell?,add_block,hb]
      rw [h7,h5] at h6
      rw [List.getElem?_eq_getElem (by omega),List.getElem?_eq_getElem (by omega)]
      exact h6
    · rw [List.getElem?_eq_none (by omega),List.getElem?_eq_none (by omega)]
  rw [hc]
  exact hK'
def N {α : Type} (d : Kd α) (e : Nat) (w : World) (base : Nat) (ok : Nat → Prop) (v : Value) (xs : List α) : Prop :=
 (∀ k,v.ownBlock = some k → ok k) ∧ ∃ rows : List (List Value),rows.length = xs.length ∧ (raw d.sz).R e w base (fun k => some k = v.ownBlock) v rows ∧ ∀ (j : Nat) (x : α) (c : List Value),xs[j]? = some x → rows[j]? = some c → FK d w (fun k => ok k ∧ some k ≠ v.ownBlock) x c
end
end Kd
end Go.Proofs.YtjonnfmoocijlaaGreatKW.PrintWords
namespace Go.Proofs.YtjonnfmoocijlaaGreatKW.PrintWords
open Go.RowKit
section
variable {P : Program} {d : Nat} {xs ys : Array Value} {f : Field} {fs : List Field} {a b : Value} {r s : Bool} {w : World}
theorem Qs (hn : (f.name == "_") = false) (ha : (part f.type xs f.offset).run P w = .ok a w) (hb : (part f.type ys f.offset).run P w = .ok b w) (he : (Op.equalIn d f.type a b).run P w = .ok r w) : (Op.eqFields d xs ys [f]).run P w = .ok r w := by
 have hn' : f.name ≠ "_" := by simpa using hn
 simp only [Op.eqFields,if_pos hn',Sem.run_bind,ha,hb,he,Result.andThen_ok]
 cases r <;> simp
theorem Qr (hn : (f.name == "_") = false) (ha : (part f.type xs f.offset).run P w = .ok a w) (hb : (part f.type ys f.offset).run P w = .ok b w) (he : (Op.equalIn d f.type a b).run P w = .ok r w) (hr : (Op.eqFields d xs ys fs).run P w = .ok s w) : (Op.eqFields d xs ys (f :: fs)).run P w = .ok (r && s) w := by
 have hn' : f.name ≠ "_" := by simpa using hn
 rw [Op.eqFields]
 simp only [if_pos hn',Sem.run_bind,ha,hb,he,Result.andThen_ok]
 cases r
 · simp
 · simpa using hr
theorem WF {t : TypeId} {fs : Array Field} (hu : P.underlying t = some (.struct fs)) (hp : P.stoodInHeld t = false) (h : (Op.eqFields d xs ys fs.toList).run P w = .ok r w) : (Op.equalIn (d + 1) t (.agg xs) (.agg ys)).run P w = .ok r w := by
 have hf : P.fieldsOf t = fs := by simp [Program.fieldsOf,hu]
 rw [run_equalIn_struct (P := P) w d t xs ys (by rw [hf];exact hu) hp,hf]
 exact h
end
end Go.Proofs.YtjonnfmoocijlaaGreatKW.PrintWords
namespace Go.Proofs.YtjonnfmoocijlaaGreatKW.PrintWords
theorem BQ.one {α : Type} {R : α → List Value → Prop} {ps : List α} {cs : List Value} {p : α} {v : Value} (hp : R p [v]) (h : BQ R 1 ps cs) : BQ R 1 (p :: ps) (v :: cs) := by
 refine ⟨by simp [h.1],fun j q hq => ?_⟩
 cases j with
 | zero =>
  simp only [List.getElem?_cons_zero,Option.some.injEq] at hq
  subst hq
  simpa using hp
 | succ j =>
  simp only [List.getElem?_cons_succ] at hq
  have h1 := h.2 j q hq
  simpa [Nat.mul_one] using h1
theorem BQ.front {α : Type} {R : α → List Value → Prop} {size : Nat} {ps : List α} {cs c all : List Value} {p : α} (hp : R p c) (hc : c.length = size) (h : BQ R size ps cs) (ha : c ++ cs = all) : BQ R size (p :: ps) all := by
 subst ha
 refine ⟨by rw [List.length_append,hc,h.1,List.length_cons,Nat.succ_mul,Nat.add_comm],fun j q hq => ?_⟩
 cases j with
 | zero =>
  simp only [List.getElem?_cons_zero,Option.some.injEq] at hq
  subst hq
  rw [Nat.zero_mul,List.drop_zero,List.take_append_of_le_length (by omega),List.take_of_length_le (by omega)]
  exact hp
 | succ j =>
  simp only [List.getElem?_cons_succ] at hq
  have h1 := h.2 j q hq
  rw [Nat.succ_mul,List.drop_append,List.drop_of_length_le (by rw [hc];exact Nat.le_add_left _ _),List.nil_append,hc,Nat.add_sub_cancel]
  exact h1
theorem BQ.c4 {α : Type} {R : α → List Value → Prop} {ps : List α} {cs : List Value} {p : α} {va vb vc vd : Value} (hp : R p [va,vb,vc,vd]) (h : BQ R 4 ps cs) : BQ R 4 (p :: ps) (va :: vb :: vc :: vd :: cs) := BQ.front hp rfl h rfl
end Go.Proofs.YtjonnfmoocijlaaGreatKW.PrintWords
namespace Go.Proofs.YtjonnfmoocijlaaGreatKW.PrintWords
open Go.RowKit
section
variable {P : Program} {ops : Array Oper} {rest : List Oper} {o : Oper} {a : Act} {Q : Exit → Act → World → Prop} {W : World}
theorem AX (hw : Region.wanted o (yielded ops a.tmps) = true) (h : wpList P ops Q ({ o with guard := none } :: rest) a W) : wpList P ops Q (o :: rest) a W := by
 have h1 : Region.wanted { o with guard := none } (yielded ops a.tmps) = true := rfl
 unfold wpList at h ⊢
 rw [if_pos h1] at h
 rw [if_pos hw]
 exact h
end
end Go.Proofs.YtjonnfmoocijlaaGreatKW.PrintWords
namespace Go.Proofs.YtjonnfmoocijlaaGreatKW.PrintMore
open Go.RowKit Go.Proofs.YtjonnfmoocijlaaGreatKW.PrintWords
namespace Kd
open Go.Proofs.YtjonnfmoocijlaaGreatKW.PrintWords.Kd
end Kd
namespace Kd
open Go.Proofs.YtjonnfmoocijlaaGreatKW.PrintWords.Kd
section
variable {α : Type} {d : Kd α} {e base g N : Nat} {ok : Nat → Prop} {W w1 : World} {u v : Value} {xs : List α}
end
end Kd
theorem zN (k k' : IntKind) (x y : Int) : Builtin.max2 (.int k x) (.int k' y) = pure (.int k (if x < y then y else x)) := by simp only [Builtin.max2,gt_iff_lt]
theorem zP (k k' : IntKind) (x y : Int) : Builtin.min2 (.int k x) (.int k' y) = pure (.int k (if y < x then y else x)) := by simp only [Builtin.min2]
theorem Af (ats : Array TypeId) (ty : TypeId) (a b : Value) : Builtin.max_ ats ty #[a,b] = (Builtin.max2 a b >>= fun s => pure s) := by simp only [Builtin.max_,List.foldlM_cons,List.foldlM_nil]
theorem Ag (ats : Array TypeId) (ty : TypeId) (a b : Value) : Builtin.min_ ats ty #[a,b] = (Builtin.min2 a b >>= fun s => pure s) := by simp only [Builtin.min_,List.foldlM_cons,List.foldlM_nil]
theorem zz (ats : Array TypeId) (ty : TypeId) (a b c : Value) : Builtin.max_ ats ty #[a,b,c] = (Builtin.max2 a b >>= fun s => Builtin.max2 s c >>= fun s => pure s) := by simp only [Builtin.max_,List.foldlM_cons,List.foldlM_nil]
theorem zA (ats : Array TypeId) (ty : TypeId) (a b c : Value) : Builtin.min_ ats ty #[a,b,c] = (Builtin.min2 a b >>= fun s => Builtin.min2 s c >>= fun s => pure s) := by simp only [Builtin.min_,List.foldlM_cons,List.foldlM_nil]
theorem zO (ats : Array TypeId) (ty : TypeId) (a b c d : Value) : Builtin.max_ ats ty #[a,b,c,d] = (Builtin.max2 a b >>= fun s => Builtin.max2 s c >>= fun s => Builtin.max2 s d >>= fun s => pure s) := by simp only [Builtin.max_,List.foldlM_cons,List.foldlM_nil]
theorem zQ (ats : Array TypeId) (ty : TypeId) (a b c d : Value) : Builtin.min_ ats ty #[a,b,c,d] = (Builtin.min2 a b >>= fun s => Builtin.min2 s c >>= fun s => Builtin.min2 s d >>= fun s => pure s) := by simp only [Builtin.min_,List.foldlM_cons,List.foldlM_nil]
end Go.Proofs.YtjonnfmoocijlaaGreatKW.PrintMore
namespace Go.Proofs.YtjonnfmoocijlaaGreatKW.PrintWords
open Go.RowKit
section
variable {P : Program} {ops : Array Oper} {rest : List Oper} {o : Oper} {a : Act} {Q : Exit → Act → World → Prop} {W : World}
theorem yz {f : FuncId} {as : Array Operand} {ts : Array TypeId} (_ho : o.op = .call { callee := .value (.func f),args := as,argTypes := ts }) (h : wpList P ops Q (o :: rest) a W) : wpList P ops Q (o :: rest) a W := h
theorem Bf {b : Builtin} {xs : Array Operand} {ts : Array TypeId} (_ho : o.op = .call { callee := .builtin b,args := xs,argTypes := ts }) (h : wpList P ops Q (o :: rest) a W) : wpList P ops Q (o :: rest) a W := h
end
theorem Sk (w : World) (n : Nat) : w.drewN n = w.drewN n := rfl
namespace Kd
section
variable {α : Type} {d : Kd α} {e base : Nat} {ok : Nat → Prop} {W w1 : World} {v : Value} {xs : List α}
end
section
variable {α : Type} {d : Kd α} {e base g n cap : Nat} {ok oki okp : Nat → Prop} {W : World} {xs : List α} {i : Int} {c : List Value}
end
section
variable {α : Type} {d : Kd α} {e base b b' g N : Nat} {ok ok1 : Nat → Prop} {W W2 w1 : World} {u v : Value} {xs ys : List α} {S : Nat → Prop}
theorem RN (hE : d.E = []) (h : d.R e W base ok1 v xs) (hok : ∀ k,v.ownBlock = some k → ok k) : d.R e W base ok v xs := zf (Gm hE h) (fun k hk => hok k hk.symm)
theorem YC (h : d.R e W base ok v xs) (hk : Kept W W2 S) (hne : ∀ k,ok k → ¬ S k) : d.R e W2 base (fun k => ok k ∧ (¬ S k ∧ k < W.heap.size)) v xs :=
 a1u (zf (DZ h) (fun k hk => ⟨hk.1,hne k hk.1,hk.2.2.1⟩)) hk (fun _ hk => hk.2.1)
end
end Kd
end Go.Proofs.YtjonnfmoocijlaaGreatKW.PrintWords
namespace Go.Proofs.YtjonnfmoocijlaaGreatKW.PrintWords
open Go.RowKit
namespace Kd
def V {α : Type} (d : Kd α) (_e : Nat) (W : World) (_base : Nat) (ok : Nat → Prop) (v : Value) (xs : List α) : Prop := ∃ A c,v = .slice A xs.length c ∧ xs.length ≤ c ∧ F d W ok A xs.length xs
section
variable {α β : Type} {d : Kd α} {e base base' n m c g N' lo hi : Nat} {ok ok' S : Nat → Prop} {w W w1 : World} {A : Option Addr} {ad : Addr} {u v v1 : Value} {xs : List α}
theorem IW (h : V d e W base ok v xs) (hF : ∀ A,F d W ok A xs.length xs → F d w1 ok' A xs.length xs) : V d e w1 base' ok' v xs := by
 obtain ⟨A,c,hv,hl,hf⟩ := h
 exact ⟨A,c,hv,hl,hF A hf⟩
theorem EA (hl : xs.length ≤ c) (hf : F d W ok A xs.length xs) : V d e W base ok (.slice A xs.length c) xs := ⟨A,c,rfl,hl,hf⟩
theorem Ay (h : V d e W base ok v xs) : ∃ A c,v = .slice A xs.length c := by
 obtain ⟨A,c,hv,_⟩ := h
 exact ⟨A,c,hv⟩
theorem YH (h : V d e W base ok (.slice A n c) xs) : n = xs.length ∧ n ≤ c ∧ F d W ok A xs.length xs := by
 obtain ⟨A',c',hv,hl,hf⟩ := h
 injection hv with ha hn hc
 subst ha;subst hc
 exact ⟨hn,by rw [hn];exact hl,hf⟩
theorem zH (h : V d e W base ok (.slice A n c) xs) : n = xs.length ∧ n ≤ c ∧ d.C W A xs.length xs := ⟨(YH h).1,(YH h).2.1,ZC (YH h).2.2⟩
theorem V_F (h : V d e W base ok (.slice A n c) xs) : F d W ok A n xs := by
 obtain ⟨hn,_,hf⟩ := YH h
 rw [hn]
 exact hf
theorem Fp (d : Kd α) (e : Nat) (W : World) (base : Nat) (ok : Nat → Prop) : V d e W base ok (.slice none 0 0) [] := ⟨none,0,rfl,Nat.le_refl _,a3m d W ok⟩
theorem R_V (h : d.R e W base ok v xs) : V d e W base' ok v xs := by
 obtain ⟨A,c,rfl⟩ := zB h
 exact ⟨A,c,rfl,(zb h).2.1,R_F h⟩
theorem S_V (h : Kd.S d e W base ok v xs) : V d e W base' ok v xs := R_V (Ym h)
theorem yL (h : V d e W base ok v xs) (hok : ∀ k,ok k → ok' k) : V d e W base ok' v xs := IW h (fun _ hf => P9 hf hok)
theorem YI (h : V d e W base ok v xs) : V d e W base (fun k => ok k ∧ k < W.heap.size) v xs := IW h (fun _ hf => P8 hf)
theorem Aw (h : V d e W base ok v xs) (_ : base' ≤ base) : V d e W base' ok v xs := h
theorem a1C (h : V d e W base ok v xs) (hm : ∀ k,ok k → k < W.heap.size → w1.heap[k]? = W.heap[k]?) : V d e w1 base ok v xs := IW h (fun _ hf => RF hf hm)
theorem zw (h : V d e W base ok v xs) (hb : Below W.heap.size W w1) : V d e w1 base ok v xs := IW h (fun _ hf => Bq hf hb)
theorem zu (h : V d e W base ok v xs) (o : Obj) : V d e (W.alloc o) base ok v xs := IW h (fun _ hf => Yw hf o)
theorem JR (h : V d e W base ok v xs) : V d e W.drew base ok v xs := IW h (fun _ hf => a1k hf)
theorem Jo (h : V d e W base ok v xs) (m : Nat) : V d e (W.drewN m) base ok v xs := IW h (fun _ hf => Yx hf m)
theorem a1B (h : V d e W base ok v xs) (hk : Kept W w1 S) (hok : ∀ k,ok k → ¬ S k) : V d e w1 base ok v xs := IW h (fun _ hf => a1l hf hk hok)
theorem YG (h : V d e W base (fun k => ok k ∧ some k ≠ u.ownBlock) v xs) (hg : W.grownBy w1 u.ownBlock) (hat : v1.ownBlock = u.ownBlock ∨ ∃ b,v1.ownBlock = some b ∧ W.heap.size ≤ b) : V d e w1 base (fun k => ok k ∧ some k ≠ v1.ownBlock) v xs := IW h (fun _ hf => Yv hf hg hat)
theorem Gx (h : V d e W base (fun k => ok k ∧ some k ≠ v.ownBlock) u xs) (hg : W.grownBy w1 v.ownBlock) (hat : v1.ownBlock = v.ownBlock ∨ ∃ b,v1.ownBlock = some b ∧ W.heap.size ≤ b) : V d e w1 base (fun k => ok k ∧ some k ≠ v1.ownBlock) u xs := YG h hg hat
theorem CO (h : V d e W base ok v xs) (hbase : ∀ k,u.ownBlock = some k → W.heap.size ≤ k) (hb : Below W.heap.size W w1) : V d e w1 base (fun k => ok k ∧ some k ≠ u.ownBlock) v xs := IW h (fun _ hf => Vx hf hbase hb)
theorem zD (h : V d e W base ok v xs) (a : Nat) (ha : W.heap.size ≤ a) : V d e W base (fun k => ok k ∧ k ≠ a) v xs := IW h (fun _ hf => Vy hf a ha)
theorem Tt (h : V d e W base ok v xs) (hk : Kept W w1 S) (hne : ∀ k,ok k → ¬ S k) : V d e w1 base (fun k => ok k ∧ (¬ S k ∧ k < W.heap.size)) v xs :=
 a1B (yL (YI h) (fun k hk => ⟨hk.1,hne k hk.1,hk.2⟩)) hk (fun _ hk => hk.2.1)
theorem a3x (h : V d e W base ok (.slice (some ad) n c) xs) (z : α) (i : Int) (h0 : 0 ≤ i) (h1 : i < n) :
    ∃ cs,cs.length = d.sz ∧ FK d W ok (xs.getD i.toNat z) cs ∧ ∀ j u,cs[j]? = some u → W.cell? (ad.add (i.toNat * d.sz + j)) = some u := by
  obtain ⟨ad',cs,he,hcl,hK,hcc,_⟩ := a3l (V_F h) z i h0 h1
  injection he with he
  subst he
  exact ⟨cs,hcl,hK,hcc⟩
theorem O3 {l : List α} {cs : List Value} (h : FK (Kd.slice e d) W ok l cs) : ∃ A c,cs = [.slice A l.length c] ∧ l.length ≤ c ∧ F d W ok A l.length l := by
 obtain ⟨A,c,rfl,hl,_⟩ := a1j h
 refine ⟨A,c,rfl,hl,fun W' hW => ?_⟩
 obtain ⟨A',c',he,_,g'⟩ := h W' hW
 injection he with he _
 injection he with ha _ _
 rw [ha]
 exact g'
theorem a1A {M : Nat → Prop} (h : Kd.S d e w1 W.heap.size ok v xs) (hle : w.heap.size ≤ W.heap.size) (hM : ∀ k,w.heap.size ≤ k → M k) : Kd.S d e w1 W.heap.size (fun k => M k ∧ ok k) v xs := BI (Kb h) (fun k hk => ⟨hM k (Nat.le_trans hle hk.2.1),hk.1⟩)
end
end Kd
end Go.Proofs.YtjonnfmoocijlaaGreatKW.PrintWords
namespace Go.Proofs.YtjonnfmoocijlaaGreatKW.PrintWords
open Go.RowKit Go.Proofs.YtjonnfmoocijlaaGreatKW.PrintLast
class Bl (W X : World) : Prop where out : Below W.heap.size W X
instance Bl.r (W : World) : Bl W W := ⟨Below.refl _ _⟩
instance Bl.a (W X : World) (o : Obj) [h : Bl W X] : Bl W (X.alloc o) := ⟨Dr h.out o⟩
instance Bl.d (W X : World) [h : Bl W X] : Bl W X.drew := ⟨FJ h.out⟩
instance Bl.n (W X : World) (n : Nat) [h : Bl W X] : Bl W (X.drewN n) := ⟨CJ h.out n⟩
class Pk (X : World) (W : outParam World) : Prop where out : Below W.heap.size W X
instance (priority := low) Pk.r (W : World) : Pk W W := ⟨Below.refl _ _⟩
instance Pk.a (W X : World) (o : Obj) [h : Pk X W] : Pk (X.alloc o) W := ⟨Dr h.out o⟩
instance Pk.d (W X : World) [h : Pk X W] : Pk X.drew W := ⟨FJ h.out⟩
instance Pk.n (W X : World) (n : Nat) [h : Pk X W] : Pk (X.drewN n) W := ⟨CJ h.out n⟩
theorem kp {W X : World} {g : Nat} {o : Obj} [b : Pk X W] (h : W.heap[g]? = some o) : X.heap[g]? = some o := (b.out.block g (Array.getElem?_eq_some_iff.1 h).1).trans h
class Sg (g : Nat) (W X : World) : Prop where out : ∀ k,k ≠ g → k < W.heap.size → X.heap[k]? = W.heap[k]? ∧ k < X.heap.size
instance Sg.r (g : Nat) (W : World) : Sg g W W := ⟨fun _ _ h => ⟨rfl,h⟩⟩
instance Sg.a (g : Nat) (W X : World) (o : Obj) [h : Sg g W X] : Sg g W (X.alloc o) := ⟨fun k hk hl => ⟨(Below.heap_alloc X o k (h.out k hk hl).2).trans (h.out k hk hl).1,by have := (h.out k hk hl).2;simp;omega⟩⟩
instance Sg.d (g : Nat) (W X : World) [h : Sg g W X] : Sg g W X.drew := ⟨h.out⟩
instance Sg.n (g : Nat) (W X : World) (n : Nat) [h : Sg g W X] : Sg g W (X.drewN n) := ⟨h.out⟩
instance Sg.s (g : Nat) (W X : World) (j : Nat) (v : Value) [h : Sg g W X] : Sg g W (X.setCell ⟨g,j,none⟩ v) := ⟨fun k hk hl => ⟨(Below.heap_setCell X ⟨g,j,none⟩ v k hk).trans (h.out k hk hl).1,by have := (h.out k hk hl).2;simpa [World.setCell] using this⟩⟩
section
variable {w W X w1 : World} {g g' : Nat} {o : Obj} {α : Type} {d : Kd α} {e base n : Nat} {ok : Nat → Prop} {v : Value} {xs : List α} {A : Option Addr}
theorem kk (h : yf (W.heap[g]? = some o)) [b : Bl W X] : X.heap[g]? = some o := (b.out.block g (Array.getElem?_eq_some_iff.1 h.out).1).trans h.out
theorem bB (h : yf (W.heap[g]? = some o)) [b : Bl W X] (hb : Below X.heap.size X w1) : yf (w1.heap[g]? = some o) := ⟨yZ (kk h) hb⟩
theorem Cq (h : yf (W.heap[g]? = some o)) [b : Bl W X] (hg : g' = X.heap.size) : yf (g ≠ g') := ⟨by rw [hg];exact Nat.ne_of_lt (ED (kk h))⟩
theorem Aq (h : yf (W.heap[g]? = some o)) [b : Bl W X] (hg : g' = X.heap.size) : yf (g' ≠ g) := ⟨by rw [hg];exact Nat.ne_of_gt (ED (kk h))⟩
theorem kR (h : yf (Kd.R d e W base ok v xs)) [b : Bl W X] : Kd.R d e X base ok v xs := Kd.Cj h.out b.out
theorem kS (h : yf (Kd.S d e W base ok v xs)) [b : Bl W X] : Kd.S d e X base ok v xs := Kd.Fj h.out b.out
theorem kV (h : yf (Kd.V d e W base ok v xs)) [b : Bl W X] : Kd.V d e X base ok v xs := Kd.zw h.out b.out
theorem CR (h : yf (Kd.R d e W base ok v xs)) [b : Bl W X] (hb : Below X.heap.size X w1) : yf (Kd.R d e w1 base ok v xs) := ⟨Kd.Cj (kR h) hb⟩
theorem Lj (h : yf (Kd.S d e W base ok v xs)) [b : Bl W X] (hb : Below X.heap.size X w1) : yf (Kd.S d e w1 base ok v xs) := ⟨Kd.Fj (kS h) hb⟩
theorem MH (h : yf (Kd.V d e W base ok v xs)) [b : Bl W X] (hb : Below X.heap.size X w1) : yf (Kd.V d e w1 base ok v xs) := ⟨Kd.zw (kV h) hb⟩
theorem CU (h : yf (Kd.C d w A n xs)) [b : yf (Below w.heap.size w X)] : Kd.C d X A n xs := Kd.CE h.out b.out
theorem Jq {c : Nat} (h : yf (Kd.R d e W base ok (.slice A n c) xs)) [b : Bl W X] : Kd.C d X A xs.length xs := Kd.CE (Kd.zb h.out).2.2 b.out
theorem QV {c : Nat} (h : yf (Kd.S d e W base ok (.slice A n c) xs)) [b : Bl W X] : Kd.C d X A xs.length xs := Kd.CE (Kd.Cb h.out).2.2 b.out
theorem MI {c : Nat} (h : yf (Kd.V d e W base ok (.slice A n c) xs)) [b : Bl W X] : Kd.C d X A xs.length xs := Kd.CE (Kd.zH h.out).2.2 b.out
theorem GG {g : Nat} [s : Sg g W X] (h : Kd.R d e W base ok v xs) (hok : ∀ k,ok k → k ≠ g) : Kd.R d e X base ok v xs := Kd.JP h (fun k ho hl => (s.out k (hok k ho) hl).1)
theorem MG {g : Nat} [s : Sg g W X] (h : Kd.S d e W base ok v xs) (hok : ∀ k,ok k → k ≠ g) : Kd.S d e X base ok v xs := Kd.Pj h (fun k ho hl => (s.out k (hok k ho) hl).1)
theorem EB {g : Nat} [s : Sg g W X] (h : Kd.V d e W base ok v xs) (hok : ∀ k,ok k → k ≠ g) : Kd.V d e X base ok v xs := Kd.a1C h (fun k ho hl => (s.out k (hok k ho) hl).1)
instance a6N (w X : World) (o : Obj) [h : yf (Below w.heap.size w X)] : yf (Below w.heap.size w (X.alloc o)) := ⟨Dr h.out o⟩
instance a6O (w X : World) [h : yf (Below w.heap.size w X)] : yf (Below w.heap.size w X.drew) := ⟨zt h.out⟩
instance a6P (w X : World) (n : Nat) [h : yf (Below w.heap.size w X)] : yf (Below w.heap.size w (X.drewN n)) := ⟨CJ h.out n⟩
instance a6Q (w X : World) (g j : Nat) (v : Value) [h : yf (Below w.heap.size w X)] [k : yf (w.heap.size ≤ g)] : yf (Below w.heap.size w (X.setCell ⟨g,j,none⟩ v)) := ⟨Dw h.out k.out⟩
theorem bO (HB : yf (Below w.heap.size w W)) [h : yf (Below w.heap.size w X)] : Below w.heap.size w X := h.out
theorem bS (HB : yf (Below w.heap.size w W)) [h : yf (Below w.heap.size w X)] (hb : Below X.heap.size X w1) : yf (Below w.heap.size w w1) := ⟨RQ h.out hb⟩
theorem bG [h : yf (Below w.heap.size w X)] (hg : g = X.heap.size) : yf (w.heap.size ≤ g) := ⟨by rw [hg];exact yF h.out⟩
theorem bf {c : Array Value} {t : Nat} (h : yf (W.heap[g]? = some (.cells c t (0,0)))) : ∀ j,W.frozen? ⟨g,j,none⟩ = false := fun j => zy h.out j
theorem bc1 {a : Value} {t : Nat} (h : yf (W.heap[g]? = some (.cells #[a] t (0,0)))) : W.cell? ⟨g,0,none⟩ = some a := (yx h.out 0).trans rfl
theorem bc2 {a0 a1 : Value} {t : Nat} (h : yf (W.heap[g]? = some (.cells #[a0,a1] t (0,0)))) : W.cell? ⟨g,0,none⟩ = some a0 ∧ W.cell? ⟨g,1,none⟩ = some a1 := ⟨(yx h.out 0).trans rfl,(yx h.out 1).trans rfl⟩
theorem AO {a0 a1 a2 a3 : Value} {t : Nat} (h : yf (W.heap[g]? = some (.cells #[a0,a1,a2,a3] t (0,0)))) : W.cell? ⟨g,0,none⟩ = some a0 ∧ W.cell? ⟨g,1,none⟩ = some a1 ∧ W.cell? ⟨g,2,none⟩ = some a2 ∧ W.cell? ⟨g,3,none⟩ = some a3 := ⟨(yx h.out 0).trans rfl,(yx h.out 1).trans rfl,(yx h.out 2).trans rfl,(yx h.out 3).trans rfl⟩
theorem Fy {a0 a1 a2 a3 a4 a5 a6 : Value} {t : Nat} (h : yf (W.heap[g]? = some (.cells #[a0,a1,a2,a3,a4,a5,a6] t (0,0)))) : W.cell? ⟨g,0,none⟩ = some a0 ∧ W.cell? ⟨g,1,none⟩ = some a1 ∧ W.cell? ⟨g,2,none⟩ = some a2 ∧ W.cell? ⟨g,3,none⟩ = some a3 ∧ W.cell? ⟨g,4,none⟩ = some a4 ∧ W.cell? ⟨g,5,none⟩ = some a5 ∧ W.cell? ⟨g,6,none⟩ = some a6 := ⟨(yx h.out 0).trans rfl,(yx h.out 1).trans rfl,(yx h.out 2).trans rfl,(yx h.out 3).trans rfl,(yx h.out 4).trans rfl,(yx h.out 5).trans rfl,(yx h.out 6).trans rfl⟩
theorem E9 {a0 a1 a2 a3 a4 a5 a6 a7 a8 a9 a10 : Value} {t : Nat} (h : yf (W.heap[g]? = some (.cells #[a0,a1,a2,a3,a4,a5,a6,a7,a8,a9,a10] t (0,0)))) : W.cell? ⟨g,0,none⟩ = some a0 ∧ W.cell? ⟨g,1,none⟩ = some a1 ∧ W.cell? ⟨g,2,none⟩ = some a2 ∧ W.cell? ⟨g,3,none⟩ = some a3 ∧ W.cell? ⟨g,4,none⟩ = some a4 ∧ W.cell? ⟨g,5,none⟩ = some a5 ∧ W.cell? ⟨g,6,none⟩ = some a6 ∧ W.cell? ⟨g,7,none⟩ = some a7 ∧ W.cell? ⟨g,8,none⟩ = some a8 ∧ W.cell? ⟨g,9,none⟩ = some a9 ∧ W.cell? ⟨g,10,none⟩ = some a10 := ⟨(yx h.out 0).trans rfl,(yx h.out 1).trans rfl,(yx h.out 2).trans rfl,(yx h.out 3).trans rfl,(yx h.out 4).trans rfl,(yx h.out 5).trans rfl,(yx h.out 6).trans rfl,(yx h.out 7).trans rfl,(yx h.out 8).trans rfl,(yx h.out 9).trans rfl,(yx h.out 10).trans rfl⟩
end
theorem pz : (∀ (a : Act) (d : Nat) (v : Value),a.put (some d) v = { a with tmps := a.tmps.setIfInBounds d v }) ∧ (∀ (l : List Value) (i : Nat) (v : Value),l.toArray.setIfInBounds i v = (l.set i v).toArray) ∧ (∀ (x v : Value) (l : List Value),(x :: l).set 0 v = v :: l) ∧ (∀ (x v : Value) (l : List Value) (n : Nat),(x :: l).set (n + 1) v = x :: l.set n v) ∧ (∀ x : Int,IntKind.i64.wrap x = wrap64 x) ∧ (∀ x : Int,IntKind.i32.wrap x = wrap32 x) :=
 ⟨fun _ _ _ => rfl,fun _ _ _ => List.setIfInBounds_toArray ..,fun _ _ _ => rfl,fun _ _ _ _ => rfl,fun _ => i64_w _,fun _ => i32_w _⟩
section
variable {P : Program} {md : Region.Mode} {ops : Array Oper} {Q : Exit → Act → World → Prop} {S : World → Prop} {ds : List Nat} {T : Bool × List (List Nat × List Nat)} {B : List Nat} {oi : Oper} {v : Value} {fuel : Nat} {l : Array Bool} {a a' : Act} {w : World}
def bz (n m : Nat) : Array Bool := ((List.range n).map fun i => m.testBit i).toArray
theorem pU (i d n m : Nat) (hT : yf (Dv md ops = T)) (h : Aa P md ops Q S ds fuel (bz n m) a' w) (hi : ops[i]? = some oi := by rfl) (hN : oi.dst = some d := by rfl) (hc : YK T l.toList (bz n m).toList i = true := by kernel_rfl) (hQ : ∀ c a w,Q (.panic c) (a.put oi.dst v) w → Q (.panic c) a w := by exact fun _ _ _ h => h)
 (hw : Region.wanted oi (yielded ops a.tmps) = true := by rfl) (hv : ∀ w,(execOp a.eval oi).run P w = .ok (.value v) w := by intro;go_simp;with_reducible rfl) (ha : a.put (some d) v = a' := by simp only [pz];rfl) : Aa P md ops Q S ds (fuel + 1) l a w := KM (bz n m) hi hN (VF hT.out hc) hQ (.inl ⟨hw,hv⟩) ha h
theorem pN (i d n m : Nat) (hT : yf (Dv md ops = T)) (h : Aa P md ops Q S ds fuel (bz n m) a' w) (hi : ops[i]? = some oi := by rfl) (hN : oi.dst = some d := by rfl) (hc : YK T l.toList (bz n m).toList i = true := by kernel_rfl) (hQ : ∀ c a w,Q (.panic c) (a.put oi.dst undef) w → Q (.panic c) a w := by exact fun _ _ _ h => h)
 (hw : Region.wanted oi (yielded ops a.tmps) = false := by rfl) (ha : a.put (some d) undef = a' := by simp only [pz];rfl) : Aa P md ops Q S ds (fuel + 1) l a w := KM (bz n m) hi hN (VF hT.out hc) hQ (.inr ⟨hw,rfl⟩) ha h
theorem pT (i d n m : Nat) (hT : yf (Dv md ops = T)) (hB : yf (BH T.2 B = true)) (hH : S w) (h : Aa P md ops Q S ds fuel (bz n m) a' w) (hi : ops[i]? = some oi := by rfl) (hN : oi.dst = some d := by rfl) (hc : Uq T B ds l.toList (bz n m).toList i = true := by kernel_rfl) (hQ : ∀ c a w,Q (.panic c) (a.put oi.dst v) w → Q (.panic c) a w := by exact fun _ _ _ h => h)
 (hw : Region.wanted oi (yielded ops a.tmps) = true := by rfl) (hv : ∀ w,S w → (execOp a.eval oi).run P w = .ok (.value v) w) (ha : a.put (some d) v = a' := by simp only [pz];rfl) : Aa P md ops Q S ds (fuel + 1) l a w := Rj (bz n m) hi hN (Rk hT.out hB.out hc) hQ (.inl ⟨hw,hv⟩) hH ha h
end
theorem pm : (∀ (f : Operand → Value) (l : List Operand),l.toArray.map f = (l.map f).toArray) ∧ (∀ (f : Operand → Value) (x : Operand) (l : List Operand),(x :: l).map f = f x :: l.map f) ∧ (∀ f : Operand → Value,([] : List Operand).map f = []) := ⟨fun _ _ => by simp,fun _ _ _ => rfl,fun _ => rfl⟩
theorem SE {P : Program} {ops : Array Oper} {Q : Exit → Act → World → Prop} {oi : Oper} {N : Option Tmp} {a : Act} {w : World} {K : Act → World → Prop} {f : FuncId} {fn : Func} {x : Operand} {as : Array Operand} {ts : Array TypeId} (hf : P.funcs[f]? = some fn) (hname : (fn.name == "runtime.NumGoroutine") = false) (hb : fn.body.isSome = true) (args : Array Value)
    (hw : Region.wanted oi (yielded ops a.tmps) = true) (hN : oi.dst = N) (hop : oi.op = .call { callee := .value x,args := as,argTypes := ts }) (hargs : as.map a.eval = args)
    (h : Calls P f args w fun e w' => ∃ v,e = .returned v ∧ K (a.put N v) w') (hx : a.eval x = .func (.func f) #[] #[] := by rfl) : if Region.wanted oi (yielded ops a.tmps) = true then Oper.wp P oi a w K Q else K (a.put N undef) w := by
  refine call_ f args hw hN ?_ h
  have he := Py hf hname hb args w
  unfold execOp
  simp [hop,hx,resolve,Deferred.ofValue,invoke,hargs,he]
end Go.Proofs.YtjonnfmoocijlaaGreatKW.PrintWords
