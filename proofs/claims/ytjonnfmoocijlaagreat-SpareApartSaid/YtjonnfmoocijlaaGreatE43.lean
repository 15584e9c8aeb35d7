/- Texts of a claim, packed. -/
import Derived.Test.YtjonnfmoocijlaaGreatE42
set_option linter.all false
namespace Go.Proofs.YtjonnfmoocijlaaGreat.P
open Go.RowKit Go.Lib Go.Sort Go.Proofs.YtjonnfmoocijlaaGreatKW.PrintWords Go.Proofs.YtjonnfmoocijlaaGreatKW.PrintLast Go.Proofs.YtjonnfmoocijlaaGreatKW.PrintMore
abbrev Mb := Ff
instance : Inhabited Mb := ⟨⟨0,0⟩⟩
def Lc (x : Mb) : List Value := [.int .i64 x.f0,.int .i64 x.f1]
def EZ (l : List Mb) : List Value := l.flatMap Lc
def J6 (x y : Mb) : Int := if x.f0 < y.f0 then -1 else if x.f0 > y.f0 then 1 else 0
theorem ltB (x y : Mb) : ltOf J6 x y = decide (x.f0 < y.f0) := by
 unfold ltOf J6
 by_cases h1 : x.f0 < y.f0
 · simp [h1]
 · by_cases h2 : y.f0 < x.f0 <;> simp [h1,h2]
theorem a5j : SWO (ltOf J6) where
 irrefl x := by rw [ltB];simp
 trans x y z h1 h2 := by rw [ltB] at *;simp at *;omega
 ntrans x y z h1 h2 := by rw [ltB] at *;simp at *;omega
set_option maxHeartbeats 1000000 in
theorem a3B (x y : Mb) (W : World) : Calls Tryz.prog 27 #[.agg #[.int .i64 x.f0,.int .i64 x.f1],.agg #[.int .i64 y.f0,.int .i64 y.f1]] W fun e w' => e = .returned (.int .i64 (J6 x y)) ∧ ∃ q os',w' = grow (W.drewN q) os' := by
 have hcon : ∀ W',Calls Tryz.prog 28 #[.int .i64 x.f0,.int .i64 y.f0] W' fun e w' => e = .returned (.int .i64 (J6 x y)) ∧ ∃ n,w' = W'.drewN n := fun W' =>
  (cmp_Compare_int.calls x.f0 y.f0 (J6 x y) W' (by
   simp only [cmp_Compare_int.f,cmp_isNaN_int.f,Option.bind_some,bne_self_eq_false]
   rw [if_neg (by decide),if_neg (by decide)]
   unfold J6
   split
   · rfl
   · split <;> rfl)).mono fun _ _ ⟨he,hd⟩ => ⟨he,hd.out⟩
 generalize J6 x y = r at hcon ⊢
 go_enter Tryz.func27,Tryz.ntmps27
 go_wp2_with (go_at_call 28;refine (hcon _).mono ?_;rintro e w' ⟨rfl,n,rfl⟩)
 go_ret
 exact ⟨rfl,_,_,by rw [alloc_eq_grow,alloc_eq_grow,grow_grow];rfl⟩
theorem Wj (blk off size : Nat) (w : World) : CmpLays Tryz.prog 27 #[] Lc 2 J6 blk off size w := fun _ _ _ _ x y => a3B x y _
theorem JU (x : Mb) (l : List Mb) : EZ (x :: l) = Lc x ++ EZ l := List.flatMap_cons
theorem FN (l : List Mb) : (EZ l).length = l.length * 2 := by
 induction l with
 | nil => rfl
 | cons x l ih => rw [JU,List.length_append,ih];simp [Lc];omega
theorem UG (l : List Mb) : ∀ t,t < l.length * 2 → (EZ l)[t]! = (Lc l[t / 2]!)[t % 2]! := by
 induction l with
 | nil => intro t h;simp at h
 | cons x l ih =>
  intro t h
  rw [JU]
  match t,h with
  | 0,_ => rfl
  | 1,_ => rfl
  | t + 2,h =>
   have h2 := ih t (by simp at h;omega)
   have e1 : (t + 2) / 2 = t / 2 + 1 := by omega
   have e2 : (t + 2) % 2 = t % 2 := by omega
   rw [e1,e2]
   have e3 : (Lc x ++ EZ l)[t + 2]! = (EZ l)[t]! := by
    simp [Lc]
   rw [e3,h2]
   simp
theorem a02 (l : List Mb) : flatK Lc 2 l.toArray = (EZ l).toArray := by
 refine ext_get! (by simp [FN]) fun t ht => ?_
 have ht' : t < l.length * 2 := by simpa using ht
 rw [get_flatK _ _ _ t (by simpa using ht')]
 have := UG l t ht'
 simpa using this.symm
theorem a5i {w : World} {base : Nat} {ok : Nat → Prop} {l : List Mb} {cs : List Value} (h : BQ (NJ.M w base ok) 2 l cs) : cs = EZ l := by
 induction l generalizing cs with
 | nil => exact List.eq_nil_of_length_eq_zero (by rw [h.1];simp)
 | cons x l ih =>
  have h0 := UT (h.2 0 x rfl)
  rw [Nat.zero_mul,List.drop_zero] at h0
  have h1 : cs.drop 2 = EZ l := ih ⟨by rw [List.length_drop,h.1];simp;omega,fun j p hj => by
   have := h.2 (j + 1) p (by simpa using hj)
   rw [List.drop_drop,show 2 + j * 2 = (j + 1) * 2 by omega]
   exact this⟩
  rw [← List.take_append_drop 2 cs,h0,h1]
  rfl
theorem Sl (l : List Mb) (n : Nat) : EZ (l.drop n) = (EZ l).drop (n * 2) := by
 induction l generalizing n with
 | nil => simp [EZ]
 | cons x l ih =>
  cases n with
  | zero => simp [EZ]
  | succ n =>
   rw [List.drop_succ_cons,JU,ih,Nat.succ_mul,List.drop_append,show (Lc x).length = 2 from rfl,Nat.add_sub_cancel,List.drop_of_length_le (l := Lc x) (by show 2 ≤ n * 2 + 2;omega),List.nil_append]
theorem UH (w : World) (base : Nat) (ok : Nat → Prop) (l : List Mb) : BQ (NJ.M w base ok) 2 l (EZ l) := by
 refine ⟨FN l,fun j p hj => ?_⟩
 obtain ⟨hl,rfl⟩ := List.getElem?_eq_some_iff.1 hj
 rw [← Sl,List.drop_eq_getElem_cons hl]
 exact MF w base ok _
theorem Uy {w : World} {base : Nat} {ok : Nat → Prop} {u : Value} {l : List Mb} (h : Kd.R NJ 45 w base ok u l) :
    (u = .slice none 0 0 ∧ l = []) ∨ ∃ g cap cur,u = .slice (some ⟨g,0,none⟩) l.length cap ∧ ok g ∧ base ≤ g ∧ w.heap[g]? = some (.cells cur 45 (0,0)) ∧ l.length ≤ cap ∧ cap ≤ maxLen ∧ cur.size = cap * 2 ∧ cur.toList.take (l.length * 2) = EZ l := by
  obtain ⟨h0,inner,ho,hr⟩ := h
  have hin := a5i hr
  subst hin
  rcases ho.2 with ⟨rfl,hn⟩ | ⟨g,cap,cur,rfl,hb,hh,h1,h2,h3,h4⟩
  · exact .inl ⟨rfl,List.eq_nil_of_length_eq_zero hn⟩
  · exact .inr ⟨g,cap,cur,rfl,h0 g rfl,hb,hh,h1,h2,h3,h4⟩
theorem YO {w : World} {base : Nat} {ok : Nat → Prop} {l : List Mb} {g cap : Nat} {cur : Array Value} (hok : ok g) (hb : base ≤ g) (hh : w.heap[g]? = some (.cells cur 45 (0,0))) (h1 : l.length ≤ cap) (h2 : cap ≤ maxLen) (h3 : cur.size = cap * 2)
    (h4 : cur.toList.take (l.length * 2) = EZ l) : Kd.R NJ 45 w base ok (.slice (some ⟨g,0,none⟩) l.length cap) l :=
  ⟨fun k hk => by simp [Value.ownBlock] at hk;subst hk;exact hok,EZ l,⟨FN l,.inr ⟨g,cap,cur,rfl,hb,hh,h1,h2,h3,h4⟩⟩,UH w base _ l⟩
theorem brow_holds {w : World} {g : Nat} {cur : Array Value} {l : List Mb} (hh : w.heap[g]? = some (.cells cur 45 (0,0))) (hl : l.length * 2 ≤ cur.size) (h4 : cur.toList.take (l.length * 2) = EZ l) : HoldsK Lc 2 w g 0 l.toArray := by
 intro j hj
 rw [a02] at hj ⊢
 have hj' : j < l.length * 2 := by simpa [FN] using hj
 refine ⟨?_,zy hh _⟩
 rw [Nat.zero_add,yx hh j,Array.getElem?_eq_getElem (by omega)]
 have h5 := congrArg (fun x => x[j]?) h4
 simp only [List.getElem?_take,if_pos hj',Array.getElem?_toList] at h5
 rw [Array.getElem?_eq_getElem (by omega)] at h5
 rw [h5,List.getElem?_eq_getElem (by rw [FN];exact hj')]
 rw [getElem!_pos _ j hj]
 simp
theorem R4 (vs : List Value) (cur : Array Value) (hd : vs.length ≤ cur.size) : (putCells id 0 vs.toArray cur).toList.take vs.length = vs := by
  apply List.ext_getElem?
  intro i
  rw [List.getElem?_take]
  by_cases hi : i < vs.length
  · rw [if_pos hi,Array.getElem?_toList,putCells,Array.getElem?_mapIdx,Array.getElem?_eq_getElem (by omega),Option.map_some,if_pos ⟨Nat.zero_le _,by simp;omega⟩,List.getElem?_eq_getElem hi]
    simp only [Nat.sub_zero,id]
    rw [getElem!_pos _ i (by simpa using hi)]
    simp
  · rw [if_neg hi,List.getElem?_eq_none (by omega)]
def Cx.f (l : List Mb) : Option (List Mb) := if l.length < 4611686018427387904 then some (pdq (ltOf J6) l.toArray 0 l.length (Lib.bitLen l.length) true true).toList else none
theorem K3 (l : List Mb) : (pdq (ltOf J6) l.toArray 0 l.length (Lib.bitLen l.length) true true).toList.Perm l ∧ (pdq (ltOf J6) l.toArray 0 l.length (Lib.bitLen l.length) true true).toList.Pairwise fun a b => a.f0 ≤ b.f0 := by
  have h := pdq_sorts (ltOf J6) a5j l.toArray 0 l.length (Lib.bitLen l.length) true true (Nat.zero_le _) (by simp) (Or.inl rfl)
  generalize pdq (ltOf J6) l.toArray 0 l.length (Lib.bitLen l.length) true true = D at h ⊢
  obtain ⟨⟨h1,h2,h3⟩,h4⟩ := h
  have hs : D.size = l.length := by simpa using h1
  refine ⟨?_,?_⟩
  · rw [← hs] at h3
    have e1 : D.extract 0 D.size = D := by simp
    have e2 : (l.toArray.extract 0 D.size).toList = l := by rw [hs];simp
    rwa [e1,e2] at h3
  · rw [List.pairwise_iff_getElem]
    intro i j hi hj hij
    have hi' : i < D.size := by simpa using hi
    have hj' : j < D.size := by simpa using hj
    have := h4 i j (Nat.zero_le _) hij (by omega)
    rw [ltB,getElem!_pos _ i hi',getElem!_pos _ j hj',decide_eq_false_iff_not] at this
    simp only [Array.getElem_toList]
    omega
theorem Cx.calls (Ig : Nat → Prop) (EK : Value) (l0 : List Mb) (r : List Mb) (w0 w : World) (hB : Below w0.heap.size w0 w) (ho0 : Kd.R NJ 45 w w0.heap.size Ig EK l0) (h : Cx.f l0 = some r) :
    Calls Tryz.prog 26 #[EK,.func (.func 27) #[] #[]] w fun e w' => e = .returned (.tuple #[]) ∧ Kd.R NJ 45 w' w0.heap.size (fun k_ => (Ig k_ ∨ w.heap.size ≤ k_)) EK r ∧ Below w0.heap.size w0 w' ∧ Kept w w' (fun k_ => Ig k_) := by
  unfold Cx.f at h
  split at h
  · rename_i hlen
    obtain rfl := Option.some.inj h
    have eg : ∀ args w,(callFunc 27 args).run Tryz.prog w = .ok (.enter 27 args) w := enters_of Tryz.func27 (by kernel_rfl) rfl
    have hsp := K3 l0
    rcases Uy ho0 with ⟨rfl,rfl⟩ | ⟨g,cap,cur,rfl,hP,hb,hh,h1,h2,h3,h4⟩
    · have hcon := AnyF.slices_SortFunc_none Tryz.He none 0 (.func (.func 27) #[] #[]) w
      change Calls Tryz.prog 26 _ _ _ at hcon
      refine hcon.mono ?_
      rintro e w' ⟨rfl,rfl⟩
      have he := List.perm_nil.1 hsp.1
      rw [he]
      exact ⟨rfl,Kd.Dc _ _ _ _ _,hB,Nat.le_refl _,fun _ _ _ => rfl⟩
    · have hg : g < w.heap.size := (Array.getElem?_eq_some_iff.1 hh).1
      have hcon := AnyQ.slices_SortFunc_eq Tryz.He 2 Tryz.isAgg45 Tryz.sizeOf45 Lc (fun _ => rfl) (fun x v hv => by simp [Lc] at hv;rcases hv with rfl | rfl <;> rfl) J6 a5j 27 #[] g 0 cap l0.toArray w eg (Wj g 0 _ w) (brow_holds hh (by omega) h4) hg (by simpa using hlen)
      change Calls Tryz.prog 26 _ _ _ at hcon
      have hsz : l0.toArray.size = l0.length := by simp
      rw [hsz] at hcon
      refine hcon.mono ?_
      rintro e W ⟨rfl,n,os,hW⟩
      generalize hd : (pdq (ltOf J6) l0.toArray 0 l0.length (Lib.bitLen l0.length) true true) = d at hW hsp ⊢
      obtain ⟨dl,rfl⟩ : ∃ dl : List Mb,d = dl.toArray := ⟨d.toList,by simp⟩
      have hdl : dl.length = l0.length := by simpa using hsp.1.length_eq
      unfold sortWorldK putRowK at hW
      rw [a02] at hW
      have hkeep : ∀ k,k < w.heap.size → k ≠ g → W.heap[k]? = w.heap[k]? := by
        intro k hk hne
        rw [hW]
        simp only [grow]
        rw [Array.getElem?_append_left (by simpa [putRow,mapBlock] using hk)]
        simp only [putRow,mapBlock,Array.getElem?_modify]
        rw [if_neg (fun e => hne e.symm)]
        rfl
      have hsize : w.heap.size ≤ W.heap.size := by rw [hW];simp [grow,putRow,mapBlock]
      have hat : W.heap[g]? = some (.cells (putCells id 0 (EZ dl).toArray cur) 45 (0,0)) := by
        rw [hW]
        simp only [grow]
        rw [Array.getElem?_append_left (by simpa [putRow,mapBlock] using hg)]
        simp only [putRow,mapBlock,Array.getElem?_modify,if_true]
        have hh' : (Sort.ahead w n).heap[g]? = some (.cells cur 45 (0,0)) := hh
        rw [hh',Option.map_some]
        rfl
      have hle : (EZ dl).length = l0.length * 2 := by rw [FN,hdl]
      have hR := YO (w := W) (base := w0.heap.size) (ok := fun k_ => (Ig k_ ∨ w.heap.size ≤ k_)) (l := dl) (cap := cap) (.inl hP) hb hat (by omega) h2 (by simp [putCells];exact h3) (by
        have := R4 (EZ dl) cur (by omega)
        rwa [FN] at this)
      rw [hdl] at hR
      refine ⟨rfl,by simpa using hR,⟨?_,?_,?_,Nat.le_trans hB.size hsize,fun k hk => (hkeep k (Nat.lt_of_lt_of_le hk hB.size) (by omega)).trans (hB.block k hk)⟩,hsize,?_⟩
      · rw [hW];exact hB.os
      · rw [hW];exact hB.tape
      · rw [hW];exact hB.output
      · intro k hk hnP
        exact hkeep k hk (fun e => hnP (e ▸ hP))
  · exact absurd h (by simp)
end Go.Proofs.YtjonnfmoocijlaaGreat.P
