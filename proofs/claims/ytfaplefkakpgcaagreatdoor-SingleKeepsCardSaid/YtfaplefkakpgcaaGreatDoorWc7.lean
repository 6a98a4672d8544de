/- A region that draws its order, whose first n operations are quiet in a class of worlds and whose last ones come in one order: one walk in the order of the text serves. (The library has this for one world and, without a tail, for a class of worlds; this joins the two.) -/
import Derived.Test.YtfaplefkakpgcaaGreatDoorWc1
import Derived.StillTail
namespace Go.Proofs.YtfaplefkakpgcaaGreatDoor
set_option linter.unusedVariables false
set_option linter.unusedSimpArgs false
open Go.RowKit
section
variable {P : Program} {ops : Array Oper} {md : Region.Mode} {C : World → Prop}
def headQ (P : Program) (md : Region.Mode) (ops : Array Oper) (C : World → Prop) (n : Nat) (L : Array Bool → Act → Prop) : Nat → Array Bool → Act → Prop
 | 0, s, a => L s a
 | f + 1, s, a => Region.ready md ops s ≠ [] ∧ ∀ i ∈ Region.ready md ops s, i < n ∧ qOp P ops C i (headQ P md ops C n L f (s.setIfInBounds i true)) a
theorem any_of_headQ {n g : Nat} {L : Array Bool → Act → Prop} {Q : Exit → Act → World → Prop} (hL : ∀ s a w, C w → L s a → wpAny P md ops Q g s a w) :
  ∀ (f : Nat) (s : Array Bool) (a : Act) (w : World), C w → headQ P md ops C n L f s a → wpAny P md ops Q (f + g) s a w := by
 intro f
 induction f with
 | zero => intro s a w hw h; rw [Nat.zero_add]; exact hL s a w hw h
 | succ f ih =>
  intro s a w hw h
  rw [show f + 1 + g = (f + g) + 1 by omega]
  exact ⟨fun h0 => absurd h0 h.1, fun i hi => wpOp_of_qOp hw (fun a' w' hw' h' => ih _ a' w' hw' h') (h.2 i hi).2⟩
theorem headQ_first {n i : Nat} {oi : Oper} {v : Value} {L : Array Bool → Act → Prop} (hi : ops[i]? = some oi) (hsel : ∀ (j : Nat) (o : Oper) cs b, ops[j]? = some o → o.op ≠ .select cs b)
  (hs : Region.sinkB md ops n = true) (hc : Region.chainB md ops n = true) (hn : n < ops.size) (hin : i < n)
  (hdone : ∀ s a, L s a → ∀ j ∈ Region.ready md ops s, n ≤ j) :
  ∀ (f : Nat) (s : Array Bool) (a : Act), HeadInv md ops n s →
   (∀ j oj, ops[j]? = some oj → j ≠ i → s.getD j true = false → (∀ e ∈ oj.after, Region.binds md e = true → e.on ≠ i) → oi.apart ops oj = true) →
   i ∈ Region.ready md ops s → YieldsIn P ops C oi v a →
   headQ P md ops C n L f (s.setIfInBounds i true) (a.put oi.dst v) → headQ P md ops C n L (f + 1) s a := by
 intro f
 induction f with
 | zero =>
  intro s a inv _ hr hy H
  have hun := (mem_ready.1 hr).1
  refine ⟨List.ne_nil_of_mem hr, fun j hj => ?_⟩
  have hjn : j < n := Nat.lt_of_not_le fun h => absurd hj (tail_waits hs hc hn inv _ i rfl hin hun j h)
  refine ⟨hjn, ?_⟩
  by_cases hji : j = i
  ·subst hji; exact hy.qOp hi H
  ·have := hdone _ _ H j (ready_mono hj hji)
   omega
 | succ f ih =>
  intro s a inv hfree hr hy H
  have hun := (mem_ready.1 hr).1
  refine ⟨List.ne_nil_of_mem hr, fun j hj => ?_⟩
  have hjn : j < n := Nat.lt_of_not_le fun h => absurd hj (tail_waits hs hc hn inv _ i rfl hin hun j h)
  refine ⟨hjn, ?_⟩
  by_cases hji : j = i
  ·subst hji; exact hy.qOp hi H
  ·obtain ⟨hjun, oj, hoj, hall⟩ := mem_ready.1 hj
   have hnot : ∀ e ∈ oj.after, Region.binds md e = true → e.on ≠ i := fun e he hb heq => by
    have h1 := hall e he hb
    rw [heq, getD_both hun] at h1
    cases h1
   have h2 := qOp_put hoj (hfree j oj hoj hji hjun hnot) (fun cs b => hsel i oi cs b hi) (fun cs b => hsel j oj cs b hoj) hy (H.2 j (ready_mono hj hji)).2
   refine qOp_mono (fun a' h3 => ih (s.setIfInBounds j true) a' (inv.set hj hjn) (fun k ok hk hki hu hno => hfree k ok hk hki ?_ hno) (ready_mono hr (Ne.symm hji)) h3.1 ?_) h2
   ·by_cases hjk : j = k
    ·subst hjk; exact hjun
    ·rw [getD_set_ne true hjk] at hu; exact hu
   ·rw [Array.setIfInBounds_comm _ _ hji]; exact h3.2
theorem headQ_lex {n g : Nat} {Lq : Act → Prop} (hsel : Region.noSelect ops = true) (hs : Region.sinkB md ops n = true) (hc : Region.chainB md ops n = true) (hn : n < ops.size) :
  ∀ (l : List Oper) (k : Nat) (s : Array Bool) (a : Act), (∀ j, j < l.length → l[j]? = ops[k + j]?) → k + l.length = n → HeadInv md ops n s →
  Region.lexHead md ops g l.length k s = true → wpQuiet P ops C Lq l a →
  headQ P md ops C n (fun s' a' => Region.seqB md ops g n s' = true ∧ Lq a') l.length s a := by
 intro l
 induction l with
 | nil =>
  intro k s a _ hk _ hB h
  obtain rfl : k = n := by simpa using hk
  exact ⟨by simpa [Region.lexHead] using hB, h⟩
 | cons o l ih =>
  intro k s a hl hk inv hB h
  have h0 : ops[k]? = some o := by simpa using (hl 0 (by simp)).symm
  simp only [List.length_cons, Region.lexHead, Bool.and_eq_true] at hB
  obtain ⟨⟨hr, hf⟩, hB'⟩ := hB
  have hkn : k < n := by simp only [List.length_cons] at hk; omega
  have hr' : k ∈ Region.ready md ops s := by simpa using hr
  have hst : qOp P ops C k (wpQuiet P ops C Lq l) a := by unfold qOp; simp only [h0]; exact h
  obtain ⟨v, hy, hK⟩ := yieldsIn_of_qOp h0 hst
  exact headQ_first h0 (Region.noSelect_spec hsel) hs hc hn hkn (fun s' a' hL => seqB_ready hL.1) l.length s a inv (Region.free_spec h0 hf) hr' hy
   (ih (k + 1) _ _ (fun j hj => by have := hl (j + 1) (by simp; omega); simpa [Nat.add_assoc, Nat.add_comm 1 j] using this) (by simp only [List.length_cons] at hk; omega) (inv.set hr' hkn) hB' hK)
theorem any_quiet_tail {Q : Exit → Act → World → Prop} {a : Act} {w : World} {l : List Oper} (n : Nat) (hB : Region.lexTailB .any l.toArray n = true)
  (hC : C { w with drawn := w.drawn + 1 }) (h : wpQuiet P l.toArray C (fun a' => ∀ w', C w' → wpList P l.toArray Q (l.drop n) a' w') (l.take n) a) :
  wpAny P .any l.toArray Q l.toArray.size (Array.replicate l.toArray.size false) a { w with drawn := w.drawn + 1 } := by
 simp only [Region.lexTailB, Bool.and_eq_true, decide_eq_true_eq] at hB
 obtain ⟨⟨⟨⟨hsel, hn⟩, hs⟩, hc⟩, hlex⟩ := hB
 have hn' : n < l.length := by simpa using hn
 have htl : (l.take n).length = n := by simp; omega
 have hdl : (l.drop n).length = l.toArray.size - n := by simp
 have inv0 : HeadInv .any l.toArray n (Array.replicate l.toArray.size false) :=
  ⟨by simp, fun j oj _ hl => (by rw [getD_replicate_false] at hl; cases hl), fun t _ ht => getD_in (by simpa using ht) (getD_replicate_false _ _)⟩
 have H := headQ_lex (md := .any) (g := l.toArray.size - n) hsel hs hc hn (l.take n) 0 _ a (fun j hj => by
  have hj' : j < n := by rw [htl] at hj; exact hj
  simp [hj']) (by simpa using htl) inv0 (by rw [htl]; exact hlex) h
 have key := any_of_headQ (Q := Q) (g := l.toArray.size - n) (fun s a' w' hw' hL => by
  have := wpAny_of_seq (md := .any) (Q' := Q) (l.drop n) n s a' w' (fun j => by simp [List.getElem?_drop]) (by rw [hdl]; exact hL.1) (hL.2 w' hw')
  rwa [hdl] at this) _ _ _ _ hC H
 rw [htl, show n + (l.toArray.size - n) = l.toArray.size by omega] at key
 exact key
theorem wp_region_quiet_tail {id : Nat} {Q : Exit → Act → World → Prop} {a : Act} {w : World} {l : List Oper} (n : Nat) (hm : P.follows .mixedOrders = true) (hB : Region.lexTailB .any l.toArray n = true)
  (hC : C { w with drawn := w.drawn + 1 }) (h : wpQuiet P l.toArray C (fun a' => ∀ w', C w' → wpList P l.toArray Q (l.drop n) a' w') (l.take n) a) : (Code.region id l.toArray true).wp P Q a w :=
 wp_region_any hm (any_quiet_tail n hB hC h)
end
theorem wp_region_later_tail {P : Program} {id : Nat} {Q : Exit → Act → World → Prop} {a : Act} {w : World} {l : List Oper} (n : Nat) (hm : P.follows .mixedOrders = true) (hB : Region.lexTailB .any l.toArray n = true)
  (h : wpQuiet P l.toArray (fun w' => ∃ x : Later w, w' = x.now) (fun a' => ∀ w', (∃ x : Later w, w' = x.now) → wpList P l.toArray Q (l.drop n) a' w') (l.take n) a) : (Code.region id l.toArray true).wp P Q a w :=
 wp_region_quiet_tail n hm hB ⟨⟨_, (Ext.refl w).drew⟩, rfl⟩ h
end Go.Proofs.YtfaplefkakpgcaaGreatDoor
/- A region that draws its order: all head operations but the last one yield one value from every later world and let the world only grow; the last head operation (an alloc, a literal in memory, a call that hands back new memory) may come at any time: of what it yields a lasting property is known; then comes a forced tail. One walk in the order of the text serves. -/
namespace Go.Proofs.YtfaplefkakpgcaaGreatDoor
set_option linter.unusedVariables false
set_option linter.unusedSimpArgs false
open Go.RowKit
section
variable {P : Program} {ops : Array Oper} {md : Region.Mode} {w0 : World} {V : World → Value → Prop}
def cls (w0 : World) (S : World → Prop) (w : World) : Prop := Ext w0 w ∧ S w
def looseUpon (P : Program) (V : World → Value → Prop) (w : World) : Result Next → Prop
 | .ok (.value u) w' => Ext w w' ∧ V w' u
 | .ok (.enter f args) w' => w' = w ∧ Calls P f args w (fun e w'' => ∃ u, e = .returned u ∧ Ext w w'' ∧ V w'' u)
 | _ => False
def looseAt (P : Program) (o : Oper) (a : Act) (w0 : World) (V : World → Value → Prop) : Prop := ∀ x : Later w0, looseUpon P V x.now ((execOp a.eval o).run P x.now)
def pend (P : Program) (md : Region.Mode) (ops : Array Oper) (w0 : World) (V : World → Value → Prop) (n : Nat) (o0 : Oper) (L : Value → Array Bool → Act → Prop) : Nat → Array Bool → Act → Prop
 | 0, _, _ => False
 | f + 1, s, a => Region.ready md ops s ≠ [] ∧ ∀ i ∈ Region.ready md ops s, i < n ∧
   (i + 1 = n → looseAt P o0 a w0 V ∧ ∀ u, headQ P md ops (cls w0 (fun w => V w u)) n (L u) f (s.setIfInBounds i true) (a.put o0.dst u)) ∧
   (i + 1 ≠ n → qOp P ops (cls w0 fun _ => True) i (pend P md ops w0 V n o0 L f (s.setIfInBounds i true)) a)
end
end Go.Proofs.YtfaplefkakpgcaaGreatDoor
/- A region that draws its order, many of whose operations make memory: of what each head operation leaves a lasting property V k is known, shown from the properties of those alone for which it waits; then comes a forced tail. So whatever the order, all properties hold behind the head. -/
namespace Go.Proofs.YtfaplefkakpgcaaGreatDoor
set_option linter.unusedVariables false
set_option linter.unusedSimpArgs false
open Go.RowKit
section
variable {P : Program} {ops : Array Oper}
def webUpon (P : Program) (V : World → Value → Prop) (w : World) : Result Next → Prop
 | .ok (.value u) w' => Ext w w' ∧ V w' u
 | .ok .skip w' => Ext w w' ∧ V w' undef
 | .ok (.enter f args) w' => Calls P f args w' (fun e w'' => ∃ u, e = .returned u ∧ Ext w w'' ∧ V w'' u)
 | .ok (.row row args) w' => Rows P row args w' (fun u w'' => Ext w w'' ∧ V w'' u)
 | _ => False
def webStep (P : Program) (ops : Array Oper) (V : World → Value → Prop) (o : Oper) (a : Act) (w : World) : Prop :=
 if Region.wanted o (yielded ops a.tmps) then webUpon P V w ((execOp a.eval o).run P w) else V w undef
def putsF (us : Nat → Value) (f : Nat → Bool) : Nat → List Oper → Act → Act
 | _, [], a => a
 | i, o :: r, a => putsF us f (i + 1) r (if f i then a.put o.dst (us i) else a)
def putsL (us : Nat → Value) : Nat → List Oper → Act → Act
 | _, [], a => a
 | i, o :: r, a => putsL us (i + 1) r (a.put o.dst (us i))
theorem putsF_all {us : Nat → Value} {f : Nat → Bool} : ∀ (l : List Oper) (i : Nat) (a : Act), (∀ j, i ≤ j → j < i + l.length → f j = true) → putsF us f i l a = putsL us i l a
 | [], _, _, _ => rfl
 | o :: r, i, a, h => by
  rw [putsF, putsL, if_pos (h i (Nat.le_refl _) (by simp))]
  exact putsF_all r (i + 1) _ (fun j h1 h2 => h j (by omega) (by simp; omega))
theorem putsF_none {us : Nat → Value} {f : Nat → Bool} : ∀ (l : List Oper) (i : Nat) (a : Act), (∀ j, i ≤ j → j < i + l.length → f j = false) → putsF us f i l a = a
 | [], _, _, _ => rfl
 | o :: r, i, a, h => by
  rw [putsF, h i (Nat.le_refl _) (by simp), if_neg (by simp)]
  exact putsF_none r (i + 1) _ (fun j h1 h2 => h j (by omega) (by simp; omega))
theorem putsF_congr {us us' : Nat → Value} {f f' : Nat → Bool} : ∀ (l : List Oper) (i : Nat) (a : Act), (∀ j, i ≤ j → f j = f' j ∧ us j = us' j) → putsF us f i l a = putsF us' f' i l a
 | [], _, _, _ => rfl
 | o :: r, i, a, h => by
  rw [putsF, putsF, (h i (Nat.le_refl _)).1, (h i (Nat.le_refl _)).2]
  exact putsF_congr r (i + 1) _ (fun j h1 => h j (by omega))
theorem putsF_put {us : Nat → Value} {f : Nat → Bool} {d : Option Tmp} {u : Value} : ∀ (l : List Oper) (i : Nat) (a : Act), (∀ o ∈ l, ∀ t, d = some t → o.dst ≠ some t) → putsF us f i l (a.put d u) = (putsF us f i l a).put d u
 | [], _, _, _ => rfl
 | o :: r, i, a, h => by
  rw [putsF, putsF]
  have ih := fun b => putsF_put (us := us) (f := f) (u := u) r (i + 1) b (fun o' h' => h o' (by simp [h']))
  split
  ·rw [Act.put_comm a u (us i) (h o (by simp)), ih]
  ·rw [ih]
theorem putsF_take {us : Nat → Value} : ∀ (l : List Oper) (i k : Nat) (a : Act), putsF us (fun j => decide (j < i + k)) i l a = putsL us i (l.take k) a
 | [], _, _, _ => by simp [putsF, putsL]
 | o :: r, i, 0, a => by
  rw [putsF_none _ _ _ (fun j h1 h2 => by simpa using h1)]; rfl
 | o :: r, i, k + 1, a => by
  rw [putsF, List.take_succ_cons, putsL, if_pos (by simp), ← putsF_take r (i + 1) k]
  rw [show i + 1 + k = i + (k + 1) by omega]
theorem putsF_looks {us : Nat → Value} {f g : Nat → Bool} {L : List Tmp} : ∀ (l : List Oper) (i : Nat) (a b : Act), a.tmps.size = b.tmps.size → (∀ t ∈ L, a.tmps[t]? = b.tmps[t]?) →
  (∀ j o, l[j]? = some o → ∀ d, o.dst = some d → d ∈ L → f (i + j) = g (i + j)) → ∀ t ∈ L, (putsF us f i l a).tmps[t]? = (putsF us g i l b).tmps[t]?
 | [], _, a, b, _, h, _ => h
 | o :: r, i, a, b, hs, h, hf => by
  have hone : ∀ (a b : Act), a.tmps.size = b.tmps.size → (∀ t ∈ L, a.tmps[t]? = b.tmps[t]?) → ∀ u, (a.put o.dst u).tmps.size = (b.put o.dst u).tmps.size ∧ ∀ t ∈ L, (a.put o.dst u).tmps[t]? = (b.put o.dst u).tmps[t]? := fun a b hs h u => by
   cases hd : o.dst with
   | none => exact ⟨hs, h⟩
   | some d =>
    refine ⟨by simp [Act.put, hs], fun t ht => ?_⟩
    simp only [Act.put, Array.getElem?_setIfInBounds, hs]
    split
    ·rfl
    ·exact h t ht
  have hno : ∀ (a : Act), (∀ d, o.dst = some d → d ∉ L) → ∀ u, (a.put o.dst u).tmps.size = a.tmps.size ∧ ∀ t ∈ L, (a.put o.dst u).tmps[t]? = a.tmps[t]? := fun a hn u => by
   cases hd : o.dst with
   | none => exact ⟨rfl, fun _ _ => rfl⟩
   | some d =>
    refine ⟨by simp [Act.put], fun t ht => ?_⟩
    have : d ≠ t := fun e => hn d hd (e ▸ ht)
    simp [Act.put, Array.getElem?_setIfInBounds_ne this]
  rw [putsF, putsF]
  refine putsF_looks r (i + 1) _ _ ?_ ?_ (fun j o' hj d hd hL => by rw [show i + 1 + j = i + (j + 1) by omega]; exact hf (j + 1) o' (by simpa using hj) d hd hL)
  all_goals
   by_cases hL : ∀ d, o.dst = some d → d ∉ L
  ·have ha := hno a hL (us i)
   have hb := hno b hL (us i)
   split <;> split <;> simp only [ha, hb, hs]
  ·have e : f i = g i := by
    simp only [Classical.not_forall, Classical.not_not] at hL
    obtain ⟨d, hd, hdL⟩ := hL
    exact hf 0 o rfl d hd hdL
   rw [e]
   split
   ·exact (hone a b hs h _).1
   ·exact hs
  ·have ha := hno a hL (us i)
   have hb := hno b hL (us i)
   intro t ht
   split <;> split <;> simp only [ha.2 t ht, hb.2 t ht, h t ht]
  ·have e : f i = g i := by
    simp only [Classical.not_forall, Classical.not_not] at hL
    obtain ⟨d, hd, hdL⟩ := hL
    exact hf 0 o rfl d hd hdL
   rw [e]
   split
   ·exact (hone a b hs h _).2
   ·exact h
theorem step_looks {V : World → Value → Prop} {o : Oper} (hs : ∀ cs b, o.op ≠ .select cs b) {a b : Act} (h : ∀ t ∈ o.looksAt ops, a.tmps[t]? = b.tmps[t]?) :
  execOp a.eval o = execOp b.eval o ∧ Region.wanted o (yielded ops a.tmps) = Region.wanted o (yielded ops b.tmps) := by
 constructor
 ·refine execOp_congr o hs fun x hx => ?_
  cases x with
  | tmp t =>
   have := h t (List.mem_append_left _ (List.mem_filterMap.2 ⟨.tmp t, by simpa using hx, rfl⟩))
   simp [Act.eval, this]
  | _ => rfl
 ·unfold Region.wanted
  cases hg : o.guard with
  | none => rfl
  | some gw =>
   obtain ⟨g, want⟩ := gw
   have hy : yielded ops a.tmps g = yielded ops b.tmps g := by
    unfold yielded
    cases ht : (ops[g]?).bind (·.dst) with
    | none => rfl
    | some t =>
     have := h t (by simp [Oper.looksAt, hg, ht])
     simp [this]
   simp only [hy]
def left (s : Array Bool) : Nat → Nat
 | 0 => 0
 | n + 1 => left s n + if s.getD n true then 0 else 1
theorem left_set {s : Array Bool} {k : Nat} (hk : s.getD k true = false) : ∀ n, left (s.setIfInBounds k true) n + (if k < n then 1 else 0) = left s n
 | 0 => by simp [left]
 | n + 1 => by
  have ih := left_set hk n
  rw [left, left]
  by_cases e : k = n
  ·subst e
   have hlt : k < s.size := by
    refine Nat.lt_of_not_le fun h => ?_
    simp [Array.getElem?_eq_none h] at hk
   have h1 : (s.setIfInBounds k true).getD k true = true := by simp [hlt]
   rw [h1, hk]
   simp at ih ⊢
   omega
  ·rw [getD_set_ne true e]
   have : (k < n + 1) = (k < n) := by rw [eq_iff_iff]; omega
   simp only [this]; omega
theorem left_zero {s : Array Bool} : ∀ n, left s n = 0 → ∀ j, j < n → s.getD j true = true
 | 0, _, j, hj => by omega
 | n + 1, h, j, hj => by
  rw [left] at h
  by_cases e : j = n
  ·subst e
   cases hs : s.getD j true with
   | true => rfl
   | false => rw [hs] at h; simp at h
  ·exact left_zero n (by omega) j (by omega)
theorem left_some {s : Array Bool} : ∀ n, left s n ≠ 0 → ∃ j, j < n ∧ s.getD j true = false ∧ ∀ i, i < j → s.getD i true = true
 | 0, h => absurd rfl h
 | n + 1, h => by
  by_cases e : left s n = 0
  ·refine ⟨n, by omega, ?_, left_zero n e⟩
   rw [left, e] at h
   cases hs : s.getD n true with
   | false => rfl
   | true => rw [hs] at h; simp at h
  ·obtain ⟨j, h1, h2⟩ := left_some n e
   exact ⟨j, by omega, h2⟩
def webB (ops : Array Oper) (n : Nat) (D : List (List Nat)) : Bool :=
 Region.noSelect ops && (decide (n = ops.size) || decide (n < ops.size) && Region.sinkB .any ops n && Region.chainB .any ops n) &&
 Region.seqB .any ops (ops.size - n) n ((Array.replicate ops.size false).mapIdx fun i _ => decide (i < n)) &&
 (List.range n).all fun k => ((ops[k]?).map fun o =>
  (o.after.all fun e => !Region.binds .any e || decide (e.on < k)) &&
  ((D.getD k []).all fun d => decide (d < k) && Region.waitsFor .any ops k d) &&
  ((List.range n).all fun j => ((ops[j]?).map fun p => match p.dst with
    | none => true
    | some d => (decide (j = k) || o.dst != some d) && (!(o.looksAt ops).contains d || (D.getD k []).contains j)).getD false)).getD false
structure WebOk (ops : Array Oper) (n : Nat) (D : List (List Nat)) : Prop where
 sel : Region.noSelect ops = true
 size : n ≤ ops.size
 tail : n < ops.size → Region.sinkB .any ops n = true ∧ Region.chainB .any ops n = true
 seq : Region.seqB .any ops (ops.size - n) n ((Array.replicate ops.size false).mapIdx fun i _ => decide (i < n)) = true
 back : ∀ k o, k < n → ops[k]? = some o → ∀ e ∈ o.after, Region.binds .any e = true → e.on < k
 deps : ∀ k o, k < n → ops[k]? = some o → ∀ d ∈ D.getD k [], d < k ∧ Region.waitsFor .any ops k d = true
 dsts : ∀ k o, k < n → ops[k]? = some o → ∀ j p, j < n → ops[j]? = some p → j ≠ k → ∀ d, p.dst = some d → o.dst ≠ some d
 looks : ∀ k o, k < n → ops[k]? = some o → ∀ j p, j < n → ops[j]? = some p → ∀ d, p.dst = some d → d ∈ o.looksAt ops → j ∈ D.getD k []
theorem webOk {n : Nat} {D : List (List Nat)} (h : webB ops n D = true) : WebOk ops n D := by
 unfold webB at h
 rw [Bool.and_eq_true, Bool.and_eq_true, Bool.and_eq_true] at h
 obtain ⟨⟨⟨h1, h2⟩, h3⟩, h4⟩ := h
 rw [Bool.or_eq_true, Bool.and_eq_true, Bool.and_eq_true] at h2
 have hk : ∀ k o, k < n → ops[k]? = some o → (o.after.all fun e => !Region.binds .any e || decide (e.on < k)) = true ∧ ((D.getD k []).all fun d => decide (d < k) && Region.waitsFor .any ops k d) = true ∧
   ((List.range n).all fun j => ((ops[j]?).map fun p => match p.dst with
   | none => true
   | some d => (decide (j = k) || o.dst != some d) && (!(o.looksAt ops).contains d || (D.getD k []).contains j)).getD false) = true := fun k o hkn ho => by
  have := List.all_eq_true.1 h4 k (List.mem_range.2 hkn)
  rw [ho] at this
  simp only [Option.map_some, Option.getD_some, Bool.and_eq_true] at this
  exact ⟨this.1.1, this.1.2, this.2⟩
 refine ⟨h1, ?_, fun hn => ?_, h3, fun k o hkn ho e he hb => ?_, fun k o hkn ho d hd => ?_, fun k o hkn ho j p hjn hp hne d hd hod => ?_, fun k o hkn ho j p hjn hp d hd hL => ?_⟩
 ·rcases h2 with h2 | h2
  ·have := of_decide_eq_true h2; omega
  ·have := of_decide_eq_true h2.1.1; omega
 ·rcases h2 with h2 | h2
  ·have := of_decide_eq_true h2; omega
  ·exact ⟨h2.1.2, h2.2⟩
 ·have h5 := (hk k o hkn ho).1
  rw [Array.all_eq_true_iff_forall_mem] at h5
  have := h5 e he
  rw [hb] at this
  simpa using this
 ·have := List.all_eq_true.1 (hk k o hkn ho).2.1 d hd
  rw [Bool.and_eq_true] at this
  exact ⟨of_decide_eq_true this.1, this.2⟩
 ·have := List.all_eq_true.1 (hk k o hkn ho).2.2 j (List.mem_range.2 hjn)
  rw [hp] at this
  simp only [Option.map_some, Option.getD_some, hd, Bool.and_eq_true, Bool.or_eq_true, decide_eq_true_eq, bne_iff_ne] at this
  exact (this.1.resolve_left hne) hod
 ·have := List.all_eq_true.1 (hk k o hkn ho).2.2 j (List.mem_range.2 hjn)
  rw [hp] at this
  simp only [Option.map_some, Option.getD_some, hd, Bool.and_eq_true, Bool.or_eq_true, Bool.not_eq_true', List.contains_iff_mem] at this
  rcases this.2 with h6 | h6
  ·have h7 : (o.looksAt ops).contains d = true := List.contains_iff_mem.2 hL
   rw [h6] at h7; cases h7
  ·exact h6
theorem putsF_set {us us' : Nat → Value} {f f' : Nat → Bool} {k : Nat} {o : Oper} (hfk : f k = false) (hfk' : f' k = true) (hne : ∀ j, j ≠ k → f' j = f j ∧ us' j = us j) :
  ∀ (l : List Oper) (i : Nat) (a : Act), i ≤ k → l[k - i]? = some o → (∀ j p, l[j]? = some p → i + j ≠ k → ∀ t, o.dst = some t → p.dst ≠ some t) → putsF us' f' i l a = (putsF us f i l a).put o.dst (us' k)
 | [], i, a, _, h, _ => by simp at h
 | p :: r, i, a, hi, h, hd => by
  rw [putsF, putsF]
  by_cases e : i = k
  ·subst e
   have ho : p = o := by simpa using h
   subst ho
   rw [hfk, hfk', if_pos rfl, if_neg (by simp)]
   rw [putsF_congr (us := us') (us' := us) (f := f') (f' := f) r (i + 1) _ (fun j hj => hne j (by omega))]
   exact putsF_put r (i + 1) a (fun q hq t ht => by
    obtain ⟨j, hj, hjq⟩ := List.mem_iff_getElem.1 hq
    exact hd (j + 1) q (by simp [hj, hjq]) (by omega) t ht)
  ·rw [(hne i e).1, (hne i e).2]
   exact putsF_set hfk hfk' hne r (i + 1) _ (by omega) (by rw [show k - i = (k - (i + 1)) + 1 by omega] at h; simpa using h)
    (fun j q hj hne' t ht => hd (j + 1) q (by simpa using hj) (by omega) t ht)
theorem wp_of_web {o : Oper} {a : Act} {V : World → Value → Prop} {K : Act → World → Prop} {Q : Exit → Act → World → Prop} {w : World} (h : webUpon P V w ((execOp a.eval o).run P w))
  (hk : ∀ u w', Ext w w' → V w' u → K (a.put o.dst u) w') : o.wp P a w K Q := by
 unfold Oper.wp
 generalize (execOp a.eval o).run P w = r at *
 cases r with
 | ok n w' =>
  cases n <;> simp only [webUpon] at h <;> simp only [Oper.upon]
  case value u => exact hk _ _ h.1 h.2
  case skip => exact hk _ _ h.1 h.2
  case enter f args =>
   exact h.mono fun e w'' ⟨u, he, hx, hv⟩ => by subst he; exact hk _ _ hx hv
  case row row args => exact h.mono fun u w'' ⟨hx, hv⟩ => hk _ _ hx hv
 | halt x w' => simp only [webUpon] at h
theorem any_of_web {Q : Exit → Act → World → Prop} {a : Act} {w0 : World} {l : List Oper} {n : Nat} {D : List (List Nat)} {V : Nat → World → Value → Prop} (hok : WebOk l.toArray n D)
  (hV : ∀ k w w' u, k < n → Ext w w' → V k w u → V k w' u)
  (hstep : ∀ k o, k < n → l[k]? = some o → ∀ us w', Ext w0 w' → (∀ d ∈ D.getD k [], V d w' (us d)) → webStep P l.toArray (V k) o (putsL us 0 (l.take k) a) w')
  (htail : ∀ us w', Ext w0 w' → (∀ k, k < n → V k w' (us k)) → wpList P l.toArray Q (l.drop n) (putsL us 0 (l.take n) a) w') :
  ∀ (f : Nat) (s : Array Bool) (w : World) (us : Nat → Value), left s n = f → HeadInv .any l.toArray n s → Ext w0 w → (∀ j, j < n → s.getD j true = true → V j w (us j)) →
   wpAny P .any l.toArray Q (f + (l.length - n)) s (putsF us (fun j => s.getD j true) 0 (l.take n) a) w := by
 have hnl : n ≤ l.length := by simpa using hok.size
 have htl : (l.take n).length = n := by simp; omega
 intro f
 induction f with
 | zero =>
  intro s w us hl inv hx hv
  have hall := left_zero n hl
  have hsz : s.size = l.length := by simpa using inv.size
  rw [putsF_all _ _ _ (fun j _ h2 => hall j (by omega)), Nat.zero_add]
  have hs : s = (Array.replicate l.toArray.size false).mapIdx fun i _ => decide (i < n) := by
   apply Array.ext
   ·simp [hsz]
   ·intro i h1 h2
    simp only [Array.getElem_mapIdx]
    by_cases e : i < n
    ·have := hall i e
     simp [h1] at this
     simp [e, this]
    ·have := inv.tail i (by omega) (by simpa [hsz] using h1)
     simp [h1] at this
     simp [e, this]
  have := wpAny_of_seq (P := P) (md := .any) (ops := l.toArray) (Q' := Q) (l.drop n) n s (putsL us 0 (l.take n) a) w (fun j => by simp [List.getElem?_drop]) (by rw [hs, List.length_drop]; simpa using hok.seq) (htail us w hx (fun k hk => hv k hk (hall k hk)))
  rwa [List.length_drop] at this
 | succ f ih =>
  intro s w us hl inv hx hv
  obtain ⟨j, hjn, hj, hjl⟩ := left_some (s := s) n (by omega)
  have hsz : s.size = l.length := by simpa using inv.size
  have hdone : ∀ i, i < l.length → s.getD i true = true → s.getD i false = true := fun i hi h => by
   have : i < s.size := by omega
   simp [this] at h ⊢; exact h
  have hjr : j ∈ Region.ready .any l.toArray s := mem_ready.2 ⟨hj, l[j]'(by omega), by simp [show j < l.length by omega], fun e he hb => by
   have hlt := hok.back j _ hjn (by simp [show j < l.length by omega]) e he hb
   exact hdone _ (by omega) (hjl _ hlt)⟩
  rw [show f + 1 + (l.length - n) = (f + (l.length - n)) + 1 by omega]
  refine ⟨fun h0 => (by rw [h0] at hjr; cases hjr), fun i hi => ?_⟩
  obtain ⟨hiu, o, ho, hall⟩ := mem_ready.1 hi
  have hil : i < l.length := by have := (Array.getElem?_eq_some_iff.1 ho).1; simpa using this
  have hin : i < n := by
   refine Nat.lt_of_not_le fun h => ?_
   have hlt : n < l.toArray.size := by simp; omega
   exact tail_waits (hok.tail hlt).1 (hok.tail hlt).2 hlt inv _ j rfl hjn hj i h hi
  have hol : l[i]? = some o := by simpa using ho
  have hdeps : ∀ d ∈ D.getD i [], d < i ∧ s.getD d true = true := fun d hd => by
   obtain ⟨h1, h2⟩ := hok.deps i o hin ho d hd
   obtain ⟨o', ho', e, he, hb, hon⟩ := Region.waitsFor_spec h2
   have : o' = o := Option.some.inj (ho'.symm.trans ho)
   subst this
   have h3 := hall e he hb
   rw [hon] at h3
   have hds : d < s.size := by omega
   refine ⟨h1, ?_⟩
   simp [hds] at h3 ⊢; exact h3
  have hst := hstep i o hin hol us w hx (fun d hd => hv d (by have := (hdeps d hd).1; omega) (hdeps d hd).2)
  have hlk : ∀ t ∈ o.looksAt l.toArray, (putsF us (fun j => s.getD j true) 0 (l.take n) a).tmps[t]? = (putsL us 0 (l.take i) a).tmps[t]? := by
   have e1 : putsL us 0 (l.take i) a = putsF us (fun j => decide (j < 0 + i)) 0 (l.take n) a := by
    rw [putsF_take, List.take_take, Nat.min_eq_left (by omega)]
   rw [e1]
   refine putsF_looks (l.take n) 0 a a rfl (fun _ _ => rfl) (fun j' p hj' d hd hL => ?_)
   have hj'n : j' < n := by have := (List.getElem?_eq_some_iff.1 hj').1; simp at this; omega
   have hp : l.toArray[j']? = some p := by
    rw [List.getElem?_take, if_pos hj'n] at hj'
    simpa using hj'
   have hD := hdeps j' (hok.looks i o hin ho j' p hj'n hp d hd hL)
   rw [Nat.zero_add, hD.2]
   simp [hD.1]
  obtain ⟨hex, hwa⟩ := step_looks (V := V i) (ops := l.toArray) (Region.noSelect_spec hok.sel i o · · ho) hlk
  have next : ∀ u w', Ext w w' → V i w' u → wpAny P .any l.toArray Q (f + (l.length - n)) (s.setIfInBounds i true) ((putsF us (fun j => s.getD j true) 0 (l.take n) a).put o.dst u) w' := fun u w' hxx hvu => by
   have hset := putsF_set (us := us) (us' := fun j => if j = i then u else us j) (f := fun j => s.getD j true) (f' := fun j => (s.setIfInBounds i true).getD j true) (k := i) (o := o) hiu (by simp [hsz, hil]) (fun j hj => ⟨getD_set_ne true (Ne.symm hj), by simp [hj]⟩) (l.take n) 0 a (by omega)
    (by rw [Nat.sub_zero, List.getElem?_take, if_pos hin]; exact hol) (fun j' p hj' hne t ht hpt => by
     have hj'n : j' < n := by have := (List.getElem?_eq_some_iff.1 hj').1; simp at this; omega
     have hp : l.toArray[j']? = some p := by
      rw [List.getElem?_take, if_pos hj'n] at hj'
      simpa using hj'
     exact hok.dsts i o hin ho j' p hj'n hp (by omega) t hpt ht)
   simp only [if_true] at hset
   rw [← hset]
   refine ih _ _ _ ?_ (inv.set hi hin) (hx.trans hxx) (fun j' hj' hd => ?_)
   ·have := left_set hiu n
    rw [if_pos hin] at this
    omega
   ·by_cases e : j' = i
    ·subst e; simp only [if_true]; exact hvu
    ·rw [getD_set_ne true (Ne.symm e)] at hd
     simp only [e, if_false]
     exact hV j' w w' _ hj' hxx (hv j' hj' hd)
  unfold wpOp
  simp only [ho]
  unfold webStep at hst
  rw [← hwa, ← hex] at hst
  split
  ·rename_i hw
   rw [if_pos hw] at hst
   exact .inl (wp_of_web hst next)
  ·rename_i hw
   rw [if_neg hw] at hst
   exact next undef w (Ext.refl w) hst
theorem wp_region_web {id : Nat} {Q : Exit → Act → World → Prop} {a : Act} {w : World} {l : List Oper} (n : Nat) (D : List (List Nat)) (V : Nat → World → Value → Prop) (hm : P.follows .mixedOrders = true) (hB : webB l.toArray n D = true)
  (hV : ∀ k w w' u, k < n → Ext w w' → V k w u → V k w' u)
  (hstep : ∀ k o, k < n → l[k]? = some o → ∀ us w', Ext w w' → (∀ d ∈ D.getD k [], V d w' (us d)) → webStep P l.toArray (V k) o (putsL us 0 (l.take k) a) w')
  (htail : ∀ us w', Ext w w' → (∀ k, k < n → V k w' (us k)) → wpList P l.toArray Q (l.drop n) (putsL us 0 (l.take n) a) w') : (Code.region id l.toArray true).wp P Q a w := by
 have hok := webOk hB
 refine wp_region_any hm ?_
 have inv0 : HeadInv .any l.toArray n (Array.replicate l.toArray.size false) :=
  ⟨by simp, fun j oj _ hl => (by rw [getD_replicate_false] at hl; cases hl), fun t _ ht => getD_in (by simpa using ht) (getD_replicate_false _ _)⟩
 have hnl : n ≤ l.length := by simpa using hok.size
 have hnone : ∀ j, j < n → (Array.replicate l.toArray.size false).getD j true = false := fun j hj => getD_in (by simp; omega) (getD_replicate_false _ _)
 have hl : left (Array.replicate l.toArray.size false) n = n := by
  have : ∀ m, m ≤ n → left (Array.replicate l.toArray.size false) m = m := fun m => by
   induction m with
   | zero => intro _; rfl
   | succ m ih => intro h; rw [left, ih (by omega), hnone m (by omega)]; rfl
  exact this n (Nat.le_refl _)
 have key := any_of_web (Q := Q) (a := a) (w0 := w) hok hV hstep htail n _ { w with drawn := w.drawn + 1 } (fun _ => undef) hl inv0 ((Ext.refl w).drew) (fun j hj hd => by rw [hnone j hj] at hd; cases hd)
 rw [putsF_none _ _ _ (fun j _ h2 => hnone j (by simp at h2; omega))] at key
 rw [show n + (l.length - n) = l.toArray.size by simp; omega] at key
 exact key
def webWalk (P : Program) (ops : Array Oper) (w0 : World) (V : Nat → World → Value → Prop) (D : List (List Nat)) (T : Act → Prop) (us : Nat → Value) : Nat → List Oper → Act → Prop
 | _, [], a => T a
 | k, o :: r, a => (∀ w', Ext w0 w' → (∀ d ∈ D.getD k [], V d w' (us d)) → webStep P ops (V k) o a w') ∧ webWalk P ops w0 V D T us (k + 1) r (a.put o.dst (us k))
theorem webWalk_parts {w0 : World} {V : Nat → World → Value → Prop} {D : List (List Nat)} {T : Act → Prop} {us : Nat → Value} : ∀ (l : List Oper) (k : Nat) (a : Act), webWalk P ops w0 V D T us k l a →
  (∀ j o, l[j]? = some o → ∀ w', Ext w0 w' → (∀ d ∈ D.getD (k + j) [], V d w' (us d)) → webStep P ops (V (k + j)) o (putsL us k (l.take j) a) w') ∧ T (putsL us k l a)
 | [], _, _, h => ⟨fun j o hj => by simp at hj, h⟩
 | o :: r, k, a, h => by
  obtain ⟨h1, h2⟩ := webWalk_parts r (k + 1) _ h.2
  refine ⟨fun j o' hj => ?_, h2⟩
  cases j with
  | zero =>
   have : o = o' := by simpa using hj
   subst this
   exact h.1
  | succ j =>
   have := h1 j o' (by simpa using hj)
   rw [show k + 1 + j = k + (j + 1) by omega] at this
   exact this
theorem wp_region_web' {id : Nat} {Q : Exit → Act → World → Prop} {a : Act} {w : World} {l : List Oper} (n : Nat) (D : List (List Nat)) (V : Nat → World → Value → Prop) (hm : P.follows .mixedOrders = true) (hB : webB l.toArray n D = true)
  (hV : ∀ k w w' u, Ext w w' → V k w u → V k w' u)
  (h : ∀ us, webWalk P l.toArray w V D (fun a' => ∀ w', Ext w w' → (∀ k, k < n → V k w' (us k)) → wpList P l.toArray Q (l.drop n) a' w') us 0 (l.take n) a) : (Code.region id l.toArray true).wp P Q a w := by
 refine wp_region_web n D V hm hB (fun k w w' u _ => hV k w w' u) (fun k o hk ho us w' hx hd => ?_) (fun us w' hx hv => (webWalk_parts _ _ _ (h us)).2 w' hx hv)
 have := (webWalk_parts _ _ _ (h us)).1 k o (by rw [List.getElem?_take, if_pos hk]; exact ho) w' hx (by rw [Nat.zero_add]; exact hd)
 rw [Nat.zero_add, List.take_take, Nat.min_eq_left (by omega)] at this
 exact this
theorem web_of_list {V : World → Value → Prop} {o : Oper} {a : Act} {w : World} (d : Tmp) (hd : o.dst = some d) (hlt : d < a.tmps.size) (hg : o.guard = none)
  (h : wpList P ops (fun x a' w' => x = .normal ∧ ∃ u, a' = a.put o.dst u ∧ Ext w w' ∧ V w' u) [o] a w) : webStep P ops V o a w := by
 have inj : ∀ u u', a.put o.dst u = a.put o.dst u' → u = u' := fun u u' e => by
  rw [hd] at e
  have e2 := congrArg (fun b : Act => b.tmps[d]?) e
  simpa [Act.put, hlt] using e2
 have hw : Region.wanted o (yielded ops a.tmps) = true := by simp [Region.wanted, hg]
 unfold webStep
 rw [if_pos hw]
 rw [wpList, if_pos hw] at h
 rcases h with h | ⟨_, _, _, h, _⟩
 ·unfold Oper.wp at h
  generalize (execOp a.eval o).run P w = r at *
  cases r with
  | ok n w' =>
   cases n <;> simp only [Oper.upon, wpList] at h <;> simp only [webUpon]
   case value u =>
    obtain ⟨_, u', e, hx, hv⟩ := h
    rw [inj u u' e]; exact ⟨hx, hv⟩
   case skip =>
    obtain ⟨_, u', e, hx, hv⟩ := h
    rw [inj undef u' e]; exact ⟨hx, hv⟩
   case defer df =>
    obtain ⟨_, u', e, _⟩ := h
    rw [hd] at e
    have e2 := congrArg (fun b : Act => b.defers.length) e
    simp [Act.put] at e2
   case enter f args =>
    refine h.mono fun e w'' he => ?_
    cases e with
    | returned v =>
     obtain ⟨_, u', e, hx, hv⟩ := he
     exact ⟨v, rfl, hx, by rw [inj v u' e]; exact hv⟩
    | panicked c => obtain ⟨he, _⟩ := he; cases he
    | outgrown => obtain ⟨_, _, he, _⟩ := he; cases he
   case row row args =>
    refine h.mono fun u w'' he => ?_
    obtain ⟨_, u', e, hx, hv⟩ := he
    rw [inj u u' e]; exact ⟨hx, hv⟩
  | halt x w' =>
   cases x <;> simp only [Oper.upon] at h
   obtain ⟨h, _⟩ := h; cases h
 ·cases h
end
end Go.Proofs.YtfaplefkakpgcaaGreatDoor
/- Properties for Web as a list. -/
namespace Go.Proofs.YtfaplefkakpgcaaGreatDoor
set_option linter.unusedVariables false
set_option linter.unusedSimpArgs false
open Go.RowKit
def listV (l : List (World → Value → Prop)) (k : Nat) : World → Value → Prop := (l[k]?).getD (fun _ _ => True)
def isV (v : Value) : World → Value → Prop := fun _ u => u = v
def Lasts (p : World → Value → Prop) : Prop := ∀ w w' u, Ext w w' → p w u → p w' u
theorem lasts_is (v : Value) : Lasts (isV v) := fun _ _ _ _ h => h
theorem listV_ext {l : List (World → Value → Prop)} (h : ∀ p ∈ l, Lasts p) (k : Nat) (w w' : World) (u : Value) (hx : Ext w w') (hv : listV l k w u) : listV l k w' u := by
 unfold listV at *
 cases hk : l[k]? with
 | none => trivial
 | some p =>
  rw [hk] at hv
  exact h p (List.mem_of_getElem? hk) w w' u hx hv
def rowV (n : Nat) (t : TypeId) (cs : Array Value) : World → Value → Prop := fun w u => ∃ g, u = .slice (some ⟨g, 0, none⟩) n n ∧ Box w g t cs
theorem lasts_row (n : Nat) (t : TypeId) (cs : Array Value) : Lasts (rowV n t cs) := fun _ _ _ hx ⟨g, e, hb⟩ => ⟨g, e, hb.ext hx⟩
end Go.Proofs.YtfaplefkakpgcaaGreatDoor
/- Web, where one operation of the head writes to a row: what lasts under all other steps only (D's needs of that operation alone) is lost behind it. -/
namespace Go.Proofs.YtfaplefkakpgcaaGreatDoor
set_option linter.unusedVariables false
set_option linter.unusedSimpArgs false
open Go.RowKit
section
variable {P : Program} {ops : Array Oper}
def kUpon (P : Program) (R : World → World → Prop) (V : World → Value → Prop) (w : World) : Result Next → Prop
 | .ok (.value u) w' => R w w' ∧ V w' u
 | .ok .skip w' => R w w' ∧ V w' undef
 | .ok (.enter f args) w' => Calls P f args w' (fun e w'' => ∃ u, e = .returned u ∧ R w w'' ∧ V w'' u)
 | .ok (.row row args) w' => Rows P row args w' (fun u w'' => R w w'' ∧ V w'' u)
 | _ => False
def kStep (P : Program) (ops : Array Oper) (R : World → World → Prop) (V : World → Value → Prop) (o : Oper) (a : Act) (w : World) : Prop :=
 Region.wanted o (yielded ops a.tmps) = true ∧ kUpon P R V w ((execOp a.eval o).run P w)
theorem wp_of_k {o : Oper} {a : Act} {R : World → World → Prop} {V : World → Value → Prop} {K : Act → World → Prop} {Q : Exit → Act → World → Prop} {w : World} (h : kUpon P R V w ((execOp a.eval o).run P w))
  (hk : ∀ u w', R w w' → V w' u → K (a.put o.dst u) w') : o.wp P a w K Q := by
 unfold Oper.wp
 generalize (execOp a.eval o).run P w = r at *
 cases r with
 | ok n w' =>
  cases n <;> simp only [kUpon] at h <;> simp only [Oper.upon]
  case value u => exact hk _ _ h.1 h.2
  case skip => exact hk _ _ h.1 h.2
  case enter f args =>
   exact h.mono fun e w'' ⟨u, he, hx, hv⟩ => by subst he; exact hk _ _ hx hv
  case row row args => exact h.mono fun u w'' ⟨hx, hv⟩ => hk _ _ hx hv
 | halt x w' => simp only [kUpon] at h
theorem k_of_list {R : World → World → Prop} {V : World → Value → Prop} {o : Oper} {a : Act} {w : World} (d : Tmp) (hd : o.dst = some d) (hlt : d < a.tmps.size) (hg : o.guard = none)
  (h : wpList P ops (fun x a' w' => x = .normal ∧ ∃ u, a' = a.put o.dst u ∧ R w w' ∧ V w' u) [o] a w) : kStep P ops R V o a w := by
 have inj : ∀ u u', a.put o.dst u = a.put o.dst u' → u = u' := fun u u' e => by
  rw [hd] at e
  have e2 := congrArg (fun b : Act => b.tmps[d]?) e
  simpa [Act.put, hlt] using e2
 have hw : Region.wanted o (yielded ops a.tmps) = true := by simp [Region.wanted, hg]
 refine ⟨hw, ?_⟩
 rw [wpList, if_pos hw] at h
 rcases h with h | ⟨_, _, _, h, _⟩
 ·unfold Oper.wp at h
  generalize (execOp a.eval o).run P w = r at *
  cases r with
  | ok n w' =>
   cases n <;> simp only [Oper.upon, wpList] at h <;> simp only [kUpon]
   case value u =>
    obtain ⟨_, u', e, hx, hv⟩ := h
    rw [inj u u' e]; exact ⟨hx, hv⟩
   case skip =>
    obtain ⟨_, u', e, hx, hv⟩ := h
    rw [inj undef u' e]; exact ⟨hx, hv⟩
   case defer df =>
    obtain ⟨_, u', e, _⟩ := h
    rw [hd] at e
    have e2 := congrArg (fun b : Act => b.defers.length) e
    simp [Act.put] at e2
   case enter f args =>
    refine h.mono fun e w'' he => ?_
    cases e with
    | returned v =>
     obtain ⟨_, u', e, hx, hv⟩ := he
     exact ⟨v, rfl, hx, by rw [inj v u' e]; exact hv⟩
    | panicked c => obtain ⟨he, _⟩ := he; cases he
    | outgrown => obtain ⟨_, _, he, _⟩ := he; cases he
   case row row args =>
    refine h.mono fun u w'' he => ?_
    obtain ⟨_, u', e, hx, hv⟩ := he
    rw [inj u u' e]; exact ⟨hx, hv⟩
  | halt x w' =>
   cases x <;> simp only [Oper.upon] at h
   obtain ⟨h, _⟩ := h; cases h
 ·cases h
end
end Go.Proofs.YtfaplefkakpgcaaGreatDoor
/- Web, where each operation of the head may ask something of the world that it alone takes away. -/
namespace Go.Proofs.YtfaplefkakpgcaaGreatDoor
set_option linter.unusedVariables false
set_option linter.unusedSimpArgs false
open Go.RowKit
section
variable {P : Program} {ops : Array Oper}
theorem any_of_webP {Q : Exit → Act → World → Prop} {a : Act} {l : List Oper} {n : Nat} {D : List (List Nat)} {V : Nat → World → Value → Prop} {C : World → Prop} {PP : Nat → World → Prop} {R : Nat → World → World → Prop} {m : Nat} {kd : List Nat} (hok : WebOk l.toArray n D)
  (hKD : ∀ i, i < n → i ≠ m → ∀ d ∈ D.getD i [], d ∉ kd)
  (hC : ∀ k w w', C w → R k w w' → C w')
  (hP : ∀ j k w w', j ≠ k → C w → PP j w → R k w w' → PP j w')
  (hV : ∀ j k w w' u, j < n → j ≠ k → (k = m → j ∉ kd) → C w → R k w w' → V j w u → V j w' u)
  (hstep : ∀ k o, k < n → l[k]? = some o → ∀ us w', C w' → PP k w' → (∀ d ∈ D.getD k [], V d w' (us d)) → kStep P l.toArray (R k) (V k) o (putsL us 0 (l.take k) a) w')
  (htail : ∀ us w', C w' → (∀ k, k < n → k ∉ kd → V k w' (us k)) → wpList P l.toArray Q (l.drop n) (putsL us 0 (l.take n) a) w') :
  ∀ (f : Nat) (s : Array Bool) (w : World) (us : Nat → Value), left s n = f → HeadInv .any l.toArray n s → C w → (∀ j, j < n → s.getD j true = false → PP j w) → (∀ j, j < n → s.getD j true = true → (j ∈ kd → s.getD m true = false) → V j w (us j)) →
   wpAny P .any l.toArray Q (f + (l.length - n)) s (putsF us (fun j => s.getD j true) 0 (l.take n) a) w := by
 have hnl : n ≤ l.length := by simpa using hok.size
 have htl : (l.take n).length = n := by simp; omega
 intro f
 induction f with
 | zero =>
  intro s w us hl inv hx hp hv
  have hall := left_zero n hl
  have hsz : s.size = l.length := by simpa using inv.size
  rw [putsF_all _ _ _ (fun j _ h2 => hall j (by omega)), Nat.zero_add]
  have hs : s = (Array.replicate l.toArray.size false).mapIdx fun i _ => decide (i < n) := by
   apply Array.ext
   ·simp [hsz]
   ·intro i h1 h2
    simp only [Array.getElem_mapIdx]
    by_cases e : i < n
    ·have := hall i e
     simp [h1] at this
     simp [e, this]
    ·have := inv.tail i (by omega) (by simpa [hsz] using h1)
     simp [h1] at this
     simp [e, this]
  have := wpAny_of_seq (P := P) (md := .any) (ops := l.toArray) (Q' := Q) (l.drop n) n s (putsL us 0 (l.take n) a) w (fun j => by simp [List.getElem?_drop]) (by rw [hs, List.length_drop]; simpa using hok.seq) (htail us w hx (fun k hk hkd => hv k hk (hall k hk) (fun h => absurd h hkd)))
  rwa [List.length_drop] at this
 | succ f ih =>
  intro s w us hl inv hx hp hv
  obtain ⟨j, hjn, hj, hjl⟩ := left_some (s := s) n (by omega)
  have hsz : s.size = l.length := by simpa using inv.size
  have hdone : ∀ i, i < l.length → s.getD i true = true → s.getD i false = true := fun i hi h => by
   have : i < s.size := by omega
   simp [this] at h ⊢; exact h
  have hjr : j ∈ Region.ready .any l.toArray s := mem_ready.2 ⟨hj, l[j]'(by omega), by simp [show j < l.length by omega], fun e he hb => by
   have hlt := hok.back j _ hjn (by simp [show j < l.length by omega]) e he hb
   exact hdone _ (by omega) (hjl _ hlt)⟩
  rw [show f + 1 + (l.length - n) = (f + (l.length - n)) + 1 by omega]
  refine ⟨fun h0 => (by rw [h0] at hjr; cases hjr), fun i hi => ?_⟩
  obtain ⟨hiu, o, ho, hall⟩ := mem_ready.1 hi
  have hil : i < l.length := by have := (Array.getElem?_eq_some_iff.1 ho).1; simpa using this
  have hin : i < n := by
   refine Nat.lt_of_not_le fun h => ?_
   have hlt : n < l.toArray.size := by simp; omega
   exact tail_waits (hok.tail hlt).1 (hok.tail hlt).2 hlt inv _ j rfl hjn hj i h hi
  have hol : l[i]? = some o := by simpa using ho
  have hdeps : ∀ d ∈ D.getD i [], d < i ∧ s.getD d true = true := fun d hd => by
   obtain ⟨h1, h2⟩ := hok.deps i o hin ho d hd
   obtain ⟨o', ho', e, he, hb, hon⟩ := Region.waitsFor_spec h2
   have : o' = o := Option.some.inj (ho'.symm.trans ho)
   subst this
   have h3 := hall e he hb
   rw [hon] at h3
   have hds : d < s.size := by omega
   refine ⟨h1, ?_⟩
   simp [hds] at h3 ⊢; exact h3
  have hst := hstep i o hin hol us w hx (hp i hin hiu) (fun d hd => hv d (by have := (hdeps d hd).1; omega) (hdeps d hd).2 (fun hk => by
   by_cases e : i = m
   ·rw [← e]; exact hiu
   ·exact absurd hk (hKD i hin e d hd)))
  have hlk : ∀ t ∈ o.looksAt l.toArray, (putsF us (fun j => s.getD j true) 0 (l.take n) a).tmps[t]? = (putsL us 0 (l.take i) a).tmps[t]? := by
   have e1 : putsL us 0 (l.take i) a = putsF us (fun j => decide (j < 0 + i)) 0 (l.take n) a := by
    rw [putsF_take, List.take_take, Nat.min_eq_left (by omega)]
   rw [e1]
   refine putsF_looks (l.take n) 0 a a rfl (fun _ _ => rfl) (fun j' p hj' d hd hL => ?_)
   have hj'n : j' < n := by have := (List.getElem?_eq_some_iff.1 hj').1; simp at this; omega
   have hp : l.toArray[j']? = some p := by
    rw [List.getElem?_take, if_pos hj'n] at hj'
    simpa using hj'
   have hD := hdeps j' (hok.looks i o hin ho j' p hj'n hp d hd hL)
   rw [Nat.zero_add, hD.2]
   simp [hD.1]
  obtain ⟨hex, hwa⟩ := step_looks (V := fun _ _ => True) (ops := l.toArray) (Region.noSelect_spec hok.sel i o · · ho) hlk
  have next : ∀ u w', R i w w' → V i w' u → wpAny P .any l.toArray Q (f + (l.length - n)) (s.setIfInBounds i true) ((putsF us (fun j => s.getD j true) 0 (l.take n) a).put o.dst u) w' := fun u w' hxx hvu => by
   have hset := putsF_set (us := us) (us' := fun j => if j = i then u else us j) (f := fun j => s.getD j true) (f' := fun j => (s.setIfInBounds i true).getD j true) (k := i) (o := o) hiu (by simp [hsz, hil]) (fun j hj => ⟨getD_set_ne true (Ne.symm hj), by simp [hj]⟩) (l.take n) 0 a (by omega)
    (by rw [Nat.sub_zero, List.getElem?_take, if_pos hin]; exact hol) (fun j' p hj' hne t ht hpt => by
     have hj'n : j' < n := by have := (List.getElem?_eq_some_iff.1 hj').1; simp at this; omega
     have hp : l.toArray[j']? = some p := by
      rw [List.getElem?_take, if_pos hj'n] at hj'
      simpa using hj'
     exact hok.dsts i o hin ho j' p hj'n hp (by omega) t hpt ht)
   simp only [if_true] at hset
   rw [← hset]
   refine ih _ _ _ ?_ (inv.set hi hin) (hC i w w' hx hxx) (fun j' hj' hd => by
     by_cases e2 : j' = i
     ·subst e2
      simp [hsz, hil] at hd
     ·exact hP j' i w w' e2 hx (hp j' hj' (by rwa [getD_set_ne true (Ne.symm e2)] at hd)) hxx) (fun j' hj' hd hkd => ?_)
   ·have := left_set hiu n
    rw [if_pos hin] at this
    omega
   ·by_cases e : j' = i
    ·subst e; simp only [if_true]; exact hvu
    ·rw [getD_set_ne true (Ne.symm e)] at hd
     simp only [e, if_false]
     have hkm : j' ∈ kd → i ≠ m ∧ s.getD m true = false := fun hk => by
      have h := hkd hk
      by_cases e2 : i = m
      ·subst e2
       simp [hsz, hil] at h
      ·exact ⟨e2, by rwa [getD_set_ne true e2] at h⟩
     exact hV j' i w w' _ hj' e (fun hm hk => (hkm hk).1 hm) hx hxx (hv j' hj' hd (fun hk => (hkm hk).2))
  unfold wpOp
  simp only [ho]
  obtain ⟨hst1, hst2⟩ := hst
  rw [← hwa] at hst1
  rw [← hex] at hst2
  rw [if_pos hst1]
  exact .inl (wp_of_k hst2 next)
theorem wp_region_webP {id : Nat} {Q : Exit → Act → World → Prop} {a : Act} {w : World} {l : List Oper} (n : Nat) (D : List (List Nat)) (V : Nat → World → Value → Prop) (C : World → Prop) (PP : Nat → World → Prop) (R : Nat → World → World → Prop) (m : Nat) (kd : List Nat) (hm : P.follows .mixedOrders = true) (hB : webB l.toArray n D = true)
  (hKD : ((List.range n).all fun i => decide (i = m) || (D.getD i []).all fun d => !kd.contains d) = true) (hC0 : C { w with drawn := w.drawn + 1 }) (hP0 : ∀ j, PP j { w with drawn := w.drawn + 1 })
  (hC : ∀ k w w', C w → R k w w' → C w')
  (hP : ∀ j k w w', j ≠ k → C w → PP j w → R k w w' → PP j w')
  (hV : ∀ j k w w' u, j < n → j ≠ k → (k = m → j ∉ kd) → C w → R k w w' → V j w u → V j w' u)
  (hstep : ∀ k o, k < n → l[k]? = some o → ∀ us w', C w' → PP k w' → (∀ d ∈ D.getD k [], V d w' (us d)) → kStep P l.toArray (R k) (V k) o (putsL us 0 (l.take k) a) w')
  (htail : ∀ us w', C w' → (∀ k, k < n → k ∉ kd → V k w' (us k)) → wpList P l.toArray Q (l.drop n) (putsL us 0 (l.take n) a) w') : (Code.region id l.toArray true).wp P Q a w := by
 have hok := webOk hB
 have hkd : ∀ i, i < n → i ≠ m → ∀ d ∈ D.getD i [], d ∉ kd := fun i hi hne d hd hk => by
  have h := List.all_eq_true.1 hKD i (List.mem_range.2 hi)
  rw [Bool.or_eq_true] at h
  have h2 := List.all_eq_true.1 (h.resolve_left (by simpa using hne)) d hd
  rw [List.contains_iff_mem.2 hk] at h2
  cases h2
 refine wp_region_any hm ?_
 have inv0 : HeadInv .any l.toArray n (Array.replicate l.toArray.size false) :=
  ⟨by simp, fun j oj _ hl => (by rw [getD_replicate_false] at hl; cases hl), fun t _ ht => getD_in (by simpa using ht) (getD_replicate_false _ _)⟩
 have hnl : n ≤ l.length := by simpa using hok.size
 have hnone : ∀ j, j < n → (Array.replicate l.toArray.size false).getD j true = false := fun j hj => getD_in (by simp; omega) (getD_replicate_false _ _)
 have hl : left (Array.replicate l.toArray.size false) n = n := by
  have : ∀ m, m ≤ n → left (Array.replicate l.toArray.size false) m = m := fun m => by
   induction m with
   | zero => intro _; rfl
   | succ m ih => intro h; rw [left, ih (by omega), hnone m (by omega)]; rfl
  exact this n (Nat.le_refl _)
 have key := any_of_webP (Q := Q) (a := a) (m := m) (kd := kd) hok hkd hC hP hV hstep htail n _ { w with drawn := w.drawn + 1 } (fun _ => undef) hl inv0 hC0 (fun j _ _ => hP0 j) (fun j hj hd => by rw [hnone j hj] at hd; cases hd)
 rw [putsF_none _ _ _ (fun j _ h2 => hnone j (by simp at h2; omega))] at key
 rw [show n + (l.length - n) = l.toArray.size by simp; omega] at key
 exact key
def pWalk (P : Program) (ops : Array Oper) (C : World → Prop) (PP : Nat → World → Prop) (R : Nat → World → World → Prop) (V : Nat → World → Value → Prop) (D : List (List Nat)) (T : Act → Prop) (us : Nat → Value) : Nat → List Oper → Act → Prop
 | _, [], a => T a
 | k, o :: r, a => (∀ w', C w' → PP k w' → (∀ d ∈ D.getD k [], V d w' (us d)) → kStep P ops (R k) (V k) o a w') ∧ pWalk P ops C PP R V D T us (k + 1) r (a.put o.dst (us k))
theorem pWalk_parts {C : World → Prop} {PP : Nat → World → Prop} {R : Nat → World → World → Prop} {V : Nat → World → Value → Prop} {D : List (List Nat)} {T : Act → Prop} {us : Nat → Value} : ∀ (l : List Oper) (k : Nat) (a : Act), pWalk P ops C PP R V D T us k l a →
  (∀ j o, l[j]? = some o → ∀ w', C w' → PP (k + j) w' → (∀ d ∈ D.getD (k + j) [], V d w' (us d)) → kStep P ops (R (k + j)) (V (k + j)) o (putsL us k (l.take j) a) w') ∧ T (putsL us k l a)
 | [], _, _, h => ⟨fun j o hj => by simp at hj, h⟩
 | o :: r, k, a, h => by
  obtain ⟨h1, h2⟩ := pWalk_parts r (k + 1) _ h.2
  refine ⟨fun j o' hj => ?_, h2⟩
  cases j with
  | zero =>
   have : o = o' := by simpa using hj
   subst this
   exact h.1
  | succ j =>
   have := h1 j o' (by simpa using hj)
   rw [show k + 1 + j = k + (j + 1) by omega] at this
   exact this
theorem wp_region_webP' {id : Nat} {Q : Exit → Act → World → Prop} {a : Act} {w : World} {l : List Oper} (n : Nat) (D : List (List Nat)) (V : Nat → World → Value → Prop) (C : World → Prop) (PP : Nat → World → Prop) (R : Nat → World → World → Prop) (m : Nat) (kd : List Nat) (hm : P.follows .mixedOrders = true) (hB : webB l.toArray n D = true)
  (hKD : ((List.range n).all fun i => decide (i = m) || (D.getD i []).all fun d => !kd.contains d) = true) (hC0 : C { w with drawn := w.drawn + 1 }) (hP0 : ∀ j, PP j { w with drawn := w.drawn + 1 })
  (hC : ∀ k w w', C w → R k w w' → C w')
  (hP : ∀ j k w w', j ≠ k → C w → PP j w → R k w w' → PP j w')
  (hV : ∀ j k w w' u, j < n → j ≠ k → (k = m → j ∉ kd) → C w → R k w w' → V j w u → V j w' u)
  (h : ∀ us, pWalk P l.toArray C PP R V D (fun a' => ∀ w', C w' → (∀ k, k < n → k ∉ kd → V k w' (us k)) → wpList P l.toArray Q (l.drop n) a' w') us 0 (l.take n) a) : (Code.region id l.toArray true).wp P Q a w := by
 refine wp_region_webP n D V C PP R m kd hm hB hKD hC0 hP0 hC hP hV (fun k o hk ho us w' hx hp hd => ?_) (fun us w' hx hv => (pWalk_parts _ _ _ (h us)).2 w' hx hv)
 have := (pWalk_parts _ _ _ (h us)).1 k o (by rw [List.getElem?_take, if_pos hk]; exact ho) w' hx (by rw [Nat.zero_add]; exact hp) (by rw [Nat.zero_add]; exact hd)
 rw [Nat.zero_add, List.take_take, Nat.min_eq_left (by omega)] at this
 exact this
end
end Go.Proofs.YtfaplefkakpgcaaGreatDoor
/- Web, where what is known of a value may name the values that it was made of, and each operation has a kind of step of its own. -/
namespace Go.Proofs.YtfaplefkakpgcaaGreatDoor
set_option linter.unusedVariables false
set_option linter.unusedSimpArgs false
open Go.RowKit
def updU (us : Nat → Value) (k : Nat) (u : Value) : Nat → Value := fun j => if j = k then u else us j
section
variable {P : Program} {ops : Array Oper}
def chB (ops : Array Oper) (m : Nat) : List Nat → Nat → Bool
 | [], _ => false
 | c :: r, i => Region.waitsFor .any ops m c && decide (m < ops.size) && (decide (c = i) || chB ops c r i)
theorem chB_lt : ∀ (ch : List Nat) (m i : Nat), chB ops m ch i = true → m < ops.size
 | [], _, _, h => by cases h
 | c :: r, m, i, h => by
  rw [chB, Bool.and_eq_true, Bool.and_eq_true] at h
  exact of_decide_eq_true h.1.2
theorem chB_done {n : Nat} {s : Array Bool} (inv : HeadInv .any ops n s) : ∀ (ch : List Nat) (m i : Nat), chB ops m ch i = true → s.getD m false = true → s.getD i false = true
 | [], _, _, h, _ => by cases h
 | c :: r, m, i, h, hm => by
  rw [chB, Bool.and_eq_true, Bool.and_eq_true] at h
  obtain ⟨o2, ho2, e2, he2, hb2, hon2⟩ := Region.waitsFor_spec h.1.1
  have h3 := inv.closed m o2 ho2 hm e2 he2 hb2
  rw [hon2] at h3
  rw [Bool.or_eq_true] at h
  exact h.2.elim (fun e => of_decide_eq_true e ▸ h3) (fun e => chB_done inv r c i e h3)
theorem any_of_webU {Q : Exit → Act → World → Prop} {a : Act} {l : List Oper} {n : Nat} {D : List (List Nat)} {V : Nat → World → (Nat → Value) → Prop} {C : World → Prop} {R : Nat → World → World → Prop} {m : Nat} {kd : List Nat} (hok : WebOk l.toArray n D)
  (hKD : ∀ i, i < n → (∀ d ∈ D.getD i [], d ∉ kd) ∨ ∀ s, HeadInv .any l.toArray n s → s.getD i true = false → s.getD m true = false)
  (hC : ∀ k w w', C w → R k w w' → C w')
  (hcong : ∀ j w us us', j < n → us j = us' j → (∀ d ∈ D.getD j [], us d = us' d) → V j w us → V j w us')
  (hV : ∀ j k w w' us, j < n → j ≠ k → (k = m → j ∉ kd) → C w → R k w w' → V j w us → V j w' us)
  (hstep : ∀ k o, k < n → l[k]? = some o → ∀ us w', C w' → (∀ d ∈ D.getD k [], V d w' us) → kStep P l.toArray (R k) (fun w u => V k w (updU us k u)) o (putsL us 0 (l.take k) a) w')
  (htail : ∀ us w', C w' → (∀ k, k < n → k ∉ kd → V k w' us) → wpList P l.toArray Q (l.drop n) (putsL us 0 (l.take n) a) w') :
  ∀ (f : Nat) (s : Array Bool) (w : World) (us : Nat → Value), left s n = f → HeadInv .any l.toArray n s → C w → (∀ j, j < n → s.getD j true = true → (j ∈ kd → s.getD m true = false) → V j w us) →
   wpAny P .any l.toArray Q (f + (l.length - n)) s (putsF us (fun j => s.getD j true) 0 (l.take n) a) w := by
 have hnl : n ≤ l.length := by simpa using hok.size
 have htl : (l.take n).length = n := by simp; omega
 intro f
 induction f with
 | zero =>
  intro s w us hl inv hx hv
  have hall := left_zero n hl
  have hsz : s.size = l.length := by simpa using inv.size
  rw [putsF_all _ _ _ (fun j _ h2 => hall j (by omega)), Nat.zero_add]
  have hs : s = (Array.replicate l.toArray.size false).mapIdx fun i _ => decide (i < n) := by
   apply Array.ext
   ·simp [hsz]
   ·intro i h1 h2
    simp only [Array.getElem_mapIdx]
    by_cases e : i < n
    ·have := hall i e
     simp [h1] at this
     simp [e, this]
    ·have := inv.tail i (by omega) (by simpa [hsz] using h1)
     simp [h1] at this
     simp [e, this]
  have := wpAny_of_seq (P := P) (md := .any) (ops := l.toArray) (Q' := Q) (l.drop n) n s (putsL us 0 (l.take n) a) w (fun j => by simp [List.getElem?_drop]) (by rw [hs, List.length_drop]; simpa using hok.seq) (htail us w hx (fun k hk hkd => hv k hk (hall k hk) (fun h => absurd h hkd)))
  rwa [List.length_drop] at this
 | succ f ih =>
  intro s w us hl inv hx hv
  obtain ⟨j, hjn, hj, hjl⟩ := left_some (s := s) n (by omega)
  have hsz : s.size = l.length := by simpa using inv.size
  have hdone : ∀ i, i < l.length → s.getD i true = true → s.getD i false = true := fun i hi h => by
   have : i < s.size := by omega
   simp [this] at h ⊢; exact h
  have hjr : j ∈ Region.ready .any l.toArray s := mem_ready.2 ⟨hj, l[j]'(by omega), by simp [show j < l.length by omega], fun e he hb => by
   have hlt := hok.back j _ hjn (by simp [show j < l.length by omega]) e he hb
   exact hdone _ (by omega) (hjl _ hlt)⟩
  rw [show f + 1 + (l.length - n) = (f + (l.length - n)) + 1 by omega]
  refine ⟨fun h0 => (by rw [h0] at hjr; cases hjr), fun i hi => ?_⟩
  obtain ⟨hiu, o, ho, hall⟩ := mem_ready.1 hi
  have hil : i < l.length := by have := (Array.getElem?_eq_some_iff.1 ho).1; simpa using this
  have hin : i < n := by
   refine Nat.lt_of_not_le fun h => ?_
   have hlt : n < l.toArray.size := by simp; omega
   exact tail_waits (hok.tail hlt).1 (hok.tail hlt).2 hlt inv _ j rfl hjn hj i h hi
  have hol : l[i]? = some o := by simpa using ho
  have hdeps : ∀ d ∈ D.getD i [], d < i ∧ s.getD d true = true := fun d hd => by
   obtain ⟨h1, h2⟩ := hok.deps i o hin ho d hd
   obtain ⟨o', ho', e, he, hb, hon⟩ := Region.waitsFor_spec h2
   have : o' = o := Option.some.inj (ho'.symm.trans ho)
   subst this
   have h3 := hall e he hb
   rw [hon] at h3
   have hds : d < s.size := by omega
   refine ⟨h1, ?_⟩
   simp [hds] at h3 ⊢; exact h3
  have hst := hstep i o hin hol us w hx (fun d hd => hv d (by have := (hdeps d hd).1; omega) (hdeps d hd).2 (fun hk => (hKD i hin).elim (fun h => absurd hk (h d hd)) (fun h => h s inv hiu)))
  have hlk : ∀ t ∈ o.looksAt l.toArray, (putsF us (fun j => s.getD j true) 0 (l.take n) a).tmps[t]? = (putsL us 0 (l.take i) a).tmps[t]? := by
   have e1 : putsL us 0 (l.take i) a = putsF us (fun j => decide (j < 0 + i)) 0 (l.take n) a := by
    rw [putsF_take, List.take_take, Nat.min_eq_left (by omega)]
   rw [e1]
   refine putsF_looks (l.take n) 0 a a rfl (fun _ _ => rfl) (fun j' p hj' d hd hL => ?_)
   have hj'n : j' < n := by have := (List.getElem?_eq_some_iff.1 hj').1; simp at this; omega
   have hp : l.toArray[j']? = some p := by
    rw [List.getElem?_take, if_pos hj'n] at hj'
    simpa using hj'
   have hD := hdeps j' (hok.looks i o hin ho j' p hj'n hp d hd hL)
   rw [Nat.zero_add, hD.2]
   simp [hD.1]
  obtain ⟨hex, hwa⟩ := step_looks (V := fun _ _ => True) (ops := l.toArray) (Region.noSelect_spec hok.sel i o · · ho) hlk
  have next : ∀ u w', R i w w' → V i w' (updU us i u) → wpAny P .any l.toArray Q (f + (l.length - n)) (s.setIfInBounds i true) ((putsF us (fun j => s.getD j true) 0 (l.take n) a).put o.dst u) w' := fun u w' hxx hvu => by
   have hset := putsF_set (us := us) (us' := updU us i u) (f := fun j => s.getD j true) (f' := fun j => (s.setIfInBounds i true).getD j true) (k := i) (o := o) hiu (by simp [hsz, hil]) (fun j hj => ⟨getD_set_ne true (Ne.symm hj), by simp [updU, hj]⟩) (l.take n) 0 a (by omega)
    (by rw [Nat.sub_zero, List.getElem?_take, if_pos hin]; exact hol) (fun j' p hj' hne t ht hpt => by
     have hj'n : j' < n := by have := (List.getElem?_eq_some_iff.1 hj').1; simp at this; omega
     have hp : l.toArray[j']? = some p := by
      rw [List.getElem?_take, if_pos hj'n] at hj'
      simpa using hj'
     exact hok.dsts i o hin ho j' p hj'n hp (by omega) t hpt ht)
   have hui : updU us i u i = u := by simp [updU]
   rw [hui] at hset
   rw [← hset]
   refine ih _ _ _ ?_ (inv.set hi hin) (hC i w w' hx hxx) (fun j' hj' hd hkd => ?_)
   ·have := left_set hiu n
    rw [if_pos hin] at this
    omega
   ·by_cases e : j' = i
    ·subst e; exact hvu
    ·rw [getD_set_ne true (Ne.symm e)] at hd
     have hkm : j' ∈ kd → i ≠ m ∧ s.getD m true = false := fun hk => by
      have h := hkd hk
      by_cases e2 : i = m
      ·subst e2
       simp [hsz, hil] at h
      ·exact ⟨e2, by rwa [getD_set_ne true e2] at h⟩
     obtain ⟨o', ho'⟩ : ∃ o', l.toArray[j']? = some o' := ⟨l[j']'(by omega), by simp [show j' < l.length by omega]⟩
     refine hcong j' w' us _ hj' (by simp [updU, e]) (fun d hd2 => ?_) (hV j' i w w' _ hj' e (fun hm hk => (hkm hk).1 hm) hx hxx (hv j' hj' hd (fun hk => (hkm hk).2)))
     have hne : d ≠ i := fun h => by
      subst h
      obtain ⟨h1, h2⟩ := hok.deps j' o' hj' ho' d hd2
      obtain ⟨o2, ho2, e2, he2, hb2, hon2⟩ := Region.waitsFor_spec h2
      have hj2 : s.getD j' false = true := hdone _ (by omega) hd
      have h3 := inv.closed j' o2 ho2 hj2 e2 he2 hb2
      rw [hon2] at h3
      have hds : d < s.size := by omega
      simp [hds] at h3 hiu
      rw [h3] at hiu
      cases hiu
     simp [updU, hne]
  unfold wpOp
  simp only [ho]
  obtain ⟨hst1, hst2⟩ := hst
  rw [← hwa] at hst1
  rw [← hex] at hst2
  rw [if_pos hst1]
  exact .inl (wp_of_k hst2 next)
theorem wp_region_webU {id : Nat} {Q : Exit → Act → World → Prop} {a : Act} {w : World} {l : List Oper} (n : Nat) (D : List (List Nat)) (V : Nat → World → (Nat → Value) → Prop) (C : World → Prop) (R : Nat → World → World → Prop) (m : Nat) (kd ch : List Nat) (hm : P.follows .mixedOrders = true) (hB : webB l.toArray n D = true) (hKD : ((List.range n).all fun i => ((D.getD i []).all fun d => !kd.contains d) || chB l.toArray m ch i) = true) (hC0 : C { w with drawn := w.drawn + 1 })
  (hC : ∀ k w w', C w → R k w w' → C w')
  (hcong : ∀ j w us us', j < n → us j = us' j → (∀ d ∈ D.getD j [], us d = us' d) → V j w us → V j w us')
  (hV : ∀ j k w w' us, j < n → j ≠ k → (k = m → j ∉ kd) → C w → R k w w' → V j w us → V j w' us)
  (hstep : ∀ k o, k < n → l[k]? = some o → ∀ us w', C w' → (∀ d ∈ D.getD k [], V d w' us) → kStep P l.toArray (R k) (fun w u => V k w (updU us k u)) o (putsL us 0 (l.take k) a) w')
  (htail : ∀ us w', C w' → (∀ k, k < n → k ∉ kd → V k w' us) → wpList P l.toArray Q (l.drop n) (putsL us 0 (l.take n) a) w') : (Code.region id l.toArray true).wp P Q a w := by
 have hok := webOk hB
 have hkd : ∀ i, i < n → (∀ d ∈ D.getD i [], d ∉ kd) ∨ ∀ s, HeadInv .any l.toArray n s → s.getD i true = false → s.getD m true = false := fun i hi => by
  have h := List.all_eq_true.1 hKD i (List.mem_range.2 hi)
  rw [Bool.or_eq_true] at h
  refine h.elim (fun h => .inl fun d hd hk => ?_) (fun h => .inr fun s inv hs => ?_)
  ·have h2 := List.all_eq_true.1 h d hd
   rw [List.contains_iff_mem.2 hk] at h2
   cases h2
  ·have h3 : ¬ s.getD m false = true := fun hm => by
    have h4 := chB_done inv ch m i h hm
    have h5 := getD_both hs
    rw [h4] at h5
    cases h5
   by_cases hms : m < s.size
   ·simp [hms] at h3 ⊢; exact h3
   ·exfalso
    have : m < l.toArray.size := chB_lt ch m i h
    have := inv.size
    omega
 refine wp_region_any hm ?_
 have inv0 : HeadInv .any l.toArray n (Array.replicate l.toArray.size false) :=
  ⟨by simp, fun j oj _ hl => (by rw [getD_replicate_false] at hl; cases hl), fun t _ ht => getD_in (by simpa using ht) (getD_replicate_false _ _)⟩
 have hnl : n ≤ l.length := by simpa using hok.size
 have hnone : ∀ j, j < n → (Array.replicate l.toArray.size false).getD j true = false := fun j hj => getD_in (by simp; omega) (getD_replicate_false _ _)
 have hl : left (Array.replicate l.toArray.size false) n = n := by
  have : ∀ m, m ≤ n → left (Array.replicate l.toArray.size false) m = m := fun m => by
   induction m with
   | zero => intro _; rfl
   | succ m ih => intro h; rw [left, ih (by omega), hnone m (by omega)]; rfl
  exact this n (Nat.le_refl _)
 have key := any_of_webU (Q := Q) (a := a) (m := m) (kd := kd) hok hkd hC hcong hV hstep htail n _ { w with drawn := w.drawn + 1 } (fun _ => undef) hl inv0 hC0 (fun j hj hd _ => by rw [hnone j hj] at hd; cases hd)
 rw [putsF_none _ _ _ (fun j _ h2 => hnone j (by simp at h2; omega))] at key
 rw [show n + (l.length - n) = l.toArray.size by simp; omega] at key
 exact key
def uWalk (P : Program) (ops : Array Oper) (C : World → Prop) (R : Nat → World → World → Prop) (V : Nat → World → (Nat → Value) → Prop) (D : List (List Nat)) (T : Act → Prop) (us : Nat → Value) : Nat → List Oper → Act → Prop
 | _, [], a => T a
 | k, o :: r, a => (∀ w', C w' → (∀ d ∈ D.getD k [], V d w' us) → kStep P ops (R k) (fun w u => V k w (updU us k u)) o a w') ∧ uWalk P ops C R V D T us (k + 1) r (a.put o.dst (us k))
theorem uWalk_parts {C : World → Prop} {R : Nat → World → World → Prop} {V : Nat → World → (Nat → Value) → Prop} {D : List (List Nat)} {T : Act → Prop} {us : Nat → Value} : ∀ (l : List Oper) (k : Nat) (a : Act), uWalk P ops C R V D T us k l a →
  (∀ j o, l[j]? = some o → ∀ w', C w' → (∀ d ∈ D.getD (k + j) [], V d w' us) → kStep P ops (R (k + j)) (fun w u => V (k + j) w (updU us (k + j) u)) o (putsL us k (l.take j) a) w') ∧ T (putsL us k l a)
 | [], _, _, h => ⟨fun j o hj => by simp at hj, h⟩
 | o :: r, k, a, h => by
  obtain ⟨h1, h2⟩ := uWalk_parts r (k + 1) _ h.2
  refine ⟨fun j o' hj => ?_, h2⟩
  cases j with
  | zero =>
   have : o = o' := by simpa using hj
   subst this
   exact h.1
  | succ j =>
   have := h1 j o' (by simpa using hj)
   rw [show k + 1 + j = k + (j + 1) by omega] at this
   exact this
theorem wp_region_webU' {id : Nat} {Q : Exit → Act → World → Prop} {a : Act} {w : World} {l : List Oper} (n : Nat) (D : List (List Nat)) (V : Nat → World → (Nat → Value) → Prop) (C : World → Prop) (R : Nat → World → World → Prop) (m : Nat) (kd ch : List Nat) (hm : P.follows .mixedOrders = true) (hB : webB l.toArray n D = true) (hKD : ((List.range n).all fun i => ((D.getD i []).all fun d => !kd.contains d) || chB l.toArray m ch i) = true) (hC0 : C { w with drawn := w.drawn + 1 })
  (hC : ∀ k w w', C w → R k w w' → C w')
  (hcong : ∀ j w us us', j < n → us j = us' j → (∀ d ∈ D.getD j [], us d = us' d) → V j w us → V j w us')
  (hV : ∀ j k w w' us, j < n → j ≠ k → (k = m → j ∉ kd) → C w → R k w w' → V j w us → V j w' us)
  (h : ∀ us, uWalk P l.toArray C R V D (fun a' => ∀ w', C w' → (∀ k, k < n → k ∉ kd → V k w' us) → wpList P l.toArray Q (l.drop n) a' w') us 0 (l.take n) a) : (Code.region id l.toArray true).wp P Q a w := by
 refine wp_region_webU n D V C R m kd ch hm hB hKD hC0 hC hcong hV (fun k o hk ho us w' hx hd => ?_) (fun us w' hx hv => (uWalk_parts _ _ _ (h us)).2 w' hx hv)
 have := (uWalk_parts _ _ _ (h us)).1 k o (by rw [List.getElem?_take, if_pos hk]; exact ho) w' hx (by rw [Nat.zero_add]; exact hd)
 rw [Nat.zero_add, List.take_take, Nat.min_eq_left (by omega)] at this
 exact this
end
end Go.Proofs.YtfaplefkakpgcaaGreatDoor
