/- A region that draws its order: all head operations but the last one yield one value from every later world and let the world only grow; the last head operation (an alloc, a literal in memory, a call that hands back new memory) may come at any time: of what it yields a lasting property is known; then comes a forced tail. One walk in the order of the text serves. -/
import Derived.Test.YtmcoepkopfcbdaaMf1
import Derived.Deep.RegionHeld3
import Derived.Deep.DeepCutAuto
import Derived.Lib.BufferWrite
import Derived.Deep.OwnRows
import Derived.Maps.AppendAt
import Derived.Lib.AppendStr
import Derived.RangeFuncWrites
import Derived.Lib.Builder
import Derived.Laws.Bits128
namespace Go.Proofs.Ytmcoepkopfcbdaa
open Go.RowKit

section
variable {P : Program} {ops : Array Oper} {md : Region.Mode} {w0 : World} {V : World → Value → Prop}

def cls (w0 : World) (S : World → Prop) (w : World) : Prop := Ext w0 w ∧ S w
def calmUpon (P : Program) (w : World) (v : Value) : Result Next → Prop
  | .ok (.value u) w' => w' = w ∧ u = v
  | .ok .skip w' => w' = w ∧ v = undef
  | .ok (.enter f args) w' => w' = w ∧ Calls P f args w (fun e w'' => e = .returned v ∧ Ext w w'')
  | _ => False
def looseUpon (P : Program) (V : World → Value → Prop) (w : World) : Result Next → Prop
  | .ok (.value u) w' => Ext w w' ∧ V w' u
  | .ok (.enter f args) w' => w' = w ∧ Calls P f args w (fun e w'' => ∃ u, e = .returned u ∧ Ext w w'' ∧ V w'' u)
  | _ => False
def looseAt (P : Program) (o : Oper) (a : Act) (w0 : World) (V : World → Value → Prop) : Prop := ∀ x : Later w0, looseUpon P V x.now ((execOp a.eval o).run P x.now)
def calm (P : Program) (o : Oper) (a : Act) (w0 : World) (next : Act → Prop) : Prop := ∃ v, (∀ x : Later w0, calmUpon P x.now v ((execOp a.eval o).run P x.now)) ∧ next (a.put o.dst v)
def wpCalm (P : Program) (ops : Array Oper) (w0 : World) (Q : Act → Prop) : List Oper → Act → Prop
  | [], a => Q a
  | o :: rest, a => if Region.wanted o (yielded ops a.tmps) then calm P o a w0 (wpCalm P ops w0 Q rest) else wpCalm P ops w0 Q rest (a.put o.dst undef)
theorem wpCalm_nil {Q : Act → Prop} {a : Act} (h : Q a) : wpCalm P ops w0 Q [] a := h
theorem wpCalm_step {Q : Act → Prop} {a : Act} {o : Oper} {rest : List Oper}
    (h : ∀ K : Act → Prop, (∀ a, wpCalm P ops w0 Q rest a → K a) → if Region.wanted o (yielded ops a.tmps) then calm P o a w0 K else K (a.put o.dst undef)) : wpCalm P ops w0 Q (o :: rest) a :=
  h _ (fun _ h => h)

/-- at a, from every later world, o leaves v in its slot and lets the world only grow -/
def YC (P : Program) (ops : Array Oper) (w0 : World) (o : Oper) (v : Value) (a : Act) : Prop :=
  (Region.wanted o (yielded ops a.tmps) = true ∧ ∀ x : Later w0, calmUpon P x.now v ((execOp a.eval o).run P x.now)) ∨
  (Region.wanted o (yielded ops a.tmps) = false ∧ v = undef)
theorem YC.of_same {o : Oper} {v : Value} {a a' : Act} (hy : YC P ops w0 o v a) (he : execOp a'.eval o = execOp a.eval o)
    (hw : Region.wanted o (yielded ops a'.tmps) = Region.wanted o (yielded ops a.tmps)) : YC P ops w0 o v a' := by
  unfold YC at *
  rw [he, hw]
  exact hy
theorem YC.yields {o : Oper} {v : Value} {a : Act} {S : World → Prop} (hS : ∀ w w', Ext w w' → S w → S w') (hy : YC P ops w0 o v a) : YieldsIn P ops (cls w0 S) o v a := by
  rcases hy with ⟨hw, h⟩ | h
  · refine Or.inl ⟨hw, fun w hc => ?_⟩
    have h1 := h ⟨w, hc.1⟩
    unfold Oper.quietAt
    simp only at h1
    generalize (execOp a.eval o).run P w = r at *
    cases r with
    | ok n w' =>
      cases n <;> simp only [calmUpon] at h1 <;> simp only [Oper.quietUpon]
      case value u => exact h1
      case skip => exact h1
      case enter f args => exact ⟨h1.1, h1.2.mono fun e w'' ⟨he, hx⟩ => ⟨he, hc.1.trans hx, hS _ _ hx hc.2⟩⟩
    | halt x w' => simp only [calmUpon] at h1
  · exact Or.inr h
theorem yc_of_calm {o : Oper} {a : Act} {K : Act → Prop} (h : if Region.wanted o (yielded ops a.tmps) then calm P o a w0 K else K (a.put o.dst undef)) : ∃ v, YC P ops w0 o v a ∧ K (a.put o.dst v) := by
  by_cases hw : Region.wanted o (yielded ops a.tmps) = true
  · rw [if_pos hw] at h
    obtain ⟨v, h1, h2⟩ := h
    exact ⟨v, .inl ⟨hw, h1⟩, h2⟩
  · rw [if_neg hw] at h
    exact ⟨undef, .inr ⟨by simpa using hw, rfl⟩, h⟩
theorem qOp_putC {C : World → Prop} {j : Nat} {oi oj : Oper} {v : Value} (hj : ops[j]? = some oj) (hap : oi.apart ops oj = true)
    (hsi : ∀ cs b, oi.op ≠ .select cs b) (hsj : ∀ cs b, oj.op ≠ .select cs b) {K : Act → Prop} {a : Act}
    (hy : YC P ops w0 oi v a) (h : qOp P ops C j K (a.put oi.dst v)) :
    qOp P ops C j (fun a' => YC P ops w0 oi v a' ∧ K (a'.put oi.dst v)) a := by
  obtain ⟨h1, h2, h3⟩ := Oper.apart_spec hap
  have stay : ∀ u, YC P ops w0 oi v (a.put oj.dst u) := fun u => hy.of_same (execOp_put oi hsi a oj.dst u h3) (wanted_put oi a oj.dst u h3)
  unfold qOp at *
  simp only [hj] at *
  rw [wanted_put oj a oi.dst v h1] at h
  split
  · rename_i hw
    simp only [hw, if_true] at h
    obtain ⟨u, hu, hn⟩ := h
    refine ⟨u, fun w hw' => ?_, stay u, by rw [← Act.put_comm a v u h2]; exact hn⟩
    have := hu w hw'
    unfold Oper.quietAt at *
    rwa [execOp_put oj hsj a oi.dst v h1] at this
  · rename_i hw
    simp only [hw] at h
    exact ⟨stay _, by rw [← Act.put_comm a v undef h2]; exact h⟩

theorem wp_of_loose {o : Oper} {a : Act} {K : Act → World → Prop} {Q : Exit → Act → World → Prop} {w : World} (hw : Ext w0 w) (h : looseAt P o a w0 V)
    (hk : ∀ u w', Ext w0 w' → V w' u → K (a.put o.dst u) w') : o.wp P a w K Q := by
  have h3 := h ⟨w, hw⟩
  simp only at h3
  unfold Oper.wp
  generalize (execOp a.eval o).run P w = r at *
  cases r with
  | ok n w' =>
    cases n <;> simp only [looseUpon] at h3 <;> simp only [Oper.upon]
    case value u => exact hk _ _ (hw.trans h3.1) h3.2
    case enter f args =>
      obtain ⟨e1, hc⟩ := h3
      rw [e1]
      exact hc.mono fun e w'' ⟨u, he, hx, hv⟩ => by subst he; exact hk _ _ (hw.trans hx) hv
  | halt x w' => simp only [looseUpon] at h3

/-- the floating operation (number n - 1) has not come yet -/
def pend (P : Program) (md : Region.Mode) (ops : Array Oper) (w0 : World) (V : World → Value → Prop) (n : Nat) (o0 : Oper) (L : Value → Array Bool → Act → Prop) : Nat → Array Bool → Act → Prop
  | 0, _, _ => False
  | f + 1, s, a => Region.ready md ops s ≠ [] ∧ ∀ i ∈ Region.ready md ops s, i < n ∧
      (i + 1 = n → looseAt P o0 a w0 V ∧ ∀ u, headQ P md ops (cls w0 (fun w => V w u)) n (L u) f (s.setIfInBounds i true) (a.put o0.dst u)) ∧
      (i + 1 ≠ n → qOp P ops (cls w0 fun _ => True) i (pend P md ops w0 V n o0 L f (s.setIfInBounds i true)) a)

theorem any_of_pend {n g : Nat} {o0 : Oper} {L : Value → Array Bool → Act → Prop} {Q : Exit → Act → World → Prop} (h0 : ops[n - 1]? = some o0) (hg0 : o0.guard = none)
    (hL : ∀ u s a w, cls w0 (fun w => V w u) w → L u s a → wpAny P md ops Q g s a w) :
    ∀ (f : Nat) (s : Array Bool) (a : Act) (w : World), Ext w0 w → pend P md ops w0 V n o0 L f s a → wpAny P md ops Q (f + g) s a w := by
  intro f
  induction f with
  | zero => intro s a w _ h; exact h.elim
  | succ f ih =>
    intro s a w hw h
    rw [show f + 1 + g = (f + g) + 1 by omega]
    refine ⟨fun h0 => absurd h0 h.1, fun i hi => ?_⟩
    obtain ⟨hin, h1, h2⟩ := h.2 i hi
    by_cases e : i + 1 = n
    · obtain ⟨hl, hd⟩ := h1 e
      have hi0 : ops[i]? = some o0 := by rw [← h0]; congr 1; omega
      unfold wpOp
      simp only [hi0]
      have hwant : Region.wanted o0 (yielded ops a.tmps) = true := by simp [Region.wanted, hg0]
      rw [if_pos hwant]
      exact Or.inl (wp_of_loose hw hl fun u w' hx hv => any_of_headQ (hL u) f _ _ w' ⟨hx, hv⟩ (hd u))
    · exact wpOp_of_qOp (C := cls w0 fun _ => True) ⟨hw, trivial⟩ (fun a' w' hw' h' => ih _ a' w' hw'.1 h') (h2 e)

theorem pend_first {n i : Nat} {oi o0 : Oper} {v : Value} {L : Value → Array Bool → Act → Prop} (hV : ∀ u w w', Ext w w' → V w u → V w' u) (h0 : ops[n - 1]? = some o0)
    (hi : ops[i]? = some oi) (hsel : ∀ (j : Nat) (o : Oper) cs b, ops[j]? = some o → o.op ≠ .select cs b)
    (hs : Region.sinkB md ops n = true) (hc : Region.chainB md ops n = true) (hn : n < ops.size) (hin : i + 1 < n)
    (hdone : ∀ u s a, L u s a → ∀ j ∈ Region.ready md ops s, n ≤ j) :
    ∀ (f : Nat) (s : Array Bool) (a : Act), HeadInv md ops n s →
      (∀ j oj, ops[j]? = some oj → j ≠ i → s.getD j true = false → (∀ e ∈ oj.after, Region.binds md e = true → e.on ≠ i) → oi.apart ops oj = true) →
      i ∈ Region.ready md ops s → YC P ops w0 oi v a →
      pend P md ops w0 V n o0 L f (s.setIfInBounds i true) (a.put oi.dst v) → pend P md ops w0 V n o0 L (f + 1) s a := by
  intro f
  induction f with
  | zero => intro s a _ _ _ _ H; exact H.elim
  | succ f ih =>
    intro s a inv hfree hr hy H
    have hun := (mem_ready.1 hr).1
    refine ⟨List.ne_nil_of_mem hr, fun j hj => ?_⟩
    have hjn : j < n := Nat.lt_of_not_le fun h => absurd hj (tail_waits hs hc hn inv _ i rfl (by omega) hun j h)
    obtain ⟨hjun, oj, hoj, hall⟩ := mem_ready.1 hj
    have hnot : j ≠ i → ∀ e ∈ oj.after, Region.binds md e = true → e.on ≠ i := fun _ e he hb heq => by
      have h1 := hall e he hb
      rw [heq, getD_both hun] at h1
      cases h1
    have hfree' : j ≠ i → ∀ k ok, ops[k]? = some ok → k ≠ i → (s.setIfInBounds j true).getD k true = false → (∀ e ∈ ok.after, Region.binds md e = true → e.on ≠ i) → oi.apart ops ok = true := fun _ k ok hk hki hu hno => by
      refine hfree k ok hk hki ?_ hno
      by_cases hjk : j = k
      · subst hjk; exact hjun
      · rw [getD_set_ne true hjk] at hu; exact hu
    refine ⟨hjn, fun e => ?_, fun e => ?_⟩
    · have hji : j ≠ i := by omega
      have hj0 : oj = o0 := Option.some.inj (by rw [← hoj, ← h0]; congr 1; omega)
      subst hj0
      obtain ⟨k1, k2, k3⟩ := Oper.apart_spec (hfree j oj hoj hji hjun (hnot hji))
      obtain ⟨_, hq, _⟩ := H.2 j (ready_mono hj hji)
      obtain ⟨hl, hd⟩ := hq e
      refine ⟨fun x => ?_, fun u => ?_⟩
      · have := hl x
        rwa [execOp_put oj (fun cs b => hsel j oj cs b hoj) a oi.dst v k1] at this
      · have hy' : YC P ops w0 oi v (a.put oj.dst u) := hy.of_same (execOp_put oi (fun cs b => hsel i oi cs b hi) a oj.dst u k3) (wanted_put oi a oj.dst u k3)
        refine headQ_first hi hsel hs hc hn (by omega) (hdone u) f (s.setIfInBounds j true) (a.put oj.dst u) (inv.set hj hjn) (hfree' hji) (ready_mono hr (Ne.symm hji)) (hy'.yields (hV u)) ?_
        rw [Array.setIfInBounds_comm _ _ hji, ← Act.put_comm a v u k2]
        exact hd u
    · by_cases hji : j = i
      · subst hji
        have : oj = oi := Option.some.inj (hoj.symm.trans hi)
        subst this
        exact (hy.yields (S := fun _ => True) (fun _ _ _ _ => trivial)).qOp hi H
      · have h2 := qOp_putC hoj (hfree j oj hoj hji hjun (hnot hji)) (fun cs b => hsel i oi cs b hi) (fun cs b => hsel j oj cs b hoj) hy ((H.2 j (ready_mono hj hji)).2.2 e)
        refine qOp_mono (fun a' h3 => ih (s.setIfInBounds j true) a' (inv.set hj hjn) (hfree' hji) (ready_mono hr (Ne.symm hji)) h3.1 ?_) h2
        rw [Array.setIfInBounds_comm _ _ hji]; exact h3.2

theorem pend_lex {n g : Nat} {o0 : Oper} {T : Act → World → Prop} (hV : ∀ u w w', Ext w w' → V w u → V w' u) (h0 : ops[n - 1]? = some o0)
    (hsel : Region.noSelect ops = true) (hs : Region.sinkB md ops n = true) (hc : Region.chainB md ops n = true) (hn : n < ops.size) :
    ∀ (l : List Oper) (k : Nat) (s : Array Bool) (a : Act), (∀ j, j < l.length → l[j]? = ops[k + j]?) → k + l.length + 1 = n → HeadInv md ops n s → (∀ j, j < k → s.getD j true = true) →
    Region.lexHead md ops g (l.length + 1) k s = true → wpCalm P ops w0 (fun a => looseAt P o0 a w0 V ∧ ∀ u w', Ext w0 w' → V w' u → T (a.put o0.dst u) w') l a →
    pend P md ops w0 V n o0 (fun u s' a' => Region.seqB md ops g n s' = true ∧ ∀ w', Ext w0 w' → V w' u → T a' w') (l.length + 1) s a := by
  intro l
  induction l with
  | nil =>
    intro k s a _ hk inv hpre hB h
    simp only [List.length_nil, Region.lexHead, Bool.and_eq_true] at hB
    obtain ⟨⟨hr, hf⟩, hB'⟩ := hB
    have hr' : k ∈ Region.ready md ops s := by simpa using hr
    have hkn : k + 1 = n := by simpa using hk
    refine ⟨List.ne_nil_of_mem hr', fun i hi => ?_⟩
    have hin : i < n := Nat.lt_of_not_le fun h => absurd hi (tail_waits hs hc hn inv _ k rfl (by omega) (mem_ready.1 hr').1 i h)
    have hik : i = k := by
      rcases Nat.lt_or_ge i k with c | c
      · have := (mem_ready.1 hi).1
        rw [hpre i c] at this; cases this
      · omega
    subst hik
    refine ⟨hin, fun _ => ⟨h.1, fun u => ⟨?_, fun w' hx hv => h.2 u w' hx hv⟩⟩, fun e => absurd hkn e⟩
    rw [← hkn]; exact hB'
  | cons o l ih =>
    intro k s a hl hk inv hpre hB h
    have h1 : ops[k]? = some o := by simpa using (hl 0 (by simp)).symm
    rw [List.length_cons] at hB hk
    simp only [Region.lexHead, Bool.and_eq_true] at hB
    obtain ⟨⟨hr, hf⟩, hB'⟩ := hB
    have hr' : k ∈ Region.ready md ops s := by simpa using hr
    obtain ⟨v, hy, hK⟩ := yc_of_calm h
    refine pend_first hV h0 h1 (Region.noSelect_spec hsel) hs hc hn (by omega) (fun u s' a' hL => seqB_ready hL.1) (l.length + 1) s a inv (Region.free_spec h1 hf) hr' hy
      (ih (k + 1) _ _ (fun j hj => by have := hl (j + 1) (by simp; omega); simpa [Nat.add_assoc, Nat.add_comm 1 j] using this) (by omega) (inv.set hr' (by omega)) (fun j hj => ?_) (by simp only [Region.lexHead, Bool.and_eq_true]; exact hB') hK)
    by_cases e : k = j
    · subst e
      have := (mem_ready.1 hr').1
      rcases Nat.lt_or_ge k s.size with c | c
      · simp [c]
      · simp [Array.getElem?_eq_none c] at this
    · rw [getD_set_ne true e]; exact hpre j (by omega)

theorem wp_region_float {id : Nat} {Q : Exit → Act → World → Prop} {a : Act} {w : World} {l : List Oper} (n : Nat) (V : World → Value → Prop) (hV : ∀ u w w', Ext w w' → V w u → V w' u) (o0 : Oper)
    (hm : P.follows .mixedOrders = true) (hB : Region.lexTailB .any l.toArray n = true) (hn1 : 1 ≤ n) (h0 : l[n - 1]? = some o0) (hg0 : o0.guard = none)
    (h : wpCalm P l.toArray w (fun a' => looseAt P o0 a' w V ∧ ∀ u w', Ext w w' → V w' u → wpList P l.toArray Q (l.drop n) (a'.put o0.dst u) w') (l.take (n - 1)) a) : (Code.region id l.toArray true).wp P Q a w := by
  simp only [Region.lexTailB, Bool.and_eq_true, decide_eq_true_eq] at hB
  obtain ⟨⟨⟨⟨hsel, hn⟩, hs⟩, hc⟩, hlex⟩ := hB
  have hn' : n < l.length := by simpa using hn
  have htl : (l.take (n - 1)).length = n - 1 := by simp; omega
  have hdl : (l.drop n).length = l.toArray.size - n := by simp
  have inv0 : HeadInv .any l.toArray n (Array.replicate l.toArray.size false) :=
    ⟨by simp, fun j oj _ hl => (by rw [getD_replicate_false] at hl; cases hl), fun t _ ht => getD_in (by simpa using ht) (getD_replicate_false _ _)⟩
  have H := pend_lex (md := .any) (g := l.toArray.size - n) hV (o0 := o0) (by simpa using h0) hsel hs hc hn (l.take (n - 1)) 0 _ a (fun j hj => by
    have hj' : j < n - 1 := by rw [htl] at hj; exact hj
    simp [hj']) (by omega) inv0 (fun j hj => absurd hj (by omega)) (by rw [htl, show n - 1 + 1 = n by omega]; exact hlex) h
  refine wp_region_any hm ?_
  have key := any_of_pend (Q := Q) (g := l.toArray.size - n) (by simpa using h0) hg0 (fun u s a' w' hw' hL => by
    have := wpAny_of_seq (md := .any) (Q' := Q) (l.drop n) n s a' w' (fun j => by simp [List.getElem?_drop]) (by rw [hdl]; exact hL.1) (hL.2 w' hw'.1 hw'.2)
    rwa [hdl] at this) _ _ _ _ ((Ext.refl w).drew) H
  rw [htl, show n - 1 + 1 + (l.toArray.size - n) = l.toArray.size by omega] at key
  exact key
end
attribute [go_sem] calm calmUpon looseAt looseUpon

/-- a new block of these cells, for good -/
def NewBox (w0 : World) (t : TypeId) (Z : Array Value) (w : World) (u : Value) : Prop := ∃ g, u = .pointer (some ⟨g, 0, none⟩) ∧ w0.heap.size ≤ g ∧ Box w g t Z
theorem NewBox.keep (w0 : World) (t : TypeId) (Z : Array Value) (u : Value) (w w' : World) (h : Ext w w') (k : NewBox w0 t Z w u) : NewBox w0 t Z w' u := by
  obtain ⟨g, e, hg, hb⟩ := k
  exact ⟨g, e, hg, hb.ext h⟩
theorem newBox_alloc {w0 : World} (x : Later w0) (t : TypeId) (Z : Array Value) : Ext x.now (x.now.alloc (.cells Z t)) ∧ NewBox w0 t Z (x.now.alloc (.cells Z t)) (.pointer (some ⟨x.now.heap.size, 0, none⟩)) :=
  ⟨(Ext.refl _).alloc _, x.now.heap.size, rfl, x.ext.size, Box.new _ _ _⟩
end Go.Proofs.Ytmcoepkopfcbdaa
/- The walk of geom.Of on a volume that is one. -/
namespace Go.Proofs.Ytmcoepkopfcbdaa
open Go.RowKit

theorem get2_at (p q : UInt8) (B : Int) (w : World) (h : (p.toNat : Int) + 256 * q.toNat = B) :
    Calls Try.prog 65 #[.string (str [p, q])] w fun e w' => e = .returned (.int .u64 B) ∧ w = w' := by
  subst h; exact get2 p q w
theorem two_back (B : Int) (h0 : 0 ≤ B) (h1 : B ≤ 65535) : ((b8 (B % 256)).toNat : Int) + 256 * (b8 (B / 256)).toNat = B := by
  rw [b8_toNat _ (by omega) (by omega), b8_toNat _ (by omega) (by omega)]; omega
theorem head_46 (B I : Int) : (str (headL B I)).extract 4 6 = str [b8 (B % 256), b8 (B / 256)] := by rw [str_ext]; rfl
theorem head_68 (B I : Int) : (str (headL B I)).extract 6 8 = str [b8 (I % 256), b8 (I / 256)] := by rw [str_ext]; rfl
/-- v is a volume with I inodes -/
structure Good (v : List (List UInt8)) (I : Int) : Prop where
  all : ∀ (j : Nat) (h : j < v.length), v[j].length = 128
  plan : planB v.length I = true
  head : v.getD 0 [] = headL v.length I
  low : ∀ i : Nat, (i : Int) < 3 + (I + 1) / 2 → bitB (v.getD 2 []) i = true
  high : ∀ i : Nat, i < 1024 → v.length ≤ i → bitB (v.getD 2 []) i = false
theorem plan_bd {B I : Int} (h : planB B I = true) : 16 ≤ B ∧ B ≤ 223 ∧ 4 ≤ I ∧ I ≤ 64 ∧ 3 + (I + 1) / 2 < B := by simpa [planB] using h

set_option maxHeartbeats 1000000 in
set_option maxRecDepth 100000 in
theorem of_yes (A : Option Addr) (n c : Nat) (v : List (List UInt8)) (I : Int) (w : World) (hv : Strs w A n v) (hg : Good v I) :
    Calls Try.prog 42 #[.slice A n c] w fun e w' => e = .returned (.tuple #[geomV v.length I, .int .i64 0]) ∧ Ext w w' := by
  have hpl := plan_bd hg.plan
  obtain ⟨rfl, hv2⟩ := hv
  obtain ⟨b, o, rfl, hcell⟩ := hv2 (by omega)
  have hlt : b < w.heap.size := World.block_lt_of_cell? w _ (hcell 0 (by omega))
  have hz := str_size
  go_enter Try.func42, Try.ntmps42
  go_wp2_with fail
  generalize hw1 : w.alloc _ = w1
  have x1 : Ext w w1 := by rw [← hw1]; exact (Ext.refl _).alloc _
  have r1 : Box w1 w.heap.size 66 #[.int .i64 0, .int .i64 0, .int .i64 0, .int .i64 0, .int .i64 0, .int .i64 0] := by rw [← hw1]; exact Box.new _ _ _
  clear hw1
  go_loop [5, 12] (fun _ i => ∃ k : Nat, k ≤ v.length ∧ i = .int .i64 k) (fun _ i => v.length - (intOf i).toNat)
  case atStart => exact ⟨0, by omega, rfl⟩
  case round =>
    obtain ⟨k, hk, rfl⟩ := hrel
    by_cases hlt2 : k < v.length
    · have hck : w1.cell? ⟨b, o + k, none⟩ = some (.string (str v[k])) := x1.keep (hcell k hlt2)
      have hlk : ((v[k].length : Int) != 128) = false := by rw [hg.all k hlt2]; rfl
      go_wp2_with fail
      go_round
      case rel => exact ⟨k + 1, by omega, by go_num⟩
      case measure => simp [intOf]; omega
    · go_wp2_with fail
      go_cut [6, 7] (fun s6 s7 wx => ∃ g : Nat, s6 = .pointer (some ⟨g, 0, none⟩) ∧ s7 = .int .i64 0 ∧ w1.heap.size ≤ g ∧ Ext w1 wx ∧ Box wx g 66 #[.int .i64 v.length, .int .i64 I, .int .i64 1, .int .i64 2, .int .i64 3, .int .i64 (3 + (I + 1) / 2)])
      case first =>
        have hb1 : b < w1.heap.size := Nat.lt_of_lt_of_le hlt x1.size
        have hv0 : v[0]'(by omega) = headL v.length I := by
          have := hg.head; rw [List.getD_eq_getElem?_getD, List.getElem?_eq_getElem (by omega)] at this; exact this
        have c0 : ∀ x : Later w1, x.now.cell? ⟨b, o, none⟩ = some (.string (str (headL v.length I))) := by
          have := x1.keep (hcell 0 (by omega)); rw [hv0] at this; exact fun x => x.ext.keep this
        have e46 := head_46 v.length I
        have e68 := head_68 v.length I
        have zH : (str (headL v.length I)).size = 128 := by rw [str_size, headL_len]
        have gB := fun w => get2_at _ _ (v.length : Int) w (two_back v.length (by omega) (by omega))
        have gI := fun w => get2_at _ _ I w (two_back I (by omega) (by omega))
        have HP := Lib.hid hg.plan
        generalize headL v.length I = H at *
        generalize b8 ((v.length : Int) % 256) = p at *
        generalize b8 ((v.length : Int) / 256) = q at *
        generalize b8 (I % 256) = r at *
        generalize b8 (I / 256) = s at *
        have hn0 : 0 < v.length := by omega
        have hn1 : (0 : Int) < (v.length : Int) := by omega
        have GB := Lib.hid gB
        have GI := Lib.hid gI
        clear gB gI
        have wB : IntKind.i64.wrap (v.length : Int) = v.length := by rw [IntKind.wrap_i64]; omega
        have wI : IntKind.i64.wrap I = I := by rw [IntKind.wrap_i64]; omega
        have c0 := c0 ⟨w1, Ext.refl _⟩
        simp only at c0
        have cA : (w1.alloc (.cells #[.int .i64 0, .int .i64 0, .int .i64 0, .int .i64 0, .int .i64 0, .int .i64 0] 66)).cell? ⟨b, o, none⟩ = some (.string (str H)) := Ext.keep ((Ext.refl _).alloc _) c0
        have bne : ¬ b = w1.heap.size := by omega
        have bne' : ¬ w1.heap.size = b := by omega
        clear hcell hz
        go_region_held3 (fun w' => w'.cell? ⟨b, o, none⟩ = some (.string (str H)))
          (first | (with_reducible exact c0) | (with_reducible exact cB) | (with_reducible exact cA) | (with_reducible exact Ext.keep ((Ext.refl _).alloc _) cB) | go_keep) (first
          | (go_at_call_of 65 (str [p, q]); refine (GB.out _).mono ?_; rintro e w' ⟨rfl, rfl⟩)
          | (go_at_call_of 65 (str [r, s]); refine (GI.out _).mono ?_; rintro e w' ⟨rfl, rfl⟩)
          | (go_at_call 64; (with_reducible refine (plan_yes _ _ (World.drew (World.alloc w1 _)) HP.out).mono ?_); rintro e w' ⟨rfl, hgp⟩; have HX := Lib.hid (((Ext.refl w1).alloc _).trans (Ext.undrew hgp)); have cB := Ext.keep hgp (show (World.drew (World.alloc w1 _)).cell? ⟨b, o, none⟩ = some (.string (str H)) from Ext.keep ((Ext.refl _).alloc _) c0); have bx := Box.ext (Box.new w1 66 #[.int .i64 0, .int .i64 0, .int .i64 0, .int .i64 0, .int .i64 0, .int .i64 0]) (Ext.undrew hgp); have y0 := bx.cell 0; have f0 := bx.frozen 0; have y1 := bx.cell 1; have f1 := bx.frozen 1; have y2 := bx.cell 2; have f2 := bx.frozen 2; have y3 := bx.cell 3; have f3 := bx.frozen 3; have y4 := bx.cell 4; have f4 := bx.frozen 4; have y5 := bx.cell 5; have f5 := bx.frozen 5; have BX := Lib.hid bx; clear bx; simp only [List.getElem?_toArray, List.getElem?_cons_zero, List.getElem?_cons_succ] at y0 y1 y2 y3 y4 y5; unfold geomV)
          | (go_at_call 64; refine (plan_yes _ _ _ HP.out).mono ?_; rintro e w' ⟨rfl, hgp⟩; have HX := Lib.hid (Ext.undrew hgp); have cB := Ext.keep hgp (show (World.drew w1).cell? ⟨b, o, none⟩ = some (.string (str H)) from c0); unfold geomV))
        · go_wp2_with fail
          go_meet
          exact ⟨w'.heap.size, rfl, rfl, HX.out.size, HX.out.alloc _, Box.new _ _ _⟩
        all_goals
          go_wp2_with fail
          go_meet
          refine ⟨w1.heap.size, rfl, rfl, Nat.le_refl _, ?_, ?_⟩
          · exact (((((HX.out.setCell (Nat.le_refl _) _).setCell (Nat.le_refl _) _).setCell (Nat.le_refl _) _).setCell (Nat.le_refl _) _).setCell (Nat.le_refl _) _).setCell (Nat.le_refl _) _
          · exact ((((((BX.out.set 0 _).set 1 _).set 2 _).set 3 _).set 4 _).set 5 _)
      case rest =>
        obtain ⟨g, rfl, rfl, hg6, xc, bc⟩ := hcut
        have hb1 : b < w1.heap.size := Nat.lt_of_lt_of_le hlt x1.size
        have hv0 : v[0]'(by omega) = headL v.length I := by
          have := hg.head; rw [List.getD_eq_getElem?_getD, List.getElem?_eq_getElem (by omega)] at this; exact this
        have xw := x1.trans xc
        have c0 : ∀ x : Later wc, x.now.cell? ⟨b, o, none⟩ = some (.string (str (headL v.length I))) := by
          have := xw.keep (hcell 0 (by omega)); rw [hv0] at this; exact fun x => x.ext.keep this
        have c2 : wc.cell? ⟨b, o + 2, none⟩ = some (.string (str (v.getD 2 []))) := by
          have := xw.keep (hcell 2 (by omega))
          rw [List.getD_eq_getElem?_getD, List.getElem?_eq_getElem (by omega)]; exact this
        have l2 : (v.getD 2 []).length = 128 := by rw [List.getD_eq_getElem?_getD, List.getElem?_eq_getElem (by omega)]; exact hg.all 2 (by omega)
        have q0 : ∀ x : Later wc, x.now.cell? ⟨g, 0, none⟩ = some (.int .i64 v.length) := fun x => (bc.ext x.ext).cell 0
        have q1 : ∀ x : Later wc, x.now.cell? ⟨g, 1, none⟩ = some (.int .i64 I) := fun x => (bc.ext x.ext).cell 1
        have q2 : ∀ x : Later wc, x.now.cell? ⟨g, 2, none⟩ = some (.int .i64 1) := fun x => (bc.ext x.ext).cell 2
        have q3 : ∀ x : Later wc, x.now.cell? ⟨g, 3, none⟩ = some (.int .i64 2) := fun x => (bc.ext x.ext).cell 3
        have q4 : ∀ x : Later wc, x.now.cell? ⟨g, 4, none⟩ = some (.int .i64 3) := fun x => (bc.ext x.ext).cell 4
        have q5 : ∀ x : Later wc, x.now.cell? ⟨g, 5, none⟩ = some (.int .i64 (3 + (I + 1) / 2)) := fun x => (bc.ext x.ext).cell 5
        have HF : ∀ w, Hid (Calls Try.prog 66 #[.agg #[.int .i64 v.length, .int .i64 I, .int .i64 1, .int .i64 2, .int .i64 3, .int .i64 (3 + (I + 1) / 2)]] w fun e w' => e = .returned (.string (str (headL v.length I))) ∧ Ext w w') := fun w => Lib.hid (first_any v.length I w hg.plan)
        generalize headL v.length I = H at *
        have hn0 : 0 < v.length := by omega
        have hn1 : (0 : Int) < (v.length : Int) := by omega
        go_wp2_with fail
        refine wp_region_later (by kernel_rfl) (by kernel_rfl) ?_
        repeat (go_big_quiet_step ((exact later_of ((HF _).out))))
        refine wpQuiet_nil ?_
        rintro w5 ⟨x5, rfl⟩
        have xw5 := xw.trans x5.ext
        have d0 := q0 x5; have d1 := q1 x5; have d2 := q2 x5; have d3 := q3 x5; have d4 := q4 x5; have d5 := q5 x5
        have e2 := x5.ext.keep c2
        have r5 := (r1.ext xc).ext x5.ext
        clear q0 q1 q2 q3 q4 q5 c0 HF c2
        go_wp2_with fail
        go_loop [59] (fun t => ∃ m : Nat, m ≤ 1024 ∧ t = .int .i64 m) (fun t => 1024 - (intOf t).toNat)
        case atStart => exact ⟨0, by omega, rfl⟩
        case round =>
          obtain ⟨m, hm, rfl⟩ := hrel
          have HB := Lib.hid (fun (hm2 : m < 1024) w (h : w.cell? ⟨b, o + 2, none⟩ = some (.string (str (v.getD 2 [])))) => bit_any b o v.length c m (v.getD 2 []) w (by omega) h l2 hm2)
          by_cases hm2 : m < 1024
          · by_cases m1 : (m : Int) < 3 + (I + 1) / 2
            · have hbit := Lib.hid (hg.low m m1)
              go_wp2_with (go_at_call 52; refine (HB.out hm2 _ e2).mono ?_; rintro e w' ⟨rfl, rfl⟩; rw [hbit.out])
              go_round
              case rel => exact ⟨m + 1, by omega, by go_num⟩
              case measure => simp [intOf]; omega
            · have m1' : decide ((m : Int) < 3 + (I + 1) / 2) = false := by simpa using m1
              by_cases m3 : v.length ≤ m
              · have hbit := Lib.hid (hg.high m hm2 m3)
                have m3' : (v.length : Int) ≤ m := by omega
                go_wp2_with (go_at_call 52; refine (HB.out hm2 _ e2).mono ?_; rintro e w' ⟨rfl, rfl⟩; rw [hbit.out])
                go_round
                case rel => exact ⟨m + 1, by omega, by go_num⟩
                case measure => simp [intOf]; omega
              · have m3' : ¬ (v.length : Int) ≤ m := by omega
                have m3'' : decide ((v.length : Int) ≤ m) = false := by simpa using m3'
                go_wp2_with (go_at_call 52; refine (HB.out hm2 _ e2).mono ?_; rintro e w' ⟨rfl, rfl⟩)
                go_round
                case rel => exact ⟨m + 1, by omega, by go_num⟩
                case measure => simp [intOf]; omega
          · have z0 := r5.frozen 0; have z1 := r5.frozen 1; have z2 := r5.frozen 2; have z3 := r5.frozen 3; have z4 := r5.frozen 4; have z5 := r5.frozen 5
            have n0 := r5.cell 0; have n1 := r5.cell 1; have n2 := r5.cell 2; have n3 := r5.cell 3; have n4 := r5.cell 4; have n5 := r5.cell 5
            simp only [List.getElem?_toArray, List.getElem?_cons_zero, List.getElem?_cons_succ] at n0 n1 n2 n3 n4 n5
            have R5 := Lib.hid r5
            clear r5
            go_wp2_with fail
            have rF := ((((((R5.out.set 0 (.int .i64 v.length)).set 1 (.int .i64 I)).set 2 (.int .i64 1)).set 3 (.int .i64 2)).set 4 (.int .i64 3)).set 5 (.int .i64 (3 + (I + 1) / 2)))
            have xF := (((((xw5.setCell (p := ⟨w.heap.size, 0, none⟩) (Nat.le_refl _) (.int .i64 v.length)).setCell (p := ⟨w.heap.size, 1, none⟩) (Nat.le_refl _) (.int .i64 I)).setCell (p := ⟨w.heap.size, 2, none⟩) (Nat.le_refl _) (.int .i64 1)).setCell (p := ⟨w.heap.size, 3, none⟩) (Nat.le_refl _) (.int .i64 2)).setCell (p := ⟨w.heap.size, 4, none⟩) (Nat.le_refl _) (.int .i64 3)).setCell (p := ⟨w.heap.size, 5, none⟩) (Nat.le_refl _) (.int .i64 (3 + (I + 1) / 2))
            generalize (((((x5.now.setCell ⟨w.heap.size, 0, none⟩ (.int .i64 v.length)).setCell ⟨w.heap.size, 1, none⟩ (.int .i64 I)).setCell ⟨w.heap.size, 2, none⟩ (.int .i64 1)).setCell ⟨w.heap.size, 3, none⟩ (.int .i64 2)).setCell ⟨w.heap.size, 4, none⟩ (.int .i64 3)).setCell ⟨w.heap.size, 5, none⟩ (.int .i64 (3 + (I + 1) / 2)) = wf at rF xF ⊢
            have p0 := rF.cell 0; have p1 := rF.cell 1; have p2 := rF.cell 2; have p3 := rF.cell 3; have p4 := rF.cell 4; have p5 := rF.cell 5
            simp at p0 p1 p2 p3 p4 p5
            exact bodyPost_ret (v := .tuple #[geomV v.length I, .int .i64 0]) (by simp [results, Try.results42, go_sem, geomV, p0, p1, p2, p3, p4, p5]) rfl ⟨rfl, xF⟩
end Go.Proofs.Ytmcoepkopfcbdaa
/- The walk of geom.turned. -/
namespace Go.Proofs.Ytmcoepkopfcbdaa
open Go.RowKit

def zeroCells128 : Array Value := Array.replicate 128 (.int .u8 0)
theorem make128 (w : World) : (Instr.makeSlice 22 (.int .i64 128) (.int .i64 128)).run Try.prog w = .ok (.slice (some ⟨w.heap.size, 0, none⟩) 128 128) (w.alloc (.cells zeroCells128 5)) := by kernel_rfl
theorem byteSize : (Try.prog.info? 5).map (·.size) = some 1 := by kernel_rfl
theorem strSize : (Try.prog.info? 9).map (·.size) = some 1 := by kernel_rfl
/-- the bytes of a text as cells -/
def byteVals (m : List UInt8) : Array Value := (m.map fun c => Value.int .u8 (c.toNat : Int)).toArray
theorem setRow_box {w : World} {g : Nat} {t : TypeId} {cs ds : Array Value} (h : Box w g t cs) : Box (w.setRow g ds) g t ds := setRow_heap w g cs ds t (0, 0) h
theorem setRow_ext {a w : World} {g : Nat} {ds : Array Value} (h : Ext a w) (hg : a.heap.size ≤ g) : Ext a (w.setRow g ds) := by
  have k : Below a.heap.size a w := h
  refine ⟨k.os, k.tape, k.output, by simpa [World.setRow] using k.size, fun j hj => ?_⟩
  rw [← k.block j hj]
  simp only [World.setRow, Array.getElem?_modify]
  rw [if_neg (by omega)]
theorem copy128 (w : World) (g : Nat) (m : List UInt8) (hm : m.length = 128) (hb : Box w g 5 zeroCells128) (ty : TypeId) :
    (Builtin.copy_ #[22, 9] ty #[.slice (some ⟨g, 0, none⟩) 128 128, .string (str m)]).run Try.prog w = .ok (.int .i64 128) (w.setRow g (byteVals m)) := by
  have hz : (str m).size = 128 := by rw [str_size, hm]
  have h := Lib.run_copy_row_string (P := Try.prog) w 22 9 ty 5 g 0 128 128 (str m) zeroCells128 5 Try.underlying22 byteSize hb (by omega) (by rw [hz]; simp [zeroCells128])
  rw [h, hz]
  have e : (zeroCells128.toList.take 0 ++ Lib.byteCells (str m).data.toList ++ zeroCells128.toList.drop (0 + 128)).toArray = byteVals m := by
    rw [str_data]
    simp [zeroCells128, byteVals, Lib.byteCells]
  rw [e]; rfl
theorem byteVals_size (m : List UInt8) : (byteVals m).size = m.length := by simp [byteVals]
theorem byteVals_at (m : List UInt8) (k : Nat) (h : k < m.length) : (byteVals m)[k]? = some (.int .u8 ((m.getD k 0).toNat : Int)) := by
  simp [byteVals, h, List.getD]
theorem strInfo : (Try.prog.info? 9).map (fun i => (i.zero, i.size, i.bytes)) = some (some (.string ⟨#[]⟩), 1, 16) := by kernel_rfl
/-- a row of n empty texts, as cells -/
def emptyRow (n : Nat) : Array Value := madeCells #[.string ⟨#[]⟩] n
theorem makeStrs (n : Nat) (hn : n ≤ 1000) (w : World) : (Instr.makeSlice 24 (.int .i64 (n : Int)) (.int .i64 (n : Int))).run Try.prog w = .ok (.slice (some ⟨w.heap.size, 0, none⟩) n n) (w.alloc (.cells (emptyRow n) 9)) :=
  run_make_row' 24 9 (.string ⟨#[]⟩) 16 Try.underlying24 strInfo rfl .i64 .i64 n (by omega) (by omega) w
def strVals (v : List (List UInt8)) : Array Value := (v.map fun s => Value.string (str s)).toArray
theorem copyStrs (w : World) (g b o c : Nat) (v : List (List UInt8)) (hn : 0 < v.length) (hb : Box w g 9 (emptyRow v.length)) (hcell : ∀ (j : Nat) (h : j < v.length), w.cell? ⟨b, o + j, none⟩ = some (.string (str v[j]))) (ty : TypeId) :
    (Builtin.copy_ #[24, 24] ty #[.slice (some ⟨g, 0, none⟩) v.length v.length, .slice (some ⟨b, o, none⟩) v.length c]).run Try.prog w = .ok (.int .i64 v.length) (w.setRow g (strVals v)) := by
  have hsz : (emptyRow v.length).size = v.length := by simp [emptyRow, size_madeCells]
  have h := run_copy_row (P := Try.prog) w 24 24 ty 9 g 0 v.length v.length ⟨b, o, none⟩ v.length c (emptyRow v.length) 9 (v.map fun s => Value.string (str s)) Try.underlying24 strSize hb (by simp) (fun j u hj => by
    have hjl : j < v.length := by have := (List.getElem?_eq_some_iff.1 hj).1; simpa using this
    have ha : (⟨b, o, none⟩ : Addr).add j = ⟨b, o + j, none⟩ := by unfold Addr.add; split <;> simp_all
    rw [ha, hcell j hjl]
    simp [hjl] at hj; rw [← hj]) (by rw [hsz]; simp) (fun u hu => by
    simp only [List.mem_map] at hu
    obtain ⟨s, _, rfl⟩ := hu; rfl)
  rw [h]
  have e : ((emptyRow v.length).toList.take 0 ++ (v.map fun s => Value.string (str s)) ++ (emptyRow v.length).toList.drop (0 + (v.map fun s => Value.string (str s)).length)).toArray = strVals v := by
    rw [List.drop_of_length_le (by simp [hsz])]; simp [strVals]
  rw [e]; simp [goInt]
/-- a bit turned -/
def flipL (m : List UInt8) (i : Nat) : List UInt8 := m.set (i / 8) (b8 (((m.getD (i / 8) 0).toNat ^^^ 2 ^ (i % 8) : Nat) : Int))
theorem conv_box {w : World} {g k c : Nat} {l : List UInt8} (h : Box w g 5 (byteVals l)) (hk : l.length = k) :
    (convert 22 9 (.slice (some ⟨g, 0, none⟩) k c)).run Try.prog w = .ok (.string (str l)) w := by
  subst hk
  refine run_convert_bytes_back w 22 9 5 ⟨g, 0, none⟩ c l Try.underlying22 Try.underlying5 Try.underlying9 (fun j hj => ?_)
  have ha : (⟨g, 0, none⟩ : Addr).add j = ⟨g, j, none⟩ := by unfold Addr.add; split <;> simp_all
  rw [ha, h.cell j, byteVals_at l j hj]
  simp [List.getD, hj]
theorem own_of_box {w : World} {g n base : Nat} {t : TypeId} {cs : Array Value} (h : Box w g t cs) (hs : cs.size = n) (hg : base ≤ g) (hn : n ≤ maxLen) : w.ownsRow base t 1 (.slice (some ⟨g, 0, none⟩) n n) n cs.toList := by
  refine ⟨by simp [hs], Or.inr ⟨g, n, cs, rfl, hg, h, Nat.le_refl _, hn, by simp [hs], ?_⟩⟩
  rw [List.take_of_length_le (by simp [hs])]
theorem Box.setRow_other {w : World} {g g' : Nat} {t : TypeId} {cs ds : Array Value} (h : Box w g t cs) (hne : g ≠ g') : Box (w.setRow g' ds) g t cs := by
  have k : w.heap[g]? = some (.cells cs t (0, 0)) := h
  show (w.setRow g' ds).heap[g]? = _
  simp only [World.setRow, Array.getElem?_modify]
  rw [if_neg (Ne.symm hne)]; exact k
theorem xor_val (cc : UInt8) (i : Nat) : bits BinOp.xor IntKind.u8 (cc.toNat : Int) (2 ^ (i % 8) % 256) = ((cc.toNat ^^^ 2 ^ (i % 8) : Nat) : Int) := by
  have h8 : i % 8 < 8 := Nat.mod_lt _ (by omega)
  have hp : 2 ^ (i % 8) < 256 := by
    have : 2 ^ (i % 8) ≤ 2 ^ 7 := Nat.pow_le_pow_right (by omega) (by omega)
    omega
  have e : ((2 : Int) ^ (i % 8) % 256) = ((2 ^ (i % 8) : Nat) : Int) := by
    rw [show ((2 : Int) ^ (i % 8)) = ((2 ^ (i % 8) : Nat) : Int) from by rw [Int.natCast_pow]; rfl]
    exact Int.emod_eq_of_lt (Int.natCast_nonneg _) (Int.ofNat_lt.2 hp)
  rw [e]
  exact u8_xor_nat cc.toNat (2 ^ (i % 8)) cc.toNat_lt hp
theorem flip_vals (m : List UInt8) (i : Nat) (h : i / 8 < m.length) : (byteVals m).setIfInBounds (i / 8) (.int .u8 (((m.getD (i / 8) 0).toNat ^^^ 2 ^ (i % 8) : Nat) : Int)) = byteVals (flipL m i) := by
  have h8 : i % 8 < 8 := Nat.mod_lt _ (by omega)
  have hx : (m.getD (i / 8) 0).toNat ^^^ 2 ^ (i % 8) < 2 ^ 8 := Nat.xor_lt_two_pow (m.getD (i / 8) 0).toNat_lt (Nat.pow_lt_pow_right (by omega) h8)
  have hb := b8_toNat (((m.getD (i / 8) 0).toNat ^^^ 2 ^ (i % 8) : Nat) : Int) (by omega) (by omega)
  unfold flipL byteVals
  rw [List.map_set, hb]
  simp
set_option maxHeartbeats 1000000 in
set_option maxRecDepth 100000 in
theorem turned_any (b o n c i : Nat) (v : List (List UInt8)) (w : World) (hn : n = v.length) (h3 : 3 ≤ v.length) (hn2 : v.length ≤ 1000) (hcell : ∀ (j : Nat) (h : j < v.length), w.cell? ⟨b, o + j, none⟩ = some (.string (str v[j]))) (hm : (v.getD 2 []).length = 128) (hi : i < 1024) :
    Calls Try.prog 53 #[.slice (some ⟨b, o, none⟩) n c, .int .i64 i] w fun e w' =>
      ∃ u, e = .returned u ∧ Ext w w' ∧ w'.ownsRow w.heap.size 9 1 u v.length ((v.set 2 (flipL (v.getD 2 []) i)).map fun s => .string (str s)) := by
  subst hn
  have hmk := make128
  have c2 : w.cell? ⟨b, o + 2, none⟩ = some (.string (str (v.getD 2 []))) := by
    rw [List.getD_eq_getElem?_getD, List.getElem?_eq_getElem (by omega)]; exact hcell 2 (by omega)
  have hlt : b < w.heap.size := World.block_lt_of_cell? w _ c2
  generalize hmm : v.getD 2 [] = m at *
  have cA : (w.alloc (.cells zeroCells128 5)).cell? ⟨b, o + 2, none⟩ = some (.string (str m)) := ((Ext.refl w).alloc _).keep c2
  have cp := fun ty => copy128 (w.alloc (.cells zeroCells128 5)) w.heap.size m hm (Box.new _ _ _) ty
  go_enter Try.func53, Try.ntmps53
  go_wp2_with fail
  have bx : Box ((w.alloc (.cells zeroCells128 5)).setRow w.heap.size (byteVals m)) w.heap.size 5 (byteVals m) := setRow_box (Box.new _ _ _)
  have xx : Ext w ((w.alloc (.cells zeroCells128 5)).setRow w.heap.size (byteVals m)) := setRow_ext ((Ext.refl w).alloc _) (Nat.le_refl _)
  generalize (w.alloc (.cells zeroCells128 5)).setRow w.heap.size (byteVals m) = W2 at bx xx ⊢
  clear cp cA hmk
  have hi8 : i / 8 < 128 := by omega
  have q : ∀ x : Later W2, x.now.cell? ⟨w.heap.size, i / 8, none⟩ = some (.int .u8 ((m.getD (i / 8) 0).toNat : Int)) := fun x => ((bx.ext x.ext).cell (i / 8)).trans (byteVals_at m (i / 8) (by omega))
  have qf : ∀ x : Later W2, x.now.frozen? ⟨w.heap.size, i / 8, none⟩ = false := fun x => (bx.ext x.ext).frozen (i / 8)
  have t1 : (0 : Int) ≤ (i : Int) / 8 := by omega
  have t2 : (i : Int) / 8 < 128 := by omega
  have t3 : ((i : Int) / 8).toNat = i / 8 := by omega
  have t4 : (0 : Int) ≤ (i : Int) % 8 := by omega
  have t5 : (i : Int) % 8 < 8 := by omega
  have hcb := byte_bd (m.getD (i / 8) 0)
  generalize hcc : m.getD (i / 8) 0 = cc at q hcb
  refine wp_region_later_tail 10 (by kernel_rfl) (by kernel_rfl) ?_
  simp only [List.take_succ_cons, List.take_zero, List.drop_succ_cons, List.drop_zero]
  repeat (go_big_quiet_step (fail))
  refine wpQuiet_nil ?_
  rintro w2 ⟨x2, rfl⟩
  have q' := q x2
  have qf' := qf x2
  clear q qf
  have hmk2 := makeStrs v.length hn2
  have xw2 := xx.trans x2.ext
  have cp2 : ∀ (val : Value) (ty : TypeId), (Builtin.copy_ #[24, 24] ty #[.slice (some ⟨x2.now.heap.size, 0, none⟩) v.length v.length, .slice (some ⟨b, o, none⟩) v.length c]).run Try.prog ((x2.now.setCell ⟨w.heap.size, i / 8, none⟩ val).alloc (.cells (emptyRow v.length) 9)) = .ok (.int .i64 v.length) (((x2.now.setCell ⟨w.heap.size, i / 8, none⟩ val).alloc (.cells (emptyRow v.length) 9)).setRow x2.now.heap.size (strVals v)) := fun val ty =>
    copyStrs _ _ b o c v (by omega) (by have := Box.new (x2.now.setCell ⟨w.heap.size, i / 8, none⟩ val) 9 (emptyRow v.length); rw [show (x2.now.setCell ⟨w.heap.size, i / 8, none⟩ val).heap.size = x2.now.heap.size from by simp [World.setCell]] at this; exact this) (fun j hj => ((xw2.setCell (p := ⟨w.heap.size, i / 8, none⟩) (Nat.le_refl _) val).alloc _).keep (hcell j hj)) ty
  go_wp2_with fail
  have hl8 : i / 8 < m.length := by omega
  have bs := (bx.ext x2.ext).set (i / 8) (.int .u8 (bits BinOp.xor IntKind.u8 (cc.toNat : Int) (2 ^ (i % 8) % 256)))
  have hfl : (byteVals m).setIfInBounds (i / 8) (.int .u8 (bits BinOp.xor IntKind.u8 (cc.toNat : Int) (2 ^ (i % 8) % 256))) = byteVals (flipL m i) := by
    rw [xor_val, ← hcc]; exact flip_vals m i hl8
  rw [hfl] at bs
  have xs := xw2.setCell (p := ⟨w.heap.size, i / 8, none⟩) (Nat.le_refl _) (.int .u8 (bits BinOp.xor IntKind.u8 (cc.toNat : Int) (2 ^ (i % 8) % 256)))
  have hss : (x2.now.setCell ⟨w.heap.size, i / 8, none⟩ (.int .u8 (bits BinOp.xor IntKind.u8 (cc.toNat : Int) (2 ^ (i % 8) % 256)))).heap.size = x2.now.heap.size := by simp [World.setCell]
  have hwx : w.heap.size < x2.now.heap.size := (bx.ext x2.ext).lt
  generalize x2.now.setCell ⟨w.heap.size, i / 8, none⟩ (.int .u8 (bits BinOp.xor IntKind.u8 (cc.toNat : Int) (2 ^ (i % 8) % 256))) = W4 at bs xs hss ⊢
  have b5 : Box ((W4.alloc (.cells (emptyRow v.length) 9)).setRow x2.now.heap.size (strVals v)) w.heap.size 5 (byteVals (flipL m i)) := (bs.ext ((Ext.refl W4).alloc _)).setRow_other (by omega)
  have r5 : Box ((W4.alloc (.cells (emptyRow v.length) 9)).setRow x2.now.heap.size (strVals v)) x2.now.heap.size 9 (strVals v) := by
    have := setRow_box (ds := strVals v) (Box.new W4 9 (emptyRow v.length)); rw [hss] at this; exact this
  have x5 : Ext w ((W4.alloc (.cells (emptyRow v.length) 9)).setRow x2.now.heap.size (strVals v)) := setRow_ext (xs.alloc _) (by omega)
  generalize (W4.alloc (.cells (emptyRow v.length) 9)).setRow x2.now.heap.size (strVals v) = W5 at b5 r5 x5 ⊢
  have hfm : (flipL m i).length = 128 := by simp [flipL, hm]
  have cv := conv_box (c := 128) b5 hfm
  have s2 : W5.cell? ⟨x2.now.heap.size, 2, none⟩ = some (.string (str (v[2]'(by omega)))) := by rw [r5.cell 2]; simp [strVals, List.getElem?_eq_getElem (show 2 < v.length by omega)]
  have f2 := r5.frozen 2
  clear cp2 hmk2
  go_simp
  go_wp2_with fail
  go_ret
  refine ⟨_, rfl, x5.setCell (Nat.le_of_lt hwx) _, ?_⟩
  have rF := r5.set 2 (.string (str (flipL m i)))
  have hsz : ((strVals v).setIfInBounds 2 (.string (str (flipL m i)))).size = v.length := by simp [strVals]
  have ho := own_of_box (base := w.heap.size) rF hsz (by omega) (by unfold maxLen; omega)
  have e : ((strVals v).setIfInBounds 2 (.string (str (flipL m i)))).toList = (v.set 2 (flipL m i)).map fun s => Value.string (str s) := by simp [strVals, List.map_set]
  rw [e] at ho; exact ho
end Go.Proofs.Ytmcoepkopfcbdaa
/- The walk of geom.Take on a volume that is one. -/
namespace Go.Proofs.Ytmcoepkopfcbdaa
open Go.RowKit

theorem own_ext {w w' : World} {base n : Nat} {t : TypeId} {size : Nat} {v : Value} {xs : List Value} (h : w.ownsRow base t size v n xs) (k : Ext w w') : w'.ownsRow base t size v n xs := by
  refine ⟨h.1, ?_⟩
  rcases h.2 with c | ⟨g, cap, cur, e, hb, hh, r⟩
  · exact Or.inl c
  · exact Or.inr ⟨g, cap, cur, e, hb, (Box.ext (cs := cur) (t := t) hh k), r⟩
theorem own_base {w : World} {base base' n : Nat} {t : TypeId} {size : Nat} {v : Value} {xs : List Value} (h : w.ownsRow base t size v n xs) (k : base' ≤ base) : w.ownsRow base' t size v n xs := by
  refine ⟨h.1, ?_⟩
  rcases h.2 with c | ⟨g, cap, cur, e, hb, r⟩
  · exact Or.inl c
  · exact Or.inr ⟨g, cap, cur, e, Nat.le_trans k hb, r⟩
set_option maxHeartbeats 1000000 in
set_option maxRecDepth 100000 in
theorem take_yes (A : Option Addr) (n c i : Nat) (v : List (List UInt8)) (I : Int) (w : World) (hv : Strs w A n v) (hg : Good v I) (hi0 : 3 + (I + 1) / 2 ≤ (i : Int)) (hi1 : i < v.length) (hi2 : bitB (v.getD 2 []) i = false)
    (hi3 : ∀ j : Nat, 3 + (I + 1) / 2 ≤ (j : Int) → j < i → bitB (v.getD 2 []) j = true) :
    Calls Try.prog 28 #[.slice A n c] w fun e w' => ∃ u, e = .returned (.tuple #[u, .int .i64 i, .int .i64 0]) ∧ Ext w w' ∧
      w'.ownsRow w.heap.size 9 1 u v.length (((v.set 2 (flipL (v.getD 2 []) i)).set i (zs 128)).map fun s => .string (str s)) := by
  have hpl := plan_bd hg.plan
  have HO := Lib.hid (fun w h => of_yes A n c v I w h hg)
  have hv' := hv
  obtain ⟨rfl, hv2⟩ := hv
  obtain ⟨b, o, rfl, hcell⟩ := hv2 (by omega)
  have l2 : (v.getD 2 []).length = 128 := by rw [List.getD_eq_getElem?_getD, List.getElem?_eq_getElem (by omega)]; exact hg.all 2 (by omega)
  go_enter Try.func28, Try.ntmps28
  go_wp2_with fail
  refine (HO.out _ hv').mono ?_
  rintro e w1 ⟨rfl, x1⟩
  unfold geomV
  go_wp2_with fail
  have bx := Box.new w1 66 #[.int .i64 v.length, .int .i64 I, .int .i64 1, .int .i64 2, .int .i64 3, .int .i64 (3 + (I + 1) / 2)]
  have x2 := x1.alloc (.cells #[.int .i64 v.length, .int .i64 I, .int .i64 1, .int .i64 2, .int .i64 3, .int .i64 (3 + (I + 1) / 2)] 66)
  generalize w1.alloc (.cells #[.int .i64 v.length, .int .i64 I, .int .i64 1, .int .i64 2, .int .i64 3, .int .i64 (3 + (I + 1) / 2)] 66) = W at bx x2 ⊢
  have d0 : W.cell? ⟨w1.heap.size, 0, none⟩ = some (.int .i64 v.length) := bx.cell 0
  have d5 : W.cell? ⟨w1.heap.size, 5, none⟩ = some (.int .i64 (3 + (I + 1) / 2)) := bx.cell 5
  have c2 : W.cell? ⟨b, o + 2, none⟩ = some (.string (str (v.getD 2 []))) := by
    have := x2.keep (hcell 2 (by omega))
    rw [List.getD_eq_getElem?_getD, List.getElem?_eq_getElem (by omega)]; exact this
  go_loop [7] (fun t => ∃ m : Nat, m ≤ i ∧ 3 + (I + 1) / 2 ≤ (m : Int) ∧ t = .int .i64 m) (fun t => i - (intOf t).toNat)
  case atStart => exact ⟨(3 + (I + 1) / 2).toNat, by omega, by omega, by rw [Int.toNat_of_nonneg (by omega)]⟩
  case round =>
    obtain ⟨m, hm, hm0, rfl⟩ := hrel
    have HB := Lib.hid (fun w (h : w.cell? ⟨b, o + 2, none⟩ = some (.string (str (v.getD 2 [])))) => bit_any b o v.length c m (v.getD 2 []) w (by omega) h l2 (by omega))
    have hmv : (m : Int) < (v.length : Int) := by omega
    by_cases hlt : m < i
    · have hbit := Lib.hid (hi3 m hm0 hlt)
      go_wp2_with (go_at_call 52; refine (HB.out _ c2).mono ?_; rintro e w' ⟨rfl, rfl⟩; rw [hbit.out])
      go_round
      case rel => exact ⟨m + 1, by omega, by omega, by go_num⟩
      case measure => simp [intOf]; omega
    · obtain rfl : m = i := by omega
      have hbit := Lib.hid hi2
      have HT := Lib.hid (fun w hc => turned_any b o v.length c m v w rfl (by omega) (by omega) hc l2 (by omega))
      have hcW : ∀ (j : Nat) (h : j < v.length), W.cell? ⟨b, o + j, none⟩ = some (.string (str v[j])) := fun j hj => x2.keep (hcell j hj)
      have HC := Lib.hid hcW
      clear hcW
      go_wp2_with fail
      refine (HB.out _ c2).mono ?_
      rintro e w3 ⟨rfl, rfl⟩
      rw [hbit.out]
      go_wp2_with fail
      refine (HT.out _ HC.out).mono ?_
      rintro e w4 ⟨u, rfl, x4, own4⟩
      obtain ⟨g, cap, hu⟩ : ∃ g cap, u = .slice (some ⟨g, 0, none⟩) v.length cap ∧ W.heap.size ≤ g := by
        rcases own4.2 with ⟨_, h0⟩ | ⟨g, cap, cur, h, hb, _⟩
        · omega
        · exact ⟨g, cap, h, hb⟩
      obtain ⟨rfl, hgW⟩ := hu
      go_wp2_with fail
      refine (zeros_any _).mono ?_
      rintro e w5 ⟨rfl, x5⟩
      have own5 : w5.ownsRow W.heap.size 9 1 (.slice (some ⟨g, 0, none⟩) v.length cap) v.length ((v.set 2 (flipL (v.getD 2 []) m)).map fun s => .string (str s)) := own_ext own4 x5
      have k5 : w5.cell? ⟨g, m, none⟩ = ((v.set 2 (flipL (v.getD 2 []) m)).map fun s => Value.string (str s))[m]? := own5.cellAt m (by omega)
      have kf := own5.frozenAt m
      have hm1 : m < ((v.set 2 (flipL (v.getD 2 []) m)).map fun s => Value.string (str s)).length := by simp; omega
      rw [List.getElem?_eq_getElem hm1] at k5
      generalize ((v.set 2 (flipL (v.getD 2 []) m)).map fun s => Value.string (str s))[m] = old at k5
      go_wp2_with fail
      go_ret3
      refine ⟨_, rfl, (x2.trans (x4.trans x5)).setCell (Nat.le_trans x2.size hgW) _, ?_⟩
      have hs := own_base (own5.stored m (.string (str (zs 128)))).1 x2.size
      have e : (((v.set 2 (flipL (v.getD 2 []) m)).map fun s => Value.string (str s)).set m (.string (str (zs 128)))) = ((v.set 2 (flipL (v.getD 2 []) m)).set m (zs 128)).map fun s => Value.string (str s) := by simp only [List.map_set]
      rw [e] at hs
      exact hs
set_option maxHeartbeats 1000000 in
set_option maxRecDepth 100000 in
theorem take_full (A : Option Addr) (n c : Nat) (v : List (List UInt8)) (I : Int) (w : World) (hv : Strs w A n v) (hg : Good v I)
    (hi3 : ∀ j : Nat, 3 + (I + 1) / 2 ≤ (j : Int) → j < v.length → bitB (v.getD 2 []) j = true) :
    Calls Try.prog 28 #[.slice A n c] w fun e w' => e = .returned (.tuple #[.slice none 0 0, .int .i64 0, .int .i64 10]) ∧ Ext w w' := by
  have hpl := plan_bd hg.plan
  have HO := Lib.hid (fun w h => of_yes A n c v I w h hg)
  have hv' := hv
  obtain ⟨rfl, hv2⟩ := hv
  obtain ⟨b, o, rfl, hcell⟩ := hv2 (by omega)
  have l2 : (v.getD 2 []).length = 128 := by rw [List.getD_eq_getElem?_getD, List.getElem?_eq_getElem (by omega)]; exact hg.all 2 (by omega)
  go_enter Try.func28, Try.ntmps28
  go_wp2_with fail
  refine (HO.out _ hv').mono ?_
  rintro e w1 ⟨rfl, x1⟩
  unfold geomV
  go_wp2_with fail
  have bx := Box.new w1 66 #[.int .i64 v.length, .int .i64 I, .int .i64 1, .int .i64 2, .int .i64 3, .int .i64 (3 + (I + 1) / 2)]
  have x2 := x1.alloc (.cells #[.int .i64 v.length, .int .i64 I, .int .i64 1, .int .i64 2, .int .i64 3, .int .i64 (3 + (I + 1) / 2)] 66)
  generalize w1.alloc (.cells #[.int .i64 v.length, .int .i64 I, .int .i64 1, .int .i64 2, .int .i64 3, .int .i64 (3 + (I + 1) / 2)] 66) = W at bx x2 ⊢
  have d0 : W.cell? ⟨w1.heap.size, 0, none⟩ = some (.int .i64 v.length) := bx.cell 0
  have c2 : W.cell? ⟨b, o + 2, none⟩ = some (.string (str (v.getD 2 []))) := by
    have := x2.keep (hcell 2 (by omega))
    rw [List.getD_eq_getElem?_getD, List.getElem?_eq_getElem (by omega)]; exact this
  go_loop [7] (fun t => ∃ m : Nat, m ≤ v.length ∧ 3 + (I + 1) / 2 ≤ (m : Int) ∧ t = .int .i64 m) (fun t => v.length - (intOf t).toNat)
  case atStart => exact ⟨(3 + (I + 1) / 2).toNat, by omega, by omega, by rw [Int.toNat_of_nonneg (by omega)]⟩
  case round =>
    obtain ⟨m, hm, hm0, rfl⟩ := hrel
    by_cases hlt : m < v.length
    · have HB := Lib.hid (fun w (h : w.cell? ⟨b, o + 2, none⟩ = some (.string (str (v.getD 2 [])))) => bit_any b o v.length c m (v.getD 2 []) w (by omega) h l2 (by omega))
      have hbit := Lib.hid (hi3 m hm0 hlt)
      go_wp2_with (go_at_call 52; refine (HB.out _ c2).mono ?_; rintro e w' ⟨rfl, rfl⟩; rw [hbit.out])
      go_round
      case rel => exact ⟨m + 1, by omega, by omega, by go_num⟩
      case measure => simp [intOf]; omega
    · go_wp2_with fail
      go_ret3
      exact ⟨rfl, x2⟩
end Go.Proofs.Ytmcoepkopfcbdaa
/- Rows of the call's own: what a step that writes one keeps; append of texts to rows of bytes and of texts. -/
namespace Go.Proofs.Ytmcoepkopfcbdaa
open Go.RowKit

theorem Ext.grown {a w w' : World} {row : Option Nat} (h : Ext a w) (hg : w.grownBy w' row) (hr : ∀ k, row = some k → a.heap.size ≤ k) : Ext a w' := Below.grown h hg h.size hr
theorem ext_grown {w w' : World} (hg : w.grownBy w' none) : Ext w w' := (Ext.refl w).grown hg (fun _ e => by cases e)
theorem Box.grown {w w' : World} {g : Nat} {t : TypeId} {cs : Array Value} {row : Option Nat} (h : Box w g t cs) (hg : w.grownBy w' row) (hne : some g ≠ row) : Box w' g t cs := (hg.block g h.lt hne).trans h
theorem own_ne {w : World} {base g size n : Nat} {e t : TypeId} {v : Value} {xs : List Value} {cs : Array Value} (h : w.ownsRow base e size v n xs) (hb : Box w g t cs) (hne : e ≠ t) : some g ≠ v.ownBlock := by
  rcases h.2 with ⟨rfl, _⟩ | ⟨g', cap, cur, rfl, _, hh, _⟩
  · simp [Value.ownBlock]
  · intro he
    have he' : g = g' := by simpa [Value.ownBlock] using he
    subst he'
    have h1 : w.heap[g]? = some (.cells cs t (0, 0)) := hb
    rw [hh] at h1; injection h1 with e1; injection e1 with _ e2; exact hne e2
theorem own_low {w : World} {base size n : Nat} {e : TypeId} {v : Value} {xs : List Value} (h : w.ownsRow base e size v n xs) {k : Nat} (hk : v.ownBlock = some k) : base ≤ k := by
  rcases h.2 with ⟨rfl, _⟩ | ⟨g', cap, cur, rfl, hb, _⟩
  · simp [Value.ownBlock] at hk
  · have : g' = k := by simpa [Value.ownBlock] using hk
    omega
theorem own_cells {w : World} {base size n : Nat} {e : TypeId} {v : Value} {xs : List Value} (h : w.ownsRow base e size v n xs) {k : Nat} {o : Obj} (hk : v.ownBlock = some k) (ho : w.heap[k]? = some o) : o.isCells = true := by
  rcases h.2 with ⟨rfl, _⟩ | ⟨g', cap, cur, rfl, _, hh, _⟩
  · simp [Value.ownBlock] at hk
  · have : g' = k := by simpa [Value.ownBlock] using hk
    subst this; rw [hh] at ho; cases ho; rfl
theorem own_keeps {w w' : World} {base size n B : Nat} {e : TypeId} {v : Value} {xs : List Value} (h : w.ownsRow base e size v n xs) (hg : w.grownBy w' v.ownBlock) : KeepsFrom B w w' :=
  (KeepsOthers.of_grownBy hg (fun _ _ hj ho => own_cells h hj ho)).from B
/-- bytes as cells -/
def byteL (l : List UInt8) : List Value := l.map fun c => Value.int .u8 (c.toNat : Int)
def strL (ss : List (List UInt8)) : List Value := ss.map fun s => Value.string (str s)
theorem byteInfo : (Try.prog.info? 5).map (fun i => (i.zero, i.size, i.bytes)) = some (some (.int .u8 0), 1, 1) := by kernel_rfl
/-- append(b, s...) -/
theorem app_str {w : World} {base n : Nat} {v : Value} {l : List UInt8} (h : w.ownsRow base 5 1 v n (byteL l)) (s : List UInt8) (ty : TypeId) (hn : n + s.length ≤ 140737488355328) (hb : base ≤ w.heap.size) :
    ∃ v' w', (Builtin.append_ #[22, 9] ty #[v, .string (str s)]).run Try.prog w = .ok v' w' ∧ w'.ownsRow base 5 1 v' (n + s.length) (byteL (l ++ s)) ∧ w.grownBy w' v.ownBlock := by
  obtain ⟨i, hi, hz, h1, h2⟩ := info_parts byteInfo
  obtain ⟨v', w', hr, ho, hg, _⟩ := Lib.run_append_own_string (P := Try.prog) w base 22 9 ty 5 i Try.underlying22 Try.underlying9 hi hz h1 h2 v n (byteL l) h (str s) (by rw [str_size]; unfold maxLen; omega) (by rw [str_size]; exact hn) hb
  rw [str_size] at ho
  refine ⟨v', w', hr, ?_, hg⟩
  rw [show byteL (l ++ s) = byteL l ++ Lib.strCells (str s) by simp [byteL, Lib.strCells, str_data]]
  exact ho
theorem wp_app_str {ops : Array Oper} {rest : List Oper} {o : Oper} {a : Act} {Q : Exit → Act → World → Prop} {w : World} {base n : Nat} {v : Value} {l s : List UInt8} (hgd : o.guard = none) (sl x : Operand)
    (ho : o.op = .call { callee := .builtin .append, args := #[sl, x], argTypes := #[22, 9] }) (hs : a.eval sl = v) (hx : a.eval x = .string (str s)) (h : w.ownsRow base 5 1 v n (byteL l))
    (hn : n + s.length ≤ 140737488355328) (hb : base ≤ w.heap.size) (hK : ∀ v' w', w'.ownsRow base 5 1 v' (n + s.length) (byteL (l ++ s)) → w.grownBy w' v.ownBlock → wpList Try.prog ops Q rest (a.put o.dst v') w') : wpList Try.prog ops Q (o :: rest) a w := by
  obtain ⟨i, hi, hz, h1, h2⟩ := info_parts byteInfo
  refine Lib.wpList_append_own_string w hgd sl x 22 9 ho base 5 i Try.underlying22 Try.underlying9 hi hz h1 h2 v n (byteL l) hs h (str s) hx (by rw [str_size]; unfold maxLen; omega) (by rw [str_size]; exact hn) hb ?_
  intro v' w' ho' hg _
  rw [str_size] at ho'
  refine hK v' w' ?_ hg
  rw [show byteL (l ++ s) = byteL l ++ Lib.strCells (str s) by simp [byteL, Lib.strCells, str_data]]
  exact ho'
/-- append(r, v...) of texts -/
theorem app_strs {w : World} {base n m c : Nat} {u : Value} {xs ys : List (List UInt8)} {A : Option Addr} (h : w.ownsRow base 9 1 u n (strL xs)) (hs : Strs w A m ys) (ty : TypeId) (hn : n + m ≤ 1000000) (hb : base ≤ w.heap.size) (hpos : 0 < m) :
    ∃ u' w', (Builtin.append_ #[24, 24] ty #[u, .slice A m c]).run Try.prog w = .ok u' w' ∧ w'.ownsRow base 9 1 u' (n + m) (strL (xs ++ ys)) ∧ w.grownBy w' u.ownBlock := by
  obtain ⟨i, hi, hz, h1, h2⟩ := info_parts strInfo
  obtain ⟨hl, hs2⟩ := hs
  obtain ⟨b, o, rfl, hc⟩ := hs2 hpos
  obtain ⟨v', w', hr, ho, hg, _⟩ := run_append_own_at (P := Try.prog) w base 24 ty 9 i _ 1 16 Try.underlying24 hi hz h1 h2 rfl (by decide) u n (strL xs) h ⟨b, o, none⟩ m c (strL ys) (by simp [strL, hl]) (fun j v hj => by
    have hjl : j < ys.length := by have := (List.getElem?_eq_some_iff.1 hj).1; simpa [strL] using this
    have ha : (⟨b, o, none⟩ : Addr).add j = ⟨b, o + j, none⟩ := by unfold Addr.add; split <;> simp_all
    rw [ha, hc j hjl]
    simp [strL, hjl] at hj; rw [← hj]) (fun v hv => by
    simp only [strL, List.mem_map] at hv
    obtain ⟨s, _, rfl⟩ := hv; rfl) (by unfold maxLen; omega) (by omega) hb
  refine ⟨v', w', hr, ?_, hg⟩
  rw [show strL (xs ++ ys) = strL xs ++ strL ys by simp [strL]]
  exact ho
/-- append([]string(nil), v...) -/
theorem app_nil {w : World} {base m c : Nat} {ys : List (List UInt8)} {A : Option Addr} (hs : Strs w A m ys) (ty : TypeId) (hm : m ≤ 1000000) (hb : base ≤ w.heap.size) (hpos : 0 < m) :
    ∃ u' w', (Builtin.append_ #[24, 24] ty #[.slice none 0 0, .slice A m c]).run Try.prog w = .ok u' w' ∧ w'.ownsRow base 9 1 u' m (strL ys) ∧ Ext w w' := by
  obtain ⟨u', w', hr, ho, hg⟩ := app_strs (c := c) (xs := []) (World.ownsRow_nil w base 9 1) hs ty (by omega) hb hpos
  rw [Nat.zero_add] at ho
  exact ⟨u', w', hr, ho, ext_grown hg⟩
theorem wp_app_nil {ops : Array Oper} {rest : List Oper} {o : Oper} {a : Act} {Q : Exit → Act → World → Prop} {w : World} {m c : Nat} {ys : List (List UInt8)} {A : Option Addr} (base : Nat) (hgd : o.guard = none) (sl x : Operand)
    (ho : o.op = .call { callee := .builtin .append, args := #[sl, x], argTypes := #[24, 24] }) (hs : a.eval sl = .slice none 0 0) (hx : a.eval x = .slice A m c) (h : Strs w A m ys) (hm : m ≤ 1000000) (hb : base ≤ w.heap.size) (hpos : 0 < m)
    (hK : ∀ u' w', w'.ownsRow base 9 1 u' m (strL ys) → Ext w w' → wpList Try.prog ops Q rest (a.put o.dst u') w') : wpList Try.prog ops Q (o :: rest) a w := by
  refine wpList_plain hgd fun K hK' => ?_
  obtain ⟨v', w', hr, h2, h3⟩ := app_nil (base := base) (c := c) h o.type hm hb hpos
  unfold Oper.wp execOp
  simp only [ho, resolve, invoke, builtin, Sem.run_bind, Sem.run_pure, Result.andThen_ok, List.map_toArray, List.map_cons, List.map_nil, hs, hx, hr]
  exact hK' _ _ (hK v' w' h2 h3)
/-- string(b) of a row of the call's own -/
theorem conv_own {w : World} {base n : Nat} {v : Value} {l : List UInt8} (h : w.ownsRow base 5 1 v n (byteL l)) (hn : 0 < n) : (convert 22 9 v).run Try.prog w = .ok (.string (str l)) w := by
  have hl : l.length = n := by have := h.1; simpa [byteL] using this
  rcases h.2 with ⟨_, h0⟩ | ⟨g, cap, cur, rfl, _, hh, _⟩
  · omega
  subst hl
  refine run_convert_bytes_back w 22 9 5 ⟨g, 0, none⟩ cap l Try.underlying22 Try.underlying5 Try.underlying9 (fun j hj => ?_)
  have ha : (⟨g, 0, none⟩ : Addr).add j = ⟨g, j, none⟩ := by unfold Addr.add; split <;> simp_all
  rw [ha, h.cellAt (g := g) j (by omega)]
  simp [byteL, hj]
theorem Strs.own' {w : World} {base n : Nat} {t : TypeId} {u : Value} {ss : List (List UInt8)} (h : w.ownsRow base t 1 u n (strL ss)) (hn : 0 < n) : ∃ g cap, u = .slice (some ⟨g, 0, none⟩) n cap ∧ base ≤ g ∧ Strs w (some ⟨g, 0, none⟩) n ss := by
  have h' := h
  rcases h.2 with ⟨_, h0⟩ | ⟨g, cap, cur, rfl, hb, _⟩
  · omega
  exact ⟨g, cap, rfl, hb, Strs.own h'⟩
end Go.Proofs.Ytmcoepkopfcbdaa
/- strings.Builder: copyCheck, WriteByte, WriteString of a builder of the call's own that has grown. -/
namespace Go.Proofs.Ytmcoepkopfcbdaa
open Go.RowKit

/-- the builder in block b holds these bytes -/
def Bld (B b : Nat) (l : List UInt8) (w : World) : Prop := Lib.BuilderAt 111 5 B b (.pointer (some ⟨b, 0, none⟩)) (byteL l) w
set_option maxRecDepth 100000 in
theorem copyCheck_any (B b : Nat) (l : List UInt8) (w : World) (h : Bld B b l w) :
    Calls Try.prog 95 #[.pointer (some ⟨b, 0, none⟩)] w fun e w' => e = .returned (.tuple #[]) ∧ w = w' := by
  have c0 := h.cell0
  obtain ⟨j, hj⟩ : ∃ j, Try.prog.info? 111 = some j := Option.isSome_iff_exists.1 (by kernel_rfl)
  have hne := Lib.run_neq_ptr_same (P := Try.prog) w ⟨b, 0, none⟩ Try.underlying109 hj
  go_enter Try.func95, Try.ntmps95
  go_wp2_with fail
  go_end0
  exact ⟨rfl, rfl⟩
theorem new_cells (w : World) (t : TypeId) (cs : Array Value) (l : List Value) (hl : cs = l.toArray) (j : Nat) (u : Value) (h : l[j]? = some u) : (w.alloc (.cells cs t)).cell? ((⟨w.heap.size, 0, none⟩ : Addr).add j) = some u := by
  subst hl
  have ha : (⟨w.heap.size, 0, none⟩ : Addr).add j = ⟨w.heap.size, j, none⟩ := by unfold Addr.add; split <;> simp_all
  rw [ha, (Box.new w t l.toArray).cell j]; simpa using h
theorem all_one {l : List Value} (h : l.all (·.oneCell') = true) : ∀ u ∈ l, u.oneCell' = true := List.all_eq_true.1 h
theorem own_form {w : World} {base size n : Nat} {e : TypeId} {v : Value} {xs : List Value} (h : w.ownsRow base e size v n xs) (hn : 0 < n) : ∃ g cap, v = .slice (some ⟨g, 0, none⟩) n cap ∧ base ≤ g := by
  rcases h.2 with ⟨_, h0⟩ | ⟨g, cap, cur, h, hb, _⟩
  · omega
  · exact ⟨g, cap, h, hb⟩
theorem Bld.put {B b : Nat} {l' : List UInt8} {w w1 : World} {v v' : Value} {row : Option Nat} (hB0 : B ≤ b) (hb : w.heap[b]? = some (.cells #[.pointer (some ⟨b, 0, none⟩), v] 111 (0, 0))) (hne : v.ownBlock ≠ some b)
    (hg : w.grownBy w1 row) (hr : row = v.ownBlock) (own1 : w1.ownsRow B 5 1 v' l'.length (byteL l')) : Bld B b l' (w1.setCell ⟨b, 1, none⟩ v') := by
  subst hr
  have hb1 : Box w1 b 111 #[.pointer (some ⟨b, 0, none⟩), v] := Box.grown hb hg (fun e => hne e.symm)
  exact Lib.BuilderAt.put hB0 hb1 (by rw [show (byteL l').length = l'.length by simp [byteL]]; exact own1) (by decide)
set_option maxHeartbeats 400000 in
theorem writeByte_any (B b : Nat) (l : List UInt8) (c : UInt8) (n : Int) (w : World) (h : Bld B b l w) (hB : B ≤ w.heap.size) (hl : l.length ≤ 100000000000) (hn : n = (c.toNat : Int)) :
    Calls Try.prog 80 #[.pointer (some ⟨b, 0, none⟩), .int .u8 n] w fun e w' => e = .returned .nilIface ∧ Bld B b (l ++ [c]) w' ∧ Below B w w' := by
  subst hn
  obtain ⟨hB0, v, hb, hown, hne⟩ := h
  have HC := Lib.hid (fun w => copyCheck_any B b l w)
  have h : Bld B b l w := ⟨hB0, v, hb, hown, hne⟩
  have c1 : w.cell? ⟨b, 1, none⟩ = some v := Box.cell hb 1
  have hlen : (byteL l).length = l.length := by simp [byteL]
  rw [hlen] at hown
  obtain ⟨i0, hi, hz0, hz1, hz2⟩ := info_parts byteInfo
  have hlt : b < w.heap.size := Box.lt hb
  go_enter Try.func80, Try.ntmps80
  go_wp2_with fail
  refine (HC.out _ h).mono ?_
  rintro e w1 ⟨rfl, rfl⟩
  go_wp2_with (at_builtin; refine wpList_append_own _ rfl _ _ 22 rfl B 5 i0 (.int .u8 0) 1 1 Try.underlying22 hi hz0 hz1 hz2 rfl (by decide) _ _ _ rfl (hown.alloc _) ⟨w.heap.size, 0, none⟩ 1 1 [.int .u8 (c.toNat : Int)] rfl rfl (new_cells _ _ _ _ rfl) (all_one rfl) (by unfold maxLen; omega) (by omega) (by simp; omega) ?_)
  intro v' w1 own1 hg1 _
  obtain ⟨g', cap', rfl, hg'⟩ := own_form own1 (by omega)
  have hb1 : Box w1 b 111 #[.pointer (some ⟨b, 0, none⟩), v] := (Box.ext hb ((Ext.refl w).alloc _)).grown hg1 (fun e => hne e.symm)
  have d0 : w1.cell? ⟨b, 1, none⟩ = some v := hb1.cell 1
  have d1 := hb1.frozen 1
  have hlo := @own_low w B 1 _ _ v _ hown
  go_wp2_with fail
  go_ret
  refine ⟨rfl, ?_, ?_⟩
  · refine Lib.BuilderAt.put hB0 hb1 ?_ (by decide)
    rw [show (byteL (l ++ [c])).length = l.length + 1 by simp [byteL], show byteL (l ++ [c]) = byteL l ++ [.int .u8 (c.toNat : Int)] by simp [byteL]]
    exact own1
  · exact (((Below.refl B w).alloc hB _).grown hg1 (by simp; omega) (fun k e => hlo e)).setCell (p := ⟨b, 1, none⟩) hB0 _
set_option maxHeartbeats 400000 in
theorem writeString_any (B b : Nat) (l s : List UInt8) (w : World) (h : Bld B b l w) (hB : B ≤ w.heap.size) (hl : l.length ≤ 100000000000) (hs : s.length ≤ 1000000000) :
    Calls Try.prog 81 #[.pointer (some ⟨b, 0, none⟩), .string (str s)] w fun e w' => e = .returned (.tuple #[.int .i64 s.length, .nilIface]) ∧ Bld B b (l ++ s) w' ∧ Below B w w' := by
  obtain ⟨hB0, v, hb, hown, hne⟩ := h
  have HC := Lib.hid (fun w => copyCheck_any B b l w)
  have h : Bld B b l w := ⟨hB0, v, hb, hown, hne⟩
  have c1 : w.cell? ⟨b, 1, none⟩ = some v := Box.cell hb 1
  have hlen : (byteL l).length = l.length := by simp [byteL]
  rw [hlen] at hown
  have hz := str_size
  go_enter Try.func81, Try.ntmps81
  go_wp2_with fail
  refine (HC.out _ h).mono ?_
  rintro e w1 ⟨rfl, rfl⟩
  go_wp2_with (refine wp_app_str rfl (.tmp 12) (.tmp 13) rfl rfl rfl hown (by omega) hB ?_)
  intro v' w1 own1 hg1
  have hb1 : Box w1 b 111 #[.pointer (some ⟨b, 0, none⟩), v] := Box.grown hb hg1 (fun e => hne e.symm)
  have d0 : w1.cell? ⟨b, 1, none⟩ = some v := hb1.cell 1
  have d1 := hb1.frozen 1
  have hlo := @own_low w B 1 _ _ v _ hown
  have hbw : Below B w w1 := (Below.refl B w).grown hg1 hB (fun k e => hlo e)
  have hput := Bld.put (l' := l ++ s) hB0 hb hne hg1 rfl (by rw [List.length_append]; exact own1)
  rcases own1.2 with ⟨rfl, h0⟩ | ⟨g, cap, cur, rfl, _⟩
  · go_wp2_with fail
    go_ret2
    exact ⟨rfl, hput, hbw.setCell (p := ⟨b, 1, none⟩) hB0 _⟩
  · go_wp2_with fail
    go_ret2
    exact ⟨rfl, hput, hbw.setCell (p := ⟨b, 1, none⟩) hB0 _⟩
end Go.Proofs.Ytmcoepkopfcbdaa
