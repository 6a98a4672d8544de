/- What single.Proc stores: pages of the new process, frames. -/
import Derived.Test.YtfaplefkakpgcaaGreatDoorWa26
import Derived.Test.YtfaplefkakpgcaaGreatDoorWa28
import Derived.Test.YtfaplefkakpgcaaGreatDoorWa25
import Derived.Test.YtfaplefkakpgcaaGreatDoorWa27
namespace Go.Proofs.YtfaplefkakpgcaaGreatDoor
set_option linter.unusedVariables false
set_option linter.unusedSimpArgs false
open Go.RowKit
theorem flat_stL (l : List (List UInt8)) : l.flatMap stL = strL l := by
  unfold strL stL
  induction l with
  | nil => rfl
  | cons a l ih => rw [List.flatMap_cons, ih]; rfl
theorem prL_eq {a b : PrT} (h0 : a.pid = b.pid) (h1 : a.parent = b.parent) (h2 : a.state = b.state) (h3 : ∀ i < 16, a.reg i = b.reg i) (h4 : a.pc = b.pc) (h5 : ∀ i < 16, a.pis i = b.pis i ∧ a.pwr i = b.pwr i ∧ a.pfr i = b.pfr i) (h6 : ∀ i < 8, a.fk i = b.fk i ∧ a.fn i = b.fn i ∧ a.fp i = b.fp i)
    (h7 : a.mask = b.mask) (h8 : a.code = b.code) (h9 : a.why = b.why) (h10 : a.num = b.num) : prL a = prL b := by
  unfold prL
  have e1 : (List.range 16).map (fun i => Value.int .u32 (a.reg i)) = (List.range 16).map (fun i => Value.int .u32 (b.reg i)) := List.map_congr_left (fun i hi => by rw [h3 i (List.mem_range.1 hi)])
  have e2 : (List.range 16).flatMap (pteL a) = (List.range 16).flatMap (pteL b) := by
    rw [List.flatMap_def, List.flatMap_def]
    congr 1
    apply List.map_congr_left
    intro i hi
    obtain ⟨k1, k2, k3⟩ := h5 i (List.mem_range.1 hi)
    unfold pteL
    rw [k1, k2, k3]
  have e3 : (List.range 8).flatMap (fdL a) = (List.range 8).flatMap (fdL b) := by
    rw [List.flatMap_def, List.flatMap_def]
    congr 1
    apply List.map_congr_left
    intro i hi
    obtain ⟨k1, k2, k3⟩ := h6 i (List.mem_range.1 hi)
    unfold fdL
    rw [k1, k2, k3]
  rw [h0, h1, h2, e1, h4, e2, e3, h7, h8, h9, h10]
def PrT.setPte (q : PrT) (i : Nat) (b w : Bool) (f : Int) : PrT := { q with pis := fun j => if j = i then b else q.pis j, pwr := fun j => if j = i then w else q.pwr j, pfr := fun j => if j = i then f else q.pfr j }
set_option maxRecDepth 100000 in
theorem putR_pte (q : PrT) (i : Nat) (hi : i < 16) (b w : Bool) (f : Int) : putR (prL q).toArray (20 + i * 3) [.bool b, .bool w, .int .i64 f] = (prL (q.setPte i b w f)).toArray := by
  rcases (by omega : i = 0 ∨ i = 1 ∨ i = 2 ∨ i = 3 ∨ i = 4 ∨ i = 5 ∨ i = 6 ∨ i = 7 ∨ i = 8 ∨ i = 9 ∨ i = 10 ∨ i = 11 ∨ i = 12 ∨ i = 13 ∨ i = 14 ∨ i = 15) with rfl | rfl | rfl | rfl | rfl | rfl | rfl | rfl | rfl | rfl | rfl | rfl | rfl | rfl | rfl | rfl <;> kernel_rfl
theorem newPr_next {y : PrT} {next : Int} {free : List Nat} {F : Nat → Int × Int × Int} {j : Nat} (h : y.pis j = true) : prL ((newPr y next free F j).setPte j true (y.pwr j) ((free.getD (cntIs y j) 0 : Nat) : Int)) = prL (newPr y next free F (j + 1)) := by
  refine prL_eq rfl rfl rfl (fun _ _ => rfl) rfl (fun i _ => ?_) (fun _ _ => ⟨rfl, rfl, rfl⟩) rfl rfl rfl rfl
  unfold newPr PrT.setPte
  simp only
  by_cases e : i = j
  · subst e
    simp [h]
  · rw [if_neg e, if_neg e, if_neg e]
    have e1 : (i < j + 1) ↔ i < j := by omega
    simp [e1]
theorem newPr_skip {y : PrT} {next : Int} {free : List Nat} {F : Nat → Int × Int × Int} {j : Nat} (h : y.pis j = false) : prL (newPr y next free F j) = prL (newPr y next free F (j + 1)) := by
  refine prL_eq rfl rfl rfl (fun _ _ => rfl) rfl (fun i _ => ?_) (fun _ _ => ⟨rfl, rfl, rfl⟩) rfl rfl rfl rfl
  unfold newPr
  simp only
  by_cases e : i = j
  · subst e
    simp [h]
  · have e1 : (i < j + 1) ↔ i < j := by omega
    simp [e1]
def cpuL (p : PrT) : List Value := (List.range 16).map (fun i => .int .u32 (p.reg i)) ++ [.int .u32 p.pc]
theorem pr_cpu (p : PrT) : ∀ j v, (cpuL p)[j]? = some v → (prL p).toArray[3 + j]? = some v := fun j v hv => by
  have hj : j < 17 := by have := (List.getElem?_eq_some_iff.1 hv).1; exact this
  rw [List.getElem?_toArray]
  have e : (prL p).drop 3 = cpuL p ++ (spaceL p ++ fdsL p ++ [.bool p.mask, .int .u32 p.code, .int .i64 p.why, .int .u64 p.num]) := rfl
  rw [← List.getElem?_drop, e, List.getElem?_append_left (by exact hj)]; exact hv
theorem cpuSz : (Tryz.prog.info? 48).map (·.size) = some 17 := by kernel_rfl
section
variable {ops : Array Oper} {rest : List Oper} {o : Oper} {a : Act} {w : World} {Q : Exit → Act → World → Prop}
theorem wp_ld_cpu (x : Operand) (hgd : o.guard = none) (ho : o.op = .load 48 x) (g : Nat) (t : TypeId) (p : PrT) (hx : a.eval x = .pointer (some ⟨g, 3, none⟩))
    (hb : Box w g t (prL p).toArray) (hK : wpList Tryz.prog ops Q rest (a.put o.dst (.agg (cpuL p).toArray)) w) : wpList Tryz.prog ops Q (o :: rest) a w :=
  wpList_load_mid hgd _ x ho g 3 hx _ _ (box_range hb (pr_cpu p)) Tryz.underlying48 rfl (by exact cpuSz) hK
end
/-- a frame set -/
theorem MacOwn.setFr {w : World} {B g i : Nat} {m : Mac} {d : MacD} (h : MacOwn w B m d) (hA : m.fr.A = some ⟨g, 0, none⟩) (r : List UInt8) : MacOwn (w.setCell ⟨g, i, none⟩ (.string (str r))) B m { d with fr := d.fr.set i r } := by
  have hg : (Value.slice m.fr.A m.fr.n m.fr.c).ownBlock = some g := by rw [hA]; rfl
  have hne : ∀ {e : TypeId} {z n : Nat} {v : Value} {xs : List Value}, w.ownsRow B e z v n xs → 9 ≠ e → v.ownBlock ≠ some (⟨g, i, none⟩ : Addr).block := fun {e z n v xs} ho he hb => by
    rcases ho.2 with ⟨rfl, _⟩ | ⟨g2, cap, cur, rfl, _, h2, _⟩
    · cases hb
    · have e2 : g2 = g := by simpa [Value.ownBlock] using hb
      subst e2
      rcases h.fr.2 with ⟨e1, _⟩ | ⟨g3, cap3, cur3, e1, _, h3, _⟩
      · rw [e1] at hg; cases hg
      · rw [e1] at hg
        have e3 : g3 = g2 := by simpa [Value.ownBlock] using hg
        subst e3
        rw [h2] at h3
        injection h3 with h3
        injection h3 with _ h3
        exact he h3.symm
  have hfr := h.fr
  rw [flat_stL, hA] at hfr
  refine ⟨?_, ownsRow_setCell_other h.pr (hne h.pr (by decide)) _, ownsRow_setCell_other h.pi (hne h.pi (by decide)) _, ownsRow_setCell_other h.bl (h.apart g hg) _, ownsRow_setCell_other h.pe (hne h.pe (by decide)) _, ownsRow_setCell_other h.di (hne h.di (by decide)) _, by rw [List.length_set]; exact h.frn, h.prn, h.pin, h.bln, h.pen, h.din, h.apart⟩
  rw [flat_stL, hA]
  exact own_set hfr r
end Go.Proofs.YtfaplefkakpgcaaGreatDoor
/- image.Of of a machine that may be; image.Machine of no texts. -/
namespace Go.Proofs.YtfaplefkakpgcaaGreatDoor
set_option linter.unusedVariables false
set_option linter.unusedSimpArgs false
open Go.RowKit
theorem imgSz {a b c : Value} : (Tryz.prog.info? 24).map (·.size) = some (#[a, b, c] : Array Value).size := by kernel_rfl
set_option maxHeartbeats 4000000 in
set_option maxRecDepth 100000 in
theorem imach_none (w : World) :
    Calls Tryz.prog 27 #[.agg #[.slice none 0 0, .slice none 0 0, .string ⟨#[]⟩]] w fun e w' => e = .returned (.tuple #[.agg mac0.cells, .int .i64 3]) ∧ Ext w w' := by
  have HR := Lib.hid (fun w => readRest_none [] w (by decide) (by decide))
  have x0 := ((Ext.refl w).alloc (.cells #[.slice none 0 0, .slice none 0 0, .string (str [])] 24)).alloc (.cells mac0.cells 38)
  have bx := (Box.new w 24 #[.slice none 0 0, .slice none 0 0, .string (str [])]).ext ((Ext.refl _).alloc (.cells mac0.cells 38))
  have br := Box.new (w.alloc (.cells #[.slice none 0 0, .slice none 0 0, .string (str [])] 24)) 38 mac0.cells
  rw [World.size_alloc] at br
  go_enter Tryz.func27, Tryz.ntmps27
  go_upto_region 1 with fail
  change Code.wp _ _ _ _ ((w.alloc (.cells #[.slice none 0 0, .slice none 0 0, .string (str [])] 24)).alloc (.cells mac0.cells 38))
  generalize (w.alloc (.cells #[.slice none 0 0, .slice none 0 0, .string (str [])] 24)).alloc (.cells mac0.cells 38) = w0 at x0 bx br ⊢
  obtain ⟨G, hG⟩ : ∃ G, G = w.heap.size := ⟨_, rfl⟩
  rw [← hG] at bx br ⊢
  have HG := Lib.hid hG
  clear hG
  have q2 : w0.cell? ⟨G, 2, none⟩ = some (.string (str [])) := bx.cell 2
  go_upto_region 2 with (first
    | (go_at_call 68; refine (HR.out _).mono ?_; rintro e w1 ⟨rfl, x1⟩)
    | (refine wp_st_mac _ _ rfl rfl w1.heap.size mac0 _ _ rfl rfl (Box.new _ _ _) rfl ?_; intro w2 b2 g2))
  have y2 : Ext w1 w2 := ((Ext.refl w1).alloc _).grown g2 (fun j e => by cases e; exact Nat.le_refl _)
  have br2 := br.ext (x1.trans y2)
  go_wp2_with (refine wp_st_mac _ _ rfl rfl (G + 1) mac0 _ _ rfl rfl br2 rfl ?_; intro w9 b9 g9)
  exact bodyPost_ret (results_cell2 rfl _ _ (G + 1) _ _ _ _ rfl rfl b9 Tryz.underlying38 rfl macSz) rfl ⟨rfl, (x0.trans (x1.trans y2)).grown g9 (fun j e => by cases e; rw [← HG.out]; exact Nat.le_succ _)⟩
end Go.Proofs.YtfaplefkakpgcaaGreatDoor
/- Plain: what a machine's texts that were read tell of how great it is. -/
namespace Go.Proofs.YtfaplefkakpgcaaGreatDoor
set_option linter.unusedVariables false
set_option linter.unusedSimpArgs false
open Go.RowKit
theorem textsP_sum (b : List UInt8) : (textsP b).2 = 0 → ((textsP b).1.map (fun t => t.length + 1)).sum ≤ b.length := by
  induction hn : b.length using Nat.strongRecOn generalizing b with
  | ind n ih =>
    subst hn
    intro h
    by_cases hb : b = []
    · subst hb; rw [textsP_nil]; simp
    · rw [textsP_step b hb] at h ⊢
      split at h
      · rename_i h1; exact absurd h h1
      · rename_i h1
        rw [if_neg h1]
        split at h
        · simp at h
        · rename_i h2
          rw [if_neg h2]
          split at h
          · rename_i h3; exact absurd h h3
          · rename_i h3
            rw [if_neg h3]
            have hu := lengthP_used b (by simpa using h1)
            have hl : 0 < b.length := List.length_pos_iff.2 hb
            have k := ih _ (by simp only [List.length_drop]; omega) ((b.drop (lengthP b).2.1).drop (lengthP b).1) rfl (by simpa using h3)
            simp only [List.map_cons, List.sum_cons, List.length_take, List.length_drop] at k h2 ⊢
            omega
theorem intP_itoaS {s : List UInt8} {v : Int} (h : intP s = some v) : N64 v ∧ Lib.itoa v = s := by
  unfold intP at h
  split at h
  · rename_i n hp
    split at h
    · rename_i e; injection h with h; subst h; exact ⟨parse_fits hp, e⟩
    · cases h
  · cases h
theorem itoa_pos (v : Int) : 0 < (Lib.itoa v).length := by
  unfold Lib.itoa
  split
  · simp
  · exact List.length_pos_iff.2 (digits_ne _)
theorem openT_texts {z : Option Nat} {s : List UInt8} {l : List (List UInt8)} (h : openT z s = some l) : textsP s = (l, 0) := by
  unfold openT at h
  split at h
  · rename_i k; injection h with h; rw [← h]; exact Prod.ext rfl k.1
  · cases h
theorem writeQ_three {s : List UInt8} {y : WrT} (h : writeQ s = some y) : 3 ≤ s.length := by
  obtain ⟨a, h1, h2⟩ := writeQ_parts h
  have h3 := textsP_sum s (by rw [openT_texts h1])
  rw [openT_texts h1] at h3
  have h4 := itoa_pos y.1
  rw [(intP_itoaS h2).2] at h4
  simp only [List.map_cons, List.map_nil, List.sum_cons, List.sum_nil] at h3
  omega
theorem allP_len {α β : Type} {f : α → Option β} : ∀ {l : List α} {l' : List β}, allP f l = some l' → l'.length = l.length ∧ ∀ y ∈ l', ∃ x ∈ l, f x = some y
  | [], l', h => by
    injection h with h
    subst h
    exact ⟨rfl, fun y hy => by cases hy⟩
  | x :: l, l', h => by
    rw [allP] at h
    obtain ⟨y, h1, h2⟩ := some_bind h
    obtain ⟨t, h3, h4⟩ := some_map h2
    subst h4
    obtain ⟨k1, k2⟩ := allP_len h3
    refine ⟨by simp [k1], fun z hz => ?_⟩
    rcases List.mem_cons.1 hz with rfl | hz
    · exact ⟨x, List.mem_cons_self, h1⟩
    · obtain ⟨u, hu, e⟩ := k2 z hz
      exact ⟨u, List.mem_cons_of_mem _ hu, e⟩
theorem allP_all {α β : Type} {f : α → Option β} : ∀ {l : List α} {l' : List β}, allP f l = some l' → ∀ x ∈ l, ∃ y, f x = some y
  | [], _, _ => fun x hx => by cases hx
  | x :: l, l', h => by
    rw [allP] at h
    obtain ⟨y, h1, h2⟩ := some_bind h
    obtain ⟨t, h3, _⟩ := some_map h2
    intro u hu
    rcases List.mem_cons.1 hu with rfl | hu
    · exact ⟨y, h1⟩
    · exact allP_all h3 u hu
theorem sum_four : ∀ l : List (List UInt8), (∀ t ∈ l, 3 ≤ t.length) → 4 * l.length ≤ (l.map (fun t => t.length + 1)).sum
  | [], _ => by simp
  | t :: l, h => by
    have h1 := h t List.mem_cons_self
    have h2 := sum_four l (fun x hx => h x (List.mem_cons_of_mem _ hx))
    simp only [List.length_cons, List.map_cons, List.sum_cons]
    omega
theorem writesP_four {s : List UInt8} {l : List WrT} (h : writesP s = some l) : 4 * l.length ≤ s.length := by
  unfold writesP at h
  obtain ⟨T, h1, h2⟩ := some_bind h
  have h3 := textsP_sum s (by rw [openT_texts h1])
  rw [openT_texts h1] at h3
  have h4 := sum_four T (fun t ht => by
    obtain ⟨y, hy⟩ := allP_all h2 t ht
    exact writeQ_three hy)
  rw [(allP_len h2).1]
  exact Nat.le_trans h4 h3
theorem numP_fit {z : Nat} {s : List UInt8} {n : Int} (h : numP z s = some n) : 0 ≤ n ∧ n < ((256 ^ z : Nat) : Int) := by
  unfold numP at h
  split at h
  · rename_i hl
    injection h with h
    subst h
    have := numL_few s
    rw [hl] at this
    omega
  · cases h
theorem procP_fit {s : List UInt8} {y : PrT} (h : procP s = some y) : (∀ i < 16, 0 ≤ y.reg i ∧ y.reg i < 4294967296) ∧ (0 ≤ y.pc ∧ y.pc < 4294967296) ∧ (0 ≤ y.code ∧ y.code < 4294967296) ∧ (0 ≤ y.num ∧ y.num < 18446744073709551616) := by
  obtain ⟨t0, t1, t2, t3, t4, t5, t6, t7, t8, t9, pid, par, st, mask, code, why, num, _, _, _, _, _, _, _, _, h7, _, h9, rfl⟩ := procP_parts h
  have e4 : ((256 ^ 4 : Nat) : Int) = 4294967296 := by decide
  have e8 : ((256 ^ 8 : Nat) : Int) = 18446744073709551616 := by decide
  have k7 := numP_fit h7
  have k9 := numP_fit h9
  rw [e4] at k7
  rw [e8] at k9
  refine ⟨fun i _ => ?_, ?_, k7, k9⟩
  · have := numAt_fits t3 (4 * i) 4; rw [e4] at this; exact this
  · have := numAt_fits t3 64 4; rw [e4] at this; exact this
/-- what is known of a machine's texts that were read -/
structure RestK (s : List UInt8) (z : Mac) (e : MacD) : Prop where
  fit : MacFit z e
  dwf : (Lit.int .i64 z.dleft).wf = true
  prl : e.pr.length ≤ s.length
  pil : e.pi.length ≤ s.length
  pel : e.pe.length ≤ s.length
  dil : e.di.length ≤ s.length
  pe4 : 4 * e.pe.length ≤ s.length
  pi4 : 4 * e.pi.length ≤ s.length
  initl : z.init.length ≤ s.length
  innl : z.inn.length ≤ s.length
theorem restQ_fit {s : List UInt8} {z : Mac} {e : MacD} (h : restQ s = some (z, e)) : RestK s z e := by
  obtain ⟨t1, t2, t3, t4, t5, t6, t7, t8, t9, t10, t11, t12, t13, t14, t15, p0, p1, p2, p3, p4, p5, p6, p7, p8, p9, p10, p11, p12, p13, p14, p15, r1, r2, r3, r4, r5, r6, _, _⟩ := restQ_parts h
  have hf := openT_few p0
  have e8 : ((256 ^ 8 : Nat) : Int) = 18446744073709551616 := by decide
  have k1 := numP_fit p1
  have k10 := numP_fit p10
  rw [e8] at k1 k10
  have h12 := writesP_four p12
  have h13 := writesP_four p13
  have h14 := writesP_four p14
  have f6 := hf t6 (by simp)
  have f8 := hf t8 (by simp)
  have f12 := hf t12 (by simp)
  have f13 := hf t13 (by simp)
  have f14 := hf t14 (by simp)
  have f15 := hf t15 (by simp)
  obtain ⟨T, q1, q2⟩ := some_bind p15
  have hT := (textsP_len t15).1
  rw [openT_texts q1] at hT
  have hT2 := (allP_len q2).1
  have hdl := (intP_itoaS p11).1
  refine ⟨⟨k1, k10, hdl, (intP_itoaS p3).1, fun y hy => ?_⟩, ?_, by simp only at hT; omega, by omega, by omega, by omega, by omega, by omega, by rw [p6]; exact f6, by rw [p8]; exact f8⟩
  · obtain ⟨x, _, hx⟩ := (allP_len q2).2 y hy
    exact procP_fit hx
  · unfold N64 at hdl
    have e1 : IntKind.i64.min = -9223372036854775808 := by decide
    have e2 : IntKind.i64.max = 9223372036854775807 := by decide
    unfold Lit.wf
    simp only [Bool.and_eq_true, decide_eq_true_eq, e1, e2]
    exact hdl
theorem restQ_pe {s : List UInt8} {p : Mac × MacD} (h : restQ s = some p) (hs : s.length ≤ 4000) : p.2.pe.length ≤ 1000 := by
  obtain ⟨z, e⟩ := p
  have := (restQ_fit h).pe4
  show e.pe.length ≤ 1000
  omega
theorem errB_congr {p q : Prop} (h : p ↔ q) (c : Int) : errB p c = errB q c := by rw [propext h]
theorem nums_same {m z : Mac} (s : SameSc z m) : NumsOk z ↔ NumsOk m := by
  constructor <;> intro h
  · exact ⟨by rw [← s.quantum]; exact h.quantum, by rw [← s.left, ← s.quantum]; exact h.left, by rw [← s.cur]; exact h.cur, by rw [← s.next]; exact h.next, by rw [← s.newPipe]; exact h.newPipe⟩
  · exact ⟨by rw [s.quantum]; exact h.quantum, by rw [s.left, s.quantum]; exact h.left, by rw [s.cur]; exact h.cur, by rw [s.next]; exact h.next, by rw [s.newPipe]; exact h.newPipe⟩
theorem procs_same {m z : Mac} {d : MacD} (s : SameSc z m) (hf : z.fr.n = m.fr.n) : ProcsK z d d.pr.length ↔ ProcsK m d d.pr.length := by
  constructor <;> intro h i hi hk <;> obtain ⟨a, b⟩ := h i hi hk
  · exact ⟨⟨by rw [← s.next]; exact a.pid, a.state, a.reg, a.par, a.why, a.code, fun j hj => by have := a.page j hj; unfold PageP at *; rw [← hf]; exact this, a.fd⟩, b⟩
  · exact ⟨⟨by rw [s.next]; exact a.pid, a.state, a.reg, a.par, a.why, a.code, fun j hj => by have := a.page j hj; unfold PageP at *; rw [hf]; exact this, a.fd⟩, b⟩
theorem pipes_same {m z : Mac} {l : List WrT} (s : SameSc z m) : PipesK z l l.length ↔ PipesK m l l.length := by
  unfold PipesK; rw [s.newPipe]
/-- why a machine may not be hangs on how long its rows are, not on where they lie -/
theorem chkE_same {m z : Mac} {d : MacD} (s : SameSc z m) (hf : z.fr.n = m.fr.n) (hr : z.pr.n = m.pr.n) (hp : z.pi.n = m.pi.n) : chkE z d = chkE m d := by
  unfold chkE numE frE prE piE teE
  rw [errB_congr (nums_same s), hf, hr, hp, errB_congr (procs_same s hf), errB_congr (pipes_same s), s.inn, s.init]
theorem macFit_same {m z : Mac} {d d' : MacD} (h : MacFit m d) (s : SameSc z m) (hd : d'.pr = d.pr) : MacFit z d' :=
  ⟨by rw [s.clock]; exact h.clock, by rw [s.told]; exact h.told, by rw [s.dleft]; exact h.dleft, by rw [s.cur]; exact h.cur, by rw [hd]; exact h.pr⟩
/-- the data of an image -/
def imgD (FB BB : List (List UInt8)) (e : MacD) : MacD := { e with fr := FB, bl := BB }
/-- its machine's numbers -/
def imgM (z : Mac) (d : MacD) : Mac := { z with fr := ⟨none, d.fr.length, 0⟩, pr := ⟨none, d.pr.length, 0⟩, pi := ⟨none, d.pi.length, 0⟩ }
/-- why an image is none of a machine -/
noncomputable def imgE (FB BB : List (List UInt8)) (s : List UInt8) : Int := match restQ s with
  | none => 3
  | some (z, e) => orE (chkE (imgM z (imgD FB BB e)) (imgD FB BB e)) (if restT z (imgD FB BB e) = s then 0 else 3)
end Go.Proofs.YtfaplefkakpgcaaGreatDoor
/- image.Machine of any image. -/
namespace Go.Proofs.YtfaplefkakpgcaaGreatDoor
set_option linter.unusedVariables false
set_option linter.unusedSimpArgs false
open Go.RowKit
/-- how image.Machine ends -/
def ImachR (FB BB : List (List UInt8)) (s : List UInt8) (w : World) (e : Ending) (w' : World) : Prop :=
  (imgE FB BB s ≠ 0 ∧ e = .returned (.tuple #[.agg mac0.cells, .int .i64 (imgE FB BB s)]) ∧ Ext w w') ∨
  (imgE FB BB s = 0 ∧ ∃ z0 e0 z, restQ s = some (z0, e0) ∧ e = .returned (.tuple #[.agg z.cells, .int .i64 0]) ∧ Ext w w' ∧ SameSc z z0 ∧ MacIn w' z (imgD FB BB e0) ∧ StateOk z (imgD FB BB e0) ∧ MacFit z (imgD FB BB e0) ∧ restT z (imgD FB BB e0) = s)
set_option maxHeartbeats 8000000 in
set_option maxRecDepth 100000 in
theorem imach_no (fr bl : Sl) (FB BB : List (List UInt8)) (s : List UInt8) (w : World) (hs : s.length ≤ 4000) (hq : restQ s = none) (hD0 : Dec10 w) :
    Calls Tryz.prog 27 #[.agg #[.slice fr.A fr.n fr.c, .slice bl.A bl.n bl.c, .string (str s)]] w (ImachR FB BB s w) := by
  have HR := Lib.hid (fun w hD => (readRest_any s w (by omega) hD).mono (fun e w' k => by rw [hq] at k; exact (k : e = .returned (.tuple #[.agg mac0.cells, .bool false]) ∧ Ext w w')))
  have x0 := ((Ext.refl w).alloc (.cells #[.slice fr.A fr.n fr.c, .slice bl.A bl.n bl.c, .string (str s)] 24)).alloc (.cells mac0.cells 38)
  have bx := (Box.new w 24 #[.slice fr.A fr.n fr.c, .slice bl.A bl.n bl.c, .string (str s)]).ext ((Ext.refl _).alloc (.cells mac0.cells 38))
  have br := Box.new (w.alloc (.cells #[.slice fr.A fr.n fr.c, .slice bl.A bl.n bl.c, .string (str s)] 24)) 38 mac0.cells
  rw [World.size_alloc] at br
  have HD := Lib.hid (hD0.ext x0)
  have HE := Lib.hid (show imgE FB BB s = 3 by unfold imgE; rw [hq])
  clear hD0 hq hs
  go_enter Tryz.func27, Tryz.ntmps27
  go_upto_region 1 with fail
  change Code.wp _ _ _ _ ((w.alloc (.cells #[.slice fr.A fr.n fr.c, .slice bl.A bl.n bl.c, .string (str s)] 24)).alloc (.cells mac0.cells 38))
  generalize (w.alloc (.cells #[.slice fr.A fr.n fr.c, .slice bl.A bl.n bl.c, .string (str s)] 24)).alloc (.cells mac0.cells 38) = w0 at x0 bx br HD ⊢
  obtain ⟨G, hG⟩ : ∃ G, G = w.heap.size := ⟨_, rfl⟩
  rw [← hG] at bx br ⊢
  have HG := Lib.hid hG
  clear hG
  have q2 : w0.cell? ⟨G, 2, none⟩ = some (.string (str s)) := bx.cell 2
  go_upto_region 2 with (first
    | (go_at_call 68; refine (HR.out _ HD.out).mono ?_; rintro e w1 ⟨rfl, x1⟩)
    | (refine wp_st_mac _ _ rfl rfl w1.heap.size mac0 _ _ rfl rfl (Box.new _ _ _) rfl ?_; intro w2 b2 g2))
  have y2 : Ext w1 w2 := ((Ext.refl w1).alloc _).grown g2 (fun j e => by cases e; exact Nat.le_refl _)
  have br2 := br.ext (x1.trans y2)
  go_wp2_with (refine wp_st_mac (.tmp 2) _ rfl rfl (G + 1) mac0 _ _ rfl rfl br2 rfl ?_; intro w9 b9 g9)
  refine bodyPost_ret (results_cell2 rfl _ _ (G + 1) _ _ _ _ rfl rfl b9 Tryz.underlying38 rfl macSz) rfl (.inl ⟨by rw [HE.out]; decide, by rw [HE.out]; rfl, (x0.trans (x1.trans y2)).grown g9 (fun j e => by cases e; rw [← HG.out]; exact Nat.le_succ _)⟩)
set_option maxHeartbeats 8000000 in
set_option maxRecDepth 100000 in
theorem imach_some (fr bl : Sl) (FB BB : List (List UInt8)) (s : List UInt8) (z : Mac) (e0 : MacD) (w : World) (hF : RowOf stL w fr.A fr.n FB) (hfk : fr.ok) (hfs : fr.n ≤ 100000) (hB : RowOf stL w bl.A bl.n BB) (hbk : bl.ok) (hbs : bl.n ≤ 100000)
    (hs : s.length ≤ 4000) (hq : restQ s = some (z, e0)) (hpe : e0.pe.length ≤ 1000) (hD0 : Dec10 w) :
    Calls Tryz.prog 27 #[.agg #[.slice fr.A fr.n fr.c, .slice bl.A bl.n bl.c, .string (str s)]] w (ImachR FB BB s w) := by
  have HR := Lib.hid (fun w hD => readRest_yes s z e0 w hq (by omega) hD)
  have hfit := restQ_fit hq
  have HC1 := Lib.hid (fun w h => clone_any fr FB w h hfk hfs)
  have HC2 := Lib.hid (fun w h => clone_any bl BB w h hbk hbs)
  have x0 := ((Ext.refl w).alloc (.cells #[.slice fr.A fr.n fr.c, .slice bl.A bl.n bl.c, .string (str s)] 24)).alloc (.cells mac0.cells 38)
  have bx := (Box.new w 24 #[.slice fr.A fr.n fr.c, .slice bl.A bl.n bl.c, .string (str s)]).ext ((Ext.refl _).alloc (.cells mac0.cells 38))
  have br := Box.new (w.alloc (.cells #[.slice fr.A fr.n fr.c, .slice bl.A bl.n bl.c, .string (str s)] 24)) 38 mac0.cells
  rw [World.size_alloc] at br
  have HD := Lib.hid (hD0.ext x0)
  have HF := Lib.hid (hF.ext x0)
  have HB := Lib.hid (hB.ext x0)
  have HFS := Lib.hid (show FB.length ≤ 100000 by rw [← hF.1]; exact hfs)
  have HBS := Lib.hid (show BB.length ≤ 100000 by rw [← hB.1]; exact hbs)
  have HQ := Lib.hid hq
  have HFT := Lib.hid hfit
  have HS := Lib.hid hs
  have HPE := Lib.hid hpe
  obtain ⟨OUT, hOUT⟩ : ∃ OUT, OUT = ImachR FB BB s w := ⟨_, rfl⟩
  rw [← hOUT]
  have HO := Lib.hid hOUT
  clear hF hfk hfs hB hbk hbs hs hq hfit hD0 hpe hOUT
  go_enter Tryz.func27, Tryz.ntmps27
  go_upto_region 1 with fail
  change Code.wp _ _ _ _ ((w.alloc (.cells #[.slice fr.A fr.n fr.c, .slice bl.A bl.n bl.c, .string (str (s))] 24)).alloc (.cells mac0.cells 38))
  generalize (w.alloc (.cells #[.slice fr.A fr.n fr.c, .slice bl.A bl.n bl.c, .string (str (s))] 24)).alloc (.cells mac0.cells 38) = w0 at x0 bx br HD HF HB ⊢
  obtain ⟨G, hG⟩ : ∃ G, G = w.heap.size := ⟨_, rfl⟩
  rw [← hG] at bx br ⊢
  have HG := Lib.hid hG
  clear hG
  have hgr : G + 1 < w0.heap.size := br.lt
  have q2 : w0.cell? ⟨G, 2, none⟩ = some (.string (str (s))) := bx.cell 2
  go_upto_region 2 with (first
    | (go_at_call 68; refine (HR.out _ HD.out).mono ?_; rintro e w1 ⟨pr, pi, pe, di, rfl, x1, n1, n2, n3, n4, oPr, oPi, oPe, oDi⟩; have HN1 := Lib.hid n1; have HN2 := Lib.hid n2; have HN3 := Lib.hid n3; have HN4 := Lib.hid n4; clear n1 n2 n3 n4)
    | (refine wp_st_mac _ _ rfl rfl w1.heap.size ({ z with pr := pr, pi := pi, pe := pe, di := di } : Mac) _ _ rfl rfl (Box.new _ _ _) rfl ?_; intro w2 b2 g2))
  have y2 : Ext w1 w2 := ((Ext.refl w1).alloc _).grown g2 (fun j e => by cases e; exact Nat.le_refl _)
  have X2 := x1.trans y2
  have hgM : w0.heap.size ≤ w1.heap.size := x1.size
  replace oPr := own_ext oPr y2
  replace oPi := own_ext oPi y2
  replace oPe := own_ext oPe y2
  replace oDi := own_ext oDi y2
  clear y2 g2 x1 q2 HR
  generalize w1.heap.size = gM at *
  clear w1
  have q0 : w2.cell? ⟨G, 0, none⟩ = some (.slice fr.A fr.n fr.c) := (bx.ext X2).cell 0
  go_upto_region 5 with (first
    | (go_at_call 53; refine (HC1.out _ (HF.out.ext X2)).mono ?_; rintro e w3 ⟨A1, c1, rfl, o3, x3⟩)
    | (refine wp_st_cell _ _ _ rfl rfl gM 4 _ _ ({ z with pr := pr, pi := pi, pe := pe, di := di, fr := ⟨A1, FB.length, c1⟩ } : Mac).cells _ rfl rfl rfl szStrs (b2.ext x3) (show 4 < 17 by decide) rfl ?_; intro w4 b4 d4))
  have b23 := b2.ext x3
  have oFr := own_base (own_but o3 d4 b23 (by decide)) X2.size
  replace oPr := own_but (own_ext oPr x3) d4 b23 (by decide)
  replace oPi := own_but (own_ext oPi x3) d4 b23 (by decide)
  replace oPe := own_but (own_ext oPe x3) d4 b23 (by decide)
  replace oDi := own_but (own_ext oDi x3) d4 b23 (by decide)
  have X4 := d4.past (X2.trans x3) hgM
  clear b2 b23 o3 x3 d4 q0 X2
  clear w2 w3
  have q1 : w4.cell? ⟨G, 1, none⟩ = some (.slice bl.A bl.n bl.c) := (bx.ext X4).cell 1
  go_upto_region 6 with (first
    | (go_at_call 53; refine (HC2.out _ (HB.out.ext X4)).mono ?_; rintro e w5 ⟨A2, c2, rfl, o5, x5⟩)
    | (refine wp_st_cell _ _ _ rfl rfl gM 13 _ _ ({ z with pr := pr, pi := pi, pe := pe, di := di, fr := ⟨A1, FB.length, c1⟩, bl := ⟨A2, BB.length, c2⟩ } : Mac).cells _ rfl rfl rfl szStrs (b4.ext x5) (show 13 < 17 by decide) rfl ?_; intro w6 b6 d6))
  have b45 := b4.ext x5
  have oBl := own_base (own_but o5 d6 b45 (by decide)) X4.size
  replace oFr := own_but (own_ext oFr x5) d6 b45 (by decide)
  replace oPr := own_but (own_ext oPr x5) d6 b45 (by decide)
  replace oPi := own_but (own_ext oPi x5) d6 b45 (by decide)
  replace oPe := own_but (own_ext oPe x5) d6 b45 (by decide)
  replace oDi := own_but (own_ext oDi x5) d6 b45 (by decide)
  have X6 := Lib.hid (d6.past (X4.trans x5) hgM)
  clear b4 b45 o5 x5 d6 q1 X4
  clear w4 w5
  have bx6 := bx.ext X6.out
  have br6 := br.ext X6.out
  have HSC : Hid (SameSc ({ z with pr := pr, pi := pi, pe := pe, di := di, fr := ⟨A1, FB.length, c1⟩, bl := ⟨A2, BB.length, c2⟩ } : Mac) z) := Lib.hid ⟨rfl, rfl, rfl, rfl, rfl, rfl, rfl, rfl, rfl, rfl, rfl⟩
  have HTY : Hid (MacTy w6 ({ z with pr := pr, pi := pi, pe := pe, di := di, fr := ⟨A1, FB.length, c1⟩, bl := ⟨A2, BB.length, c2⟩ } : Mac)) := Lib.hid ⟨ty_of_own oFr (by decide), ty_of_own oPr (by decide), ty_of_own oPi (by decide), ty_of_own oBl (by decide), ty_of_own oPe (by decide), ty_of_own oDi (by decide)⟩
  have HMI : Hid (MacIn w6 ({ z with pr := pr, pi := pi, pe := pe, di := di, fr := ⟨A1, FB.length, c1⟩, bl := ⟨A2, BB.length, c2⟩ } : Mac) (imgD FB BB e0)) := Lib.hid (by
    have k1 := HFT.out.prl
    have k2 := HFT.out.pil
    have k3 := HFT.out.pel
    have k4 := HFT.out.dil
    have k5 := HS.out
    have k6 := HFT.out.initl
    have k7 := HFT.out.innl
    refine ⟨own_row oFr (fun _ _ => rfl) rfl rfl, own_row oPr (fun _ _ => prL_len _) HN1.out rfl, own_row oPi (fun _ _ => rfl) HN2.out rfl, own_row oBl (fun _ _ => rfl) rfl rfl, own_row oPe (fun _ _ => rfl) HN3.out rfl, own_row oDi (fun _ _ => rfl) HN4.out rfl,
      own_ok (s := ⟨A1, FB.length, c1⟩) oFr HFS.out, own_ok oPr (by rw [HN1.out]; omega), own_ok oPi (by rw [HN2.out]; omega), own_ok (s := ⟨A2, BB.length, c2⟩) oBl HBS.out, own_ok oPe (by rw [HN3.out]; omega), own_ok oDi (by rw [HN4.out]; omega), ?_, ?_, ?_⟩
    · show z.init.length ≤ maxLen
      unfold maxLen; omega
    · show z.inn.length ≤ maxLen
      unfold maxLen; omega
    · show (Lit.int .i64 z.dleft).wf = true
      exact HFT.out.dwf)
  have HCK := Lib.hid (show chkE ({ z with pr := pr, pi := pi, pe := pe, di := di, fr := ⟨A1, FB.length, c1⟩, bl := ⟨A2, BB.length, c2⟩ } : Mac) (imgD FB BB e0) = chkE (imgM z (imgD FB BB e0)) (imgD FB BB e0) from chkE_same ⟨rfl, rfl, rfl, rfl, rfl, rfl, rfl, rfl, rfl, rfl, rfl⟩ rfl HN1.out HN2.out)
  have HP1 := Lib.hid (show (({ z with pr := pr, pi := pi, pe := pe, di := di, fr := ⟨A1, FB.length, c1⟩, bl := ⟨A2, BB.length, c2⟩ } : Mac)).pr.n = (imgD FB BB e0).pr.length from HN1.out)
  have HP2 := Lib.hid (show (({ z with pr := pr, pi := pi, pe := pe, di := di, fr := ⟨A1, FB.length, c1⟩, bl := ⟨A2, BB.length, c2⟩ } : Mac)).pi.n = (imgD FB BB e0).pi.length from HN2.out)
  generalize ({ z with pr := pr, pi := pi, pe := pe, di := di, fr := ⟨A1, FB.length, c1⟩, bl := ⟨A2, BB.length, c2⟩ } : Mac) = M3 at b6 HSC HTY HMI HCK HP1 HP2
  clear oFr oPr oPi oBl oPe oDi HN1 HN2 HN3 HN4 HFS HBS HC1 HC2 HF HB
  have HPI := Lib.hid (show M3.pi.n ≤ 4000 by rw [HP2.out]; have := HFT.out.pil; have := HS.out; exact Nat.le_trans HFT.out.pil HS.out)
  go_upto_region 7 with (first
    | (refine wp_ld_mac _ rfl rfl gM _ _ rfl b6 rfl ?_)
    | (go_at_call 17; refine (scheck_any M3 (imgD FB BB e0) _ HMI.out HPI.out).mono ?_; rintro e w7 ⟨rfl, x7⟩))
  replace b6 := b6.ext x7
  replace bx6 := bx6.ext x7
  replace br6 := br6.ext x7
  replace HMI := Lib.hid (HMI.out.ext x7)
  replace HTY := Lib.hid (HTY.out.ext x7)
  replace X6 := Lib.hid (X6.out.trans x7)
  clear x7 bx br
  by_cases hc : chkE M3 (imgD FB BB e0) = 0
  case neg =>
    have HE := Lib.hid (show imgE FB BB s = chkE M3 (imgD FB BB e0) by unfold imgE; rw [HQ.out]; simp only; rw [← HCK.out, orE_l hc])
    have HCN := Lib.hid hc
    generalize chkE M3 (imgD FB BB e0) = c at *
    have hcb : (c != 0) = true := by simpa using hc
    clear hc
    go_wp2_with (refine wp_st_mac (.tmp 2) _ rfl rfl (G + 1) mac0 _ _ rfl rfl br6 rfl ?_; intro w9 b9 g9)
    refine bodyPost_ret (results_cell2 rfl _ _ (G + 1) _ _ _ _ rfl rfl b9 Tryz.underlying38 rfl macSz) rfl ?_
    rw [HO.out]
    exact .inl ⟨by rw [HE.out]; exact HCN.out, by rw [HE.out]; rfl, (x0.trans X6.out).grown g9 (fun j e => by cases e; rw [← HG.out]; exact Nat.le_succ _)⟩
  have hST := chkE_zero.1 hc
  have HST := Lib.hid hST
  have HMF := Lib.hid (macFit_same HFT.out.fit HSC.out (d' := imgD FB BB e0) rfl)
  have HRF := Lib.hid (rest_fit hST HMF.out HP1.out.symm HP2.out.symm HPE.out)
  have HRO := Lib.hid (fun w hi hD => restOf_any M3 (imgD FB BB e0) w HRF.out hi hD)
  have HE := Lib.hid (show imgE FB BB s = if restT M3 (imgD FB BB e0) = s then 0 else 3 by unfold imgE; rw [HQ.out]; simp only; rw [← HCK.out, hc, orE_r, rest_sameT HSC.out])
  rw [hc]
  obtain ⟨t, htt⟩ : ∃ t, t = restT M3 (imgD FB BB e0) := ⟨_, rfl⟩
  rw [← htt] at HRO HE
  have HT := Lib.hid htt
  clear hc hST htt
  go_upto_region 9 with fail
  refine wp_region_web' 4 [[], [0], [], [2]] (listV [isV (.agg M3.cells), isV (.string (str t)), isV (.pointer (some ⟨G, 2, none⟩)), isV (.string (str s))]) (by kernel_rfl) (by kernel_rfl) (listV_ext (fun p hp => by simp only [List.mem_cons, List.not_mem_nil, or_false] at hp; rcases hp with rfl | rfl | rfl | rfl <;> first | exact lasts_is _)) (fun us => ?_)
  simp only [List.take_succ_cons, List.take_zero, List.drop_succ_cons, List.drop_zero]
  rw [webWalk]
  refine And.intro (fun w' hx hd => ?_) ?_
  · clear hd
    refine web_of_list 31 rfl (by simp) rfl ?_
    go_wp2_with (refine wp_ld_mac _ rfl rfl gM _ _ rfl (b6.ext hx) rfl ?_)
    exact ⟨Ext.refl _, rfl⟩
  simp only [Act.put, List.setIfInBounds_toArray, List.set_cons_zero, List.set_cons_succ]
  rw [webWalk]
  refine And.intro (fun w' hx hd => ?_) ?_
  · have h0 := hd 0 (by simp)
    clear hd
    generalize us 0 = u0 at *
    obtain rfl : u0 = .agg M3.cells := h0
    refine web_of_list 32 rfl (by simp [Act.put]) rfl ?_
    go_wp2_with (go_at_call 54; refine (HRO.out _ (HMI.out.ext hx) (HD.out.ext (X6.out.trans hx))).mono ?_; rintro e w2 ⟨rfl, x2⟩)
    first | exact ⟨x2, rfl⟩ | exact rfl
  simp only [Act.put, List.setIfInBounds_toArray, List.set_cons_zero, List.set_cons_succ]
  rw [webWalk]
  refine And.intro (fun w' hx hd => ?_) ?_
  · clear hd
    refine web_of_list 33 rfl (by simp [Act.put]) rfl ?_
    go_wp2_with fail
    exact ⟨Ext.refl _, rfl⟩
  simp only [Act.put, List.setIfInBounds_toArray, List.set_cons_zero, List.set_cons_succ]
  rw [webWalk]
  refine And.intro (fun w' hx hd => ?_) ?_
  · have h2 := hd 2 (by simp)
    clear hd
    generalize us 2 = u2 at *
    obtain rfl : u2 = .pointer (some ⟨G, 2, none⟩) := h2
    have q0 : w'.cell? ⟨G, 2, none⟩ = some (.string (str s)) := (bx6.ext hx).cell 2
    refine web_of_list 34 rfl (by simp [Act.put]) rfl ?_
    go_wp2_with fail
    exact ⟨Ext.refl _, rfl⟩
  simp only [Act.put, List.setIfInBounds_toArray, List.set_cons_zero, List.set_cons_succ]
  rw [webWalk]
  intro w' hx hv
  have h1 := hv 1 (by omega)
  have h3 := hv 3 (by omega)
  clear hv
  generalize us 0 = u0 at *
  generalize us 1 = u1 at *
  generalize us 2 = u2 at *
  generalize us 3 = u3 at *
  obtain rfl : u1 = .string (str t) := h1
  obtain rfl : u3 = .string (str s) := h3
  have bf := b6.ext hx
  have rf := br6.ext hx
  have xf := Lib.hid (X6.out.trans hx)
  have Hf := Lib.hid (HMI.out.ext hx)
  by_cases he : t = s
  · have HE0 := Lib.hid (show imgE FB BB s = 0 by rw [HE.out, if_pos he])
    have HTS := Lib.hid (show restT M3 (imgD FB BB e0) = s by rw [← HT.out]; exact he)
    have hq : ((str t).toList == (str s).toList) = true := by rw [he]; simp
    clear he
    go_wp2_with (first
      | (refine wp_ld_mac _ rfl rfl gM _ _ rfl bf rfl ?_)
      | (refine wp_st_mac _ _ rfl rfl (G + 1) M3 _ _ rfl rfl rf rfl ?_; intro w9 b9 g9))
    refine bodyPost_ret (results_cell2 rfl _ _ (G + 1) _ _ _ _ rfl rfl b9 Tryz.underlying38 rfl macSz) rfl ?_
    rw [HO.out]
    have hMI := Hf.out
    exact .inr ⟨HE0.out, z, e0, M3, HQ.out, rfl, (x0.trans xf.out).grown g9 (fun j e => by cases e; rw [← HG.out]; exact Nat.le_succ _), HSC.out, hMI.grown (MacTy.ext HTY.out hx) rf g9, HST.out, HMF.out, HTS.out⟩
  · have HE0 := Lib.hid (show imgE FB BB s = 3 by rw [HE.out, if_neg he])
    have hq : ((str t).toList == (str s).toList) = false := by rw [str_toList, str_toList]; simpa using he
    clear he
    go_wp2_with (refine wp_st_mac (.tmp 2) _ rfl rfl (G + 1) mac0 _ _ rfl rfl rf rfl ?_; intro w9 b9 g9)
    refine bodyPost_ret (results_cell2 rfl _ _ (G + 1) _ _ _ _ rfl rfl b9 Tryz.underlying38 rfl macSz) rfl ?_
    rw [HO.out]
    exact .inl ⟨by rw [HE0.out]; decide, by rw [HE0.out]; rfl, (x0.trans xf.out).grown g9 (fun j e => by cases e; rw [← HG.out]; exact Nat.le_succ _)⟩
theorem imach_any (fr bl : Sl) (FB BB : List (List UInt8)) (s : List UInt8) (w : World) (hF : RowOf stL w fr.A fr.n FB) (hfk : fr.ok) (hfs : fr.n ≤ 100000) (hB : RowOf stL w bl.A bl.n BB) (hbk : bl.ok) (hbs : bl.n ≤ 100000) (hs : s.length ≤ 4000) (hD0 : Dec10 w) :
    Calls Tryz.prog 27 #[.agg #[.slice fr.A fr.n fr.c, .slice bl.A bl.n bl.c, .string (str s)]] w (ImachR FB BB s w) := by
  cases hq : restQ s with
  | none => exact imach_no fr bl FB BB s w hs hq hD0
  | some p => exact imach_some fr bl FB BB s p.1 p.2 w hF hfk hfs hB hbk hbs hs hq (restQ_pe hq hs) hD0
end Go.Proofs.YtfaplefkakpgcaaGreatDoor
