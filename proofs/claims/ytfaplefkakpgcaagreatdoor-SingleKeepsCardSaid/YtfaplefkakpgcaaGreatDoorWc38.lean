/- The walk of SingleKeeps. -/
import Derived.Test.YtfaplefkakpgcaaGreatDoorWc37
import Derived.Test.YtfaplefkakpgcaaGreatDoorWc29
import Derived.Test.YtfaplefkakpgcaaGreatDoorWc7
import Derived.BigRegion
namespace Go.Proofs.YtfaplefkakpgcaaGreatDoor
set_option linter.unusedVariables false
set_option linter.unusedSimpArgs false
open Go.RowKit
section
variable {C : World → Prop} {o : Oper} {a : Act} {K : Act → Prop}
theorem quiet_ld_prA (x : Operand) (h : o.op = .load 57 x) (b i : Nat) (hx : a.eval x = .pointer (some ⟨b, i, none⟩)) (p : PrT) (hc : ∀ w, C w → w.rangeAt b i (prL p)) (hk : K (a.put o.dst (.agg (prL p).toArray))) : o.quiet Tryz.prog a C K :=
 quiet_load_mid _ x h b i hx _ _ hc Tryz.underlying57 rfl (by rw [prL_len]; exact prSize) hk
end
def Brought (d : MacD) (y : PrT) (D : MacD) : Prop := ∃ pre q, D.pr = pre ++ [q] ∧ AlikeP d.fr D.fr y q
theorem pid_mono {m : Mac} {d : MacD} (h : StateOk m d) : ∀ {i j : Nat} (hj : j < d.pr.length) (hij : i < j), (d.pr[i]'(by omega)).pid < d.pr[j].pid
 | i, 0, _, h0 => absurd h0 (Nat.not_lt_zero _)
 | i, j + 1, hj, hij => by
  have h1 : (d.pr[j]'(by omega)).pid < d.pr[j + 1].pid := (h.rest.pr (j + 1) hj hj).2 (Nat.succ_pos _)
  by_cases e : i = j
  ·subst e; exact h1
  ·have h2 := pid_mono h (i := i) (j := j) (by omega) (by omega)
   omega
theorem pid_uniq {m : Mac} {d : MacD} (h : StateOk m d) {k : Nat} (hk : k < d.pr.length) {y : PrT} (hy : y ∈ d.pr) (he : d.pr[k].pid = y.pid) : d.pr[k] = y := by
 obtain ⟨j, hj, rfl⟩ := List.getElem_of_mem hy
 rcases (by omega : k < j ∨ k = j ∨ j < k) with e | e | e
 ·have := pid_mono h hj e; omega
 ·subst e; rfl
 ·have := pid_mono h hk e; omega
def listU (l : List (World → (Nat → Value) → Prop)) (k : Nat) : World → (Nat → Value) → Prop := (l[k]?).getD (fun _ _ => True)
def RU (B k : Nat) (w w' : World) : Prop := if k = 10 then ∃ g cs, B ≤ g ∧ Box w g 38 cs ∧ But g w w' ∧ ∃ cs', Box w' g 38 cs' ∧ cs'.size = 17 else Ext w w'
theorem RU.ext {W w w' : World} {k : Nat} (h : RU W.heap.size k w w') (x : Ext W w) : Ext W w' := by
 unfold RU at h
 split at h
 ·obtain ⟨g, cs, hg, _, hb, _⟩ := h
  exact hb.past x hg
 ·exact x.trans h
theorem RU.same {B k : Nat} {w : World} (hk : k ≠ 10) : RU B k w w := by unfold RU; rw [if_neg hk]; exact Ext.refl w
theorem RU.of {B k : Nat} {w w' : World} (hk : k ≠ 10) (x : Ext w w') : RU B k w w' := by unfold RU; rw [if_neg hk]; exact x
theorem MacOwn.butM {w w' : World} {B g : Nat} {m : Mac} {d : MacD} {cs : Array Value} (h : MacOwn w B m d) (hk : But g w w') (hb : Box w g 38 cs) : MacOwn w' B m d :=
 ⟨own_but h.fr hk hb (by decide), own_but h.pr hk hb (by decide), own_but h.pi hk hb (by decide), own_but h.bl hk hb (by decide), own_but h.pe hk hb (by decide), own_but h.di hk hb (by decide), h.frn, h.prn, h.pin, h.bln, h.pen, h.din, h.apart⟩
theorem ProcOut.keep {a : Mac} {d e : MacD} {I1 I2 : Option Int} {pid : Int} {B k : Nat} {w w' : World} {en : Ending} (h : ProcOut a d e I1 I2 pid w en) (r : RU B k w w') : ProcOut a d e I1 I2 pid w' en := by
 rcases h with h | ⟨y, h1, h2, h3, h4, z, h5, h6, h7⟩
 ·exact .inl h
 ·refine .inr ⟨y, h1, h2, h3, h4, z, h5, ?_, h7⟩
  unfold RU at r
  split at r
  ·obtain ⟨g, cs, _, hb, hk, _⟩ := r
   exact h6.butM hk hb
  ·exact h6.ext r
theorem RU.box {B k : Nat} {w w' : World} {g : Nat} {cs : Array Value} (r : RU B k w w') (h : Box w g 38 cs) (hs : cs.size = 17) : ∃ cs', Box w' g 38 cs' ∧ cs'.size = 17 := by
 unfold RU at r
 split at r
 ·obtain ⟨g', cs', _, hb, hk, cs2, h2, h3⟩ := r
  by_cases e : g = g'
  ·subst e; exact ⟨cs2, h2, h3⟩
  ·exact ⟨cs, hk.box h e, hs⟩
 ·exact ⟨cs, h.ext r, hs⟩
section
variable {P : Program} {ops : Array Oper}
theorem k_of_store {R : World → World → Prop} {V : World → Value → Prop} {o : Oper} {a : Act} {w : World} (hd : o.dst = none) (hg : o.guard = none) (hV : ∀ w u, V w undef → V w u)
  (h : wpList P ops (fun x a' w' => x = .normal ∧ a' = a ∧ R w w' ∧ V w' undef) [o] a w) : kStep P ops R V o a w := by
 have hw : Region.wanted o (yielded ops a.tmps) = true := by simp [Region.wanted, hg]
 refine ⟨hw, ?_⟩
 rw [wpList, if_pos hw] at h
 rcases h with h | ⟨_, _, _, h, _⟩
 ·unfold Oper.wp at h
  generalize (execOp a.eval o).run P w = r at *
  cases r with
  | ok n w' =>
   cases n <;> simp only [Oper.upon, wpList] at h <;> simp only [kUpon]
   case value u =>
    obtain ⟨_, e, hx, hv⟩ := h
    exact ⟨hx, hV _ _ hv⟩
   case skip =>
    obtain ⟨_, e, hx, hv⟩ := h
    exact ⟨hx, hv⟩
   case defer df =>
    obtain ⟨_, e, _⟩ := h
    have e2 := congrArg (fun b : Act => b.defers.length) e
    simp [Act.put, hd] at e2
   case enter f args =>
    refine h.mono fun e w'' he => ?_
    cases e with
    | returned v =>
     obtain ⟨_, e, hx, hv⟩ := he
     exact ⟨v, rfl, hx, hV _ _ hv⟩
    | panicked c => obtain ⟨he, _⟩ := he; cases he
    | outgrown => obtain ⟨_, _, he, _⟩ := he; cases he
   case row row args =>
    refine h.mono fun u w'' he => ?_
    obtain ⟨_, e, hx, hv⟩ := he
    exact ⟨hx, hV _ _ hv⟩
  | halt x w' =>
   cases x <;> simp only [Oper.upon] at h
   obtain ⟨h, _⟩ := h; cases h
 ·cases h
end
def KeepsH (m a b : Mac) (d : MacD) : Prop := a.next ≤ 900000000 ∧ b.next ≤ 900000000 ∧ ((m.pe.n ≤ 60 ∧ m.pr.n ≤ 8 ∧ m.pi.n ≤ 8 ∧ m.di.n ≤ 32 ∧ m.fr.n ≤ 20 ∧ m.bl.n ≤ 80) ∧ StateOk m d) ∧ (a.pe.n ≤ 60 ∧ a.pr.n ≤ 8 ∧ a.pi.n ≤ 8 ∧ a.di.n ≤ 32 ∧ a.fr.n ≤ 20 ∧ a.bl.n ≤ 80) ∧ (b.pe.n ≤ 60 ∧ b.pr.n ≤ 8 ∧ b.pi.n ≤ 8 ∧ b.di.n ≤ 32 ∧ b.fr.n ≤ 20 ∧ b.bl.n ≤ 80)
set_option maxHeartbeats 8000000 in
set_option maxRecDepth 100000 in
theorem singleKeeps_any (m a b : Mac) (d ea eb : MacD) (pid : Int) (w : World) (hm : MacIn w m d) (ha : MacIn w a ea) (hb : MacIn w b eb) (fm : MacFit m d) (fa : MacFit a ea) (fb : MacFit b eb) (hD0 : Dec10 w) :
  Calls Tryz.prog 6 #[.agg m.cells, .int .i64 pid, .agg a.cells, .agg b.cells] w fun e w' => e = .returned (.bool true) ∧ Ext w w' := by
 have HLm := Lib.hid (fun w h => large_any m d w h)
 have HLa := Lib.hid (fun w h => large_any a ea w h)
 have HLb := Lib.hid (fun w h => large_any b eb w h)
 have HC := Lib.hid (fun w h h1 h2 => rcheck_ok m d w h h1 h2)
 have HAw := Lib.hid sawake_any
 have x0 := (((Ext.refl w).alloc (.cells m.cells 38)).alloc (.cells a.cells 38)).alloc (.cells b.cells 38)
 have bm := ((Box.new w 38 m.cells).ext ((Ext.refl _).alloc (.cells a.cells 38))).ext ((Ext.refl _).alloc (.cells b.cells 38))
 have ba := (Box.new (w.alloc (.cells m.cells 38)) 38 a.cells).ext ((Ext.refl _).alloc (.cells b.cells 38))
 have bb := Box.new ((w.alloc (.cells m.cells 38)).alloc (.cells a.cells 38)) 38 b.cells
 rw [World.size_alloc] at ba
 rw [World.size_alloc, World.size_alloc] at bb
 have HM := Lib.hid (hm.ext x0)
 have HA := Lib.hid (ha.ext x0)
 have HB := Lib.hid (hb.ext x0)
 have HD := Lib.hid (hD0.ext x0)
 have FM := Lib.hid fm
 have FA := Lib.hid fa
 have FB := Lib.hid fb
 clear hm ha hb fm fa fb hD0
 go_enter Tryz.func6, Tryz.ntmps6
 go_upto_region 1 with fail
 generalize ((w.alloc (.cells m.cells 38)).alloc (.cells a.cells 38)).alloc (.cells b.cells 38) = w1 at *
 generalize w.heap.size = G at *
 obtain ⟨KH, hKH⟩ : ∃ KH, KH = KeepsH m a b d := ⟨_, rfl⟩
 have HKH := Lib.hid hKH
 clear hKH
 go_cut [43] (fun s wx => ∃ q : Bool, s = .bool q ∧ Ext w1 wx ∧ (q = false → KH))
 case first =>
  clear HAw FM FA FB HD
  have q6 : w1.cell? ⟨G + 1, 6, none⟩ = some (.int .i64 a.next) := ba.cell 6
  have q7 : w1.cell? ⟨G + 1 + 1, 6, none⟩ = some (.int .i64 b.next) := bb.cell 6
  rcases Bool.eq_false_or_eq_true (decide (900000000 < a.next)) with n1 | n1
  ·go_wp2_with fail
   go_meet
   exact ⟨true, rfl, Ext.refl _, fun h => by cases h⟩
  rcases Bool.eq_false_or_eq_true (decide (900000000 < b.next)) with n2 | n2
  ·go_wp2_with fail
   go_meet
   exact ⟨true, rfl, Ext.refl _, fun h => by cases h⟩
  have HN1 := Lib.hid (show a.next ≤ 900000000 by have := of_decide_eq_false n1; omega)
  have HN2 := Lib.hid (show b.next ≤ 900000000 by have := of_decide_eq_false n2; omega)
  go_wp2_with (first
   | (refine wp_ld_mac_g (.tmp 4) rfl rfl G m 38 rfl bm4 ?_)
   | (refine wp_ld_mac_g (.tmp 7) rfl rfl (G + 1 + 1) b 38 rfl bb3 ?_)
   | (refine wp_ld_mac_g (.tmp 6) rfl rfl (G + 1) a 38 rfl ba2 ?_)
   | (refine wp_ld_mac_g (.tmp 4) rfl rfl G m 38 rfl bm ?_)
   | (go_at_call 19; have hlz := HZ2.out (by simpa using dz); refine (HC.out _ (HM.out.ext x24) (by omega) (by omega)).mono ?_; rintro e w5 ⟨⟨q, rfl, hn⟩, x5⟩; have HLZ := Lib.hid hlz; clear hlz; have HN := Lib.hid hn; clear hn; rcases Bool.eq_false_or_eq_true (q != 0) with dn | dn)
   | (go_at_call 13; (have hq := HLb.out _ (HB.out.ext x23); with_reducible (refine hq.mono ?_)); clear hq; rintro e w4 ⟨⟨z4, rfl, hz4⟩, x4⟩; have HZ4 := Lib.hid hz4; clear hz4; have x24 := x23.trans x4; have bm4 := bm.ext x24; rcases Bool.eq_false_or_eq_true (decide (0 < z4)) with dz4 | dz4)
   | (go_at_call 13; (have hq := HLa.out _ (HA.out.ext x2); with_reducible (refine hq.mono ?_)); clear hq; rintro e w3 ⟨⟨z3, rfl, hz3⟩, x3⟩; have HZ3 := Lib.hid hz3; clear hz3; have x23 := x2.trans x3; have bb3 := bb.ext x23; rcases Bool.eq_false_or_eq_true (decide (0 < z3)) with dz3 | dz3)
   | (go_at_call 13; (have hq := HLm.out _ HM.out; with_reducible (refine hq.mono ?_)); clear hq; rintro e w2 ⟨⟨z, rfl, hz⟩, x2⟩; have HZ2 := Lib.hid hz; clear hz; have ba2 := ba.ext x2; rcases Bool.eq_false_or_eq_true (decide (0 < z)) with dz | dz))
  all_goals go_meet
  ·exact ⟨true, rfl, x2, fun h => by cases h⟩
  ·exact ⟨true, rfl, x23, fun h => by cases h⟩
  ·exact ⟨true, rfl, x24, fun h => by cases h⟩
  ·exact ⟨true, rfl, x24.trans x5, fun h => by cases h⟩
  ·have z2 := HZ2.out (by simpa using dz)
   have z3 := HZ3.out (by simpa using dz3)
   have z4 := HZ4.out (by simpa using dz4)
   have nn := HN.out (by simpa using dn)
   exact ⟨false, rfl, x24.trans x5, fun _ => by rw [HKH.out]; exact ⟨HN1.out, HN2.out, ⟨⟨by omega, by omega, by omega, by omega, by omega, by omega⟩, nn⟩, ⟨by omega, by omega, by omega, by omega, by omega, by omega⟩, ⟨by omega, by omega, by omega, by omega, by omega, by omega⟩⟩⟩
 case rest =>
  obtain ⟨q, rfl, x2, hq⟩ := hcut
  cases q with
  | true =>
   go_wp2_with (go_at_call 10; refine (HAw.out _).mono ?_; rintro e w3 ⟨rfl, x3⟩)
   go_ret
   exact ⟨rfl, (x0.trans x2).trans x3⟩
  | false =>
  have KH' := hq rfl
  rw [HKH.out] at KH'
  obtain ⟨hna, hnb, ⟨hsm, hst⟩, hsa, hsb⟩ := KH'
  clear HKH hq HLm HLa HLb HC
  have bm := bm.ext x2
  have ba := ba.ext x2
  have bb := bb.ext x2
  have hi := HM.out
  have hR := rest_fit hst FM.out hi.pr.1.symm hi.pi.1.symm (by rw [← hi.pe.1]; omega)
  obtain ⟨I1, hg1⟩ := goodX (viewP d.bl d.pe d.di)
  obtain ⟨I2, hg2⟩ := goodX (viewP ea.bl ea.pe ea.di)
  have HI := Lib.hid (fun w (x : Ext w1 w) => iof_yes m d w (hi.ext x) hst hR (HD.out.ext x) (by omega) (by omega))
  have HX := Lib.hid (fun (fr bl : Sl) w (x : Ext w1 w) h1 h2 h3 h4 h5 h6 => proc_img m a d ea fr bl pid I1 I2 w hst hR hi.fr.1 hi.pr.1 hi.pi.1 hi.initk hi.innk hi.leftk (HD.out.ext x) h1 h2 h3 h4 h5 h6 (HA.out.ext x) ⟨by omega, by omega, by omega, by omega, by omega, by omega⟩ (by omega) hg1 hg2)
  clear hi hR
  have xw := x2
  go_upto_region 3 with fail
  refine wp_region_webU' 13 [[], [0], [], [], [1, 2, 3], [4], [5], [5], [5], [], [6, 9], [7], [8]] (listU [fun _ us => us 0 = .agg m.cells, fun w us => ∃ fr bl : Sl, us 1 = .agg #[.slice fr.A fr.n fr.c, .slice bl.A bl.n bl.c, .string (str (restT m d))] ∧ RowOf stL w fr.A fr.n d.fr ∧ fr.ok ∧ fr.n ≤ 100000 ∧ RowOf stL w bl.A bl.n d.bl ∧ bl.ok ∧ bl.n ≤ 100000, fun _ us => us 2 = .int .i64 pid, fun _ us => us 3 = .agg a.cells, fun w us => ProcOut a d ea I1 I2 pid w (.returned (us 4)), fun _ us => us 5 = us 4 ∧ ∃ (z : Mac) (n e : Int), us 5 = .tuple #[.agg z.cells, .int .i64 n, .int .i64 e], fun _ us => ∃ (z : Mac) (n e : Int), us 5 = .tuple #[.agg z.cells, .int .i64 n, .int .i64 e] ∧ us 6 = .agg z.cells, fun _ us => ∃ (z : Mac) (n e : Int), us 5 = .tuple #[.agg z.cells, .int .i64 n, .int .i64 e] ∧ us 7 = .int .i64 n, fun _ us => ∃ (z : Mac) (n e : Int), us 5 = .tuple #[.agg z.cells, .int .i64 n, .int .i64 e] ∧ us 8 = .int .i64 e, fun w us => ∃ g cs, wc.heap.size ≤ g ∧ us 9 = .pointer (some ⟨g, 0, none⟩) ∧ Box w g 38 cs ∧ cs.size = 17, fun w us => ∃ (g : Nat) (z : Mac), us 9 = .pointer (some ⟨g, 0, none⟩) ∧ us 6 = .agg z.cells ∧ Box w g 38 z.cells, fun _ us => us 11 = us 7, fun _ us => us 12 = us 8]) (fun x => Ext wc x) (RU wc.heap.size) 10 [1] [6, 5, 4] (by kernel_rfl) (by kernel_rfl) (by kernel_rfl) ((Ext.refl wc).drew) (fun k x y h r => r.ext h) (fun j x us us' hj e hd h => ?_) (fun j k x y us hj hjk hkd hx r h => ?_) (fun us => ?_)
  ·rcases (by omega : j = 0 ∨ j = 1 ∨ j = 2 ∨ j = 3 ∨ j = 4 ∨ j = 5 ∨ j = 6 ∨ j = 7 ∨ j = 8 ∨ j = 9 ∨ j = 10 ∨ j = 11 ∨ j = 12) with rfl | rfl | rfl | rfl | rfl | rfl | rfl | rfl | rfl | rfl | rfl | rfl | rfl
   ·have h : (fun _ us => us 0 = .agg m.cells) x us := h
    show (fun _ us => us 0 = .agg m.cells) x us'
    simp only [← e] at h ⊢
    exact h
   ·have h : (fun w us => ∃ fr bl : Sl, us 1 = .agg #[.slice fr.A fr.n fr.c, .slice bl.A bl.n bl.c, .string (str (restT m d))] ∧ RowOf stL w fr.A fr.n d.fr ∧ fr.ok ∧ fr.n ≤ 100000 ∧ RowOf stL w bl.A bl.n d.bl ∧ bl.ok ∧ bl.n ≤ 100000) x us := h
    have d0 := hd 0 (by simp)
    show (fun w us => ∃ fr bl : Sl, us 1 = .agg #[.slice fr.A fr.n fr.c, .slice bl.A bl.n bl.c, .string (str (restT m d))] ∧ RowOf stL w fr.A fr.n d.fr ∧ fr.ok ∧ fr.n ≤ 100000 ∧ RowOf stL w bl.A bl.n d.bl ∧ bl.ok ∧ bl.n ≤ 100000) x us'
    simp only [← e, ← d0] at h ⊢
    exact h
   ·have h : (fun _ us => us 2 = .int .i64 pid) x us := h
    show (fun _ us => us 2 = .int .i64 pid) x us'
    simp only [← e] at h ⊢
    exact h
   ·have h : (fun _ us => us 3 = .agg a.cells) x us := h
    show (fun _ us => us 3 = .agg a.cells) x us'
    simp only [← e] at h ⊢
    exact h
   ·have h : (fun w us => ProcOut a d ea I1 I2 pid w (.returned (us 4))) x us := h
    have d1 := hd 1 (by simp)
    have d2 := hd 2 (by simp)
    have d3 := hd 3 (by simp)
    show (fun w us => ProcOut a d ea I1 I2 pid w (.returned (us 4))) x us'
    simp only [← e, ← d1, ← d2, ← d3] at h ⊢
    exact h
   ·have h : (fun _ us => us 5 = us 4 ∧ ∃ (z : Mac) (n e : Int), us 5 = .tuple #[.agg z.cells, .int .i64 n, .int .i64 e]) x us := h
    have d4 := hd 4 (by simp)
    show (fun _ us => us 5 = us 4 ∧ ∃ (z : Mac) (n e : Int), us 5 = .tuple #[.agg z.cells, .int .i64 n, .int .i64 e]) x us'
    simp only [← e, ← d4] at h ⊢
    exact h
   ·have h : (fun _ us => ∃ (z : Mac) (n e : Int), us 5 = .tuple #[.agg z.cells, .int .i64 n, .int .i64 e] ∧ us 6 = .agg z.cells) x us := h
    have d5 := hd 5 (by simp)
    show (fun _ us => ∃ (z : Mac) (n e : Int), us 5 = .tuple #[.agg z.cells, .int .i64 n, .int .i64 e] ∧ us 6 = .agg z.cells) x us'
    simp only [← e, ← d5] at h ⊢
    exact h
   ·have h : (fun _ us => ∃ (z : Mac) (n e : Int), us 5 = .tuple #[.agg z.cells, .int .i64 n, .int .i64 e] ∧ us 7 = .int .i64 n) x us := h
    have d5 := hd 5 (by simp)
    show (fun _ us => ∃ (z : Mac) (n e : Int), us 5 = .tuple #[.agg z.cells, .int .i64 n, .int .i64 e] ∧ us 7 = .int .i64 n) x us'
    simp only [← e, ← d5] at h ⊢
    exact h
   ·have h : (fun _ us => ∃ (z : Mac) (n e : Int), us 5 = .tuple #[.agg z.cells, .int .i64 n, .int .i64 e] ∧ us 8 = .int .i64 e) x us := h
    have d5 := hd 5 (by simp)
    show (fun _ us => ∃ (z : Mac) (n e : Int), us 5 = .tuple #[.agg z.cells, .int .i64 n, .int .i64 e] ∧ us 8 = .int .i64 e) x us'
    simp only [← e, ← d5] at h ⊢
    exact h
   ·have h : (fun w us => ∃ g cs, wc.heap.size ≤ g ∧ us 9 = .pointer (some ⟨g, 0, none⟩) ∧ Box w g 38 cs ∧ cs.size = 17) x us := h
    show (fun w us => ∃ g cs, wc.heap.size ≤ g ∧ us 9 = .pointer (some ⟨g, 0, none⟩) ∧ Box w g 38 cs ∧ cs.size = 17) x us'
    simp only [← e] at h ⊢
    exact h
   ·have h : (fun w us => ∃ (g : Nat) (z : Mac), us 9 = .pointer (some ⟨g, 0, none⟩) ∧ us 6 = .agg z.cells ∧ Box w g 38 z.cells) x us := h
    have d6 := hd 6 (by simp)
    have d9 := hd 9 (by simp)
    show (fun w us => ∃ (g : Nat) (z : Mac), us 9 = .pointer (some ⟨g, 0, none⟩) ∧ us 6 = .agg z.cells ∧ Box w g 38 z.cells) x us'
    simp only [← e, ← d6, ← d9] at h ⊢
    exact h
   ·have h : (fun _ us => us 11 = us 7) x us := h
    have d7 := hd 7 (by simp)
    show (fun _ us => us 11 = us 7) x us'
    simp only [← e, ← d7] at h ⊢
    exact h
   ·have h : (fun _ us => us 12 = us 8) x us := h
    have d8 := hd 8 (by simp)
    show (fun _ us => us 12 = us 8) x us'
    simp only [← e, ← d8] at h ⊢
    exact h
  ·rcases (by omega : j = 0 ∨ j = 1 ∨ j = 2 ∨ j = 3 ∨ j = 4 ∨ j = 5 ∨ j = 6 ∨ j = 7 ∨ j = 8 ∨ j = 9 ∨ j = 10 ∨ j = 11 ∨ j = 12) with rfl | rfl | rfl | rfl | rfl | rfl | rfl | rfl | rfl | rfl | rfl | rfl | rfl
   ·exact h
   ·have hk10 : k ≠ 10 := fun e => hkd e (by simp)
    unfold RU at r
    rw [if_neg hk10] at r
    obtain ⟨fr, bl, e1, e2, e3, e4, e5, e6, e7⟩ := h
    exact ⟨fr, bl, e1, e2.ext r, e3, e4, e5.ext r, e6, e7⟩
   ·exact h
   ·exact h
   ·exact ProcOut.keep h r
   ·exact h
   ·exact h
   ·exact h
   ·exact h
   ·obtain ⟨g, cs, e1, e2, e3, e4⟩ := h
    obtain ⟨cs', e5, e6⟩ := r.box e3 e4
    exact ⟨g, cs', e1, e2, e5, e6⟩
   ·unfold RU at r
    rw [if_neg (fun e => hjk e.symm)] at r
    obtain ⟨g, z, e1, e2, e3⟩ := h
    exact ⟨g, z, e1, e2, e3.ext r⟩
   ·exact h
   ·exact h
  simp only [List.take_succ_cons, List.take_zero, List.drop_succ_cons, List.drop_zero]
  rw [uWalk]
  refine And.intro (fun w' hC hd => ?_) ?_
  ·clear hd
   refine k_of_list 46 rfl (by simp [Act.put]) rfl ?_
   go_wp2_with (refine wp_ld_mac_g (.tmp 4) rfl rfl G m 38 rfl (bm.ext hC) ?_)
   exact ⟨RU.same (by decide), by simp [listU, updU]⟩
  simp only [Act.put, List.setIfInBounds_toArray, List.set_cons_zero, List.set_cons_succ]
  rw [uWalk]
  refine And.intro (fun w' hC hd => ?_) ?_
  ·have h0 : us 0 = .agg m.cells := hd 0 (by simp)
   rw [h0]
   clear hd
   refine k_of_list 47 rfl (by simp [Act.put]) rfl ?_
   go_wp2_with (go_at_call 20; refine (HI.out w' (xw.trans hC)).mono ?_; rintro e w2 ⟨fr, bl, rfl, x, e1, e2, e3, e4, e5, e6⟩)
   exact ⟨RU.of (by decide) x, fr, bl, by simp [updU], e1, e2, e3, e4, e5, e6⟩
  simp only [Act.put, List.setIfInBounds_toArray, List.set_cons_zero, List.set_cons_succ]
  rw [uWalk]
  refine And.intro (fun w' hC hd => ?_) ?_
  ·clear hd
   refine k_of_list 48 rfl (by simp [Act.put]) rfl ?_
   go_wp2_with fail
   exact ⟨RU.same (by decide), by simp [listU, updU]⟩
  simp only [Act.put, List.setIfInBounds_toArray, List.set_cons_zero, List.set_cons_succ]
  rw [uWalk]
  refine And.intro (fun w' hC hd => ?_) ?_
  ·clear hd
   refine k_of_list 49 rfl (by simp [Act.put]) rfl ?_
   go_wp2_with (refine wp_ld_mac_g (.tmp 6) rfl rfl (G + 1) a 38 rfl (ba.ext hC) ?_)
   exact ⟨RU.same (by decide), by simp [listU, updU]⟩
  simp only [Act.put, List.setIfInBounds_toArray, List.set_cons_zero, List.set_cons_succ]
  rw [uWalk]
  refine And.intro (fun w' hC hd => ?_) ?_
  ·obtain ⟨fr, bl, h1, e1, e2, e3, e4, e5, e6⟩ := hd 1 (by simp)
   have h2 := hd 2 (by simp)
   have h3 := hd 3 (by simp)
   replace h2 : us 2 = _ := h2
   replace h3 : us 3 = _ := h3
   rw [h1, h2, h3]
   clear hd
   refine k_of_list 50 rfl (by simp [Act.put]) rfl ?_
   go_wp2_with (go_at_call 14; refine (HX.out fr bl w' (xw.trans hC) e1 e2 e3 e4 e5 e6).mono ?_; rintro e w2 ⟨ho, x⟩; obtain ⟨ag, hag⟩ : ∃ u, e = .returned u := (by rcases ho with ⟨_, h⟩ | ⟨_, _, _, _, _, _, h, _⟩ <;> exact ⟨_, h⟩); subst hag)
   refine ⟨RU.of (by decide) x, ?_⟩
   show ProcOut _ _ _ _ _ _ _ (.returned (updU us 4 _ 4))
   simp only [updU, if_true]
   exact ho
  simp only [Act.put, List.setIfInBounds_toArray, List.set_cons_zero, List.set_cons_succ]
  rw [uWalk]
  refine And.intro (fun w' hC hd => ?_) ?_
  ·have h4 := hd 4 (by simp)
   clear hd
   refine k_of_list 45 rfl (by simp [Act.put]) rfl ?_
   go_wp2_with fail
   refine ⟨RU.same (by decide), ?_⟩
   have hz : ∃ (z : Mac) (n e : Int), us 4 = .tuple #[.agg z.cells, .int .i64 n, .int .i64 e] := (by rcases h4 with ⟨_, h⟩ | ⟨_, _, _, _, _, z, h, _⟩ <;> (injection h with h; exact ⟨_, _, _, h⟩))
   show updU us 5 _ 5 = updU us 5 _ 4 ∧ ∃ (z : Mac) (n e : Int), updU us 5 _ 5 = _
   simp only [updU, if_true]
   exact ⟨by simp, hz⟩
  simp only [Act.put, List.setIfInBounds_toArray, List.set_cons_zero, List.set_cons_succ]
  rw [uWalk]
  refine And.intro (fun w' hC hd => ?_) ?_
  ·obtain ⟨_, z, n, e, hz⟩ := hd 5 (by simp)
   rw [hz]
   clear hd
   refine k_of_list 51 rfl (by simp [Act.put]) rfl ?_
   go_wp2_with fail
   exact ⟨RU.same (by decide), z, ⟨n, e, by simp [updU, hz]⟩, by simp [updU]⟩
  simp only [Act.put, List.setIfInBounds_toArray, List.set_cons_zero, List.set_cons_succ]
  rw [uWalk]
  refine And.intro (fun w' hC hd => ?_) ?_
  ·obtain ⟨_, z, n, e, hz⟩ := hd 5 (by simp)
   rw [hz]
   clear hd
   refine k_of_list 52 rfl (by simp [Act.put]) rfl ?_
   go_wp2_with fail
   exact ⟨RU.same (by decide), z, n, ⟨e, by simp [updU, hz]⟩, by simp [updU]⟩
  simp only [Act.put, List.setIfInBounds_toArray, List.set_cons_zero, List.set_cons_succ]
  rw [uWalk]
  refine And.intro (fun w' hC hd => ?_) ?_
  ·obtain ⟨_, z, n, e, hz⟩ := hd 5 (by simp)
   rw [hz]
   clear hd
   refine k_of_list 53 rfl (by simp [Act.put]) rfl ?_
   go_wp2_with fail
   exact ⟨RU.same (by decide), z, n, e, by simp [updU, hz], by simp [updU]⟩
  simp only [Act.put, List.setIfInBounds_toArray, List.set_cons_zero, List.set_cons_succ]
  rw [uWalk]
  refine And.intro (fun w' hC hd => ?_) ?_
  ·clear hd
   refine k_of_list 9 rfl (by simp [Act.put]) rfl ?_
   go_wp2_with fail
   exact ⟨RU.of (by decide) ((Ext.refl _).alloc _), w'.heap.size, hC.size, by simp [updU], _, Box.new w' _ _, rfl⟩
  simp only [Act.put, List.setIfInBounds_toArray, List.set_cons_zero, List.set_cons_succ]
  rw [uWalk]
  refine And.intro (fun w' hC hd => ?_) ?_
  ·obtain ⟨z, n, e, _, hz⟩ := hd 6 (by simp)
   obtain ⟨g, cs, hg, hp, hb, hs⟩ := hd 9 (by simp)
   clear hd
   rw [hz, hp]
   refine k_of_store rfl rfl (fun w u ⟨g, z, h1, h2, h3⟩ => ⟨g, z, by simpa [updU] using h1, by simpa [updU] using h2, h3⟩) ?_
   go_wp2_with (refine wp_st_mac (.tmp 9) (.tmp 51) rfl rfl g z cs _ rfl rfl hb hs ?_; intro w2 bw gw)
   refine ⟨?_, g, by simp [updU, hp], z, by simp [updU, hz], bw⟩
   unfold RU
   rw [if_pos rfl]
   exact ⟨g, cs, hg, hb, grown_but gw, _, bw, rfl⟩
  simp only [Act.put, List.setIfInBounds_toArray, List.set_cons_zero, List.set_cons_succ]
  rw [uWalk]
  refine And.intro (fun w' hC hd => ?_) ?_
  ·clear hd
   refine k_of_list 10 rfl (by simp [Act.put]) rfl ?_
   go_wp2_with fail
   exact ⟨RU.same (by decide), by simp [listU, updU]⟩
  simp only [Act.put, List.setIfInBounds_toArray, List.set_cons_zero, List.set_cons_succ]
  rw [uWalk]
  refine And.intro (fun w' hC hd => ?_) ?_
  ·clear hd
   refine k_of_list 11 rfl (by simp [Act.put]) rfl ?_
   go_wp2_with fail
   exact ⟨RU.same (by decide), by simp [listU, updU]⟩
  simp only [Act.put, List.setIfInBounds_toArray, List.set_cons_zero, List.set_cons_succ]
  rw [uWalk]
  intro w3 x3 hv
  obtain ⟨e5, -⟩ := hv 5 (by omega) (by decide)
  have ho := hv 4 (by omega) (by decide)
  replace ho : ProcOut _ _ _ _ _ _ w3 (.returned (us 4)) := ho
  rw [← e5] at ho
  obtain ⟨z6, n6, e6, t6, v6⟩ := hv 6 (by omega) (by decide)
  obtain ⟨z7, n7, e7, t7, v7⟩ := hv 7 (by omega) (by decide)
  obtain ⟨z8, n8, e8, t8, v8⟩ := hv 8 (by omega) (by decide)
  obtain ⟨g, zz, v9, v6', bz⟩ := hv 10 (by omega) (by decide)
  have v11 := hv 11 (by omega) (by decide)
  have v12 := hv 12 (by omega) (by decide)
  replace v11 : us 11 = us 7 := v11
  replace v12 : us 12 = us 8 := v12
  clear hv e5
  rw [t6] at ho t7 t8
  injection t7 with t7
  injection t8 with t8
  simp only [Array.mk.injEq, List.cons.injEq, Value.int.injEq, and_true, true_and] at t7 t8
  obtain ⟨-, q7, -⟩ := t7
  obtain ⟨-, -, q8⟩ := t8
  rw [v9, v11, v12, v7, v8, ← q7, ← q8]
  rw [v6] at v6'
  injection v6' with v6'
  clear v9 v11 v12 v7 v8 q7 q8 v6 t6
  generalize us 0 = y0
  generalize us 1 = y1
  generalize us 2 = y2
  generalize us 3 = y3
  generalize us 4 = y4
  generalize us 5 = y5
  generalize us 6 = y6
  generalize us 10 = y10
  rw [wpList]
  rcases ho with ⟨he, h⟩ | ⟨y, h1, hl, h8, hc, z, h, hz, hs, hn⟩
  ·injection h with h
   injection h with h
   simp only [Array.mk.injEq, List.cons.injEq, Value.int.injEq, and_true, true_and] at h
   obtain ⟨-, -, he6⟩ := h
   have he7 : (e6 != 0) = true := by rw [he6]; simpa using he
   clear he6 he
   go_wp2_with (go_at_call 10; refine (HAw.out _).mono ?_; rintro e w4 ⟨rfl, x4⟩)
   go_ret
   exact ⟨rfl, ((x0.trans x2).trans x3).trans x4⟩
  ·injection h with h
   injection h with h
   simp only [Array.mk.injEq, List.cons.injEq, Value.int.injEq, and_true, true_and] at h
   obtain ⟨hzc, rfl, rfl⟩ := h
   injection hzc with hzc
   rw [← v6', hzc] at bz
   clear v6' hzc

   obtain ⟨hst2, hfit2⟩ := out_next hst FM.out HM.out.fr.1 h1 FA.out HA.out.fr.1 hna hl h8 hc hg2 hz hs hn HA.out.pi.1
   obtain ⟨D1, hD1⟩ : ∃ D1, D1 = bringD d.fr y a.next a.fr.n ea (fdsOf d ea I1 I2 y) := ⟨_, rfl⟩
   have hA1 := HA.out.fr.1
   have hA2 := HA.out.pr.1
   have hA3 := HA.out.pi.1
   have hA4 := HA.out.bl.1
   have hA5 := HA.out.pe.1
   have hA6 := HA.out.di.1
   have hZ1 := hz.frn
   have hZ2 := hz.prn
   have hZ3 := hz.pin
   have hZ4 := hz.bln
   have hZ5 := hz.pen
   have hZ6 := hz.din
   simp only [bringD, frK_len, List.length_append, List.length_singleton] at hZ1 hZ2 hZ3 hZ4 hZ5 hZ6
   have hin := hz.toIn ⟨by omega, by omega, by omega, by omega, by omega, by omega⟩ (by rw [hs.init]; exact HA.out.initk) (by rw [hs.inn]; exact HA.out.innk) (by rw [hs.dleft]; exact HA.out.leftk)
   rw [← hD1] at hst2 hfit2 hin
   have hR2 := rest_fit hst2 hfit2 hin.pr.1.symm hin.pi.1.symm (by rw [← hin.pe.1]; omega)
   obtain ⟨J1, hj1⟩ := goodX (viewP D1.bl D1.pe D1.di)
   obtain ⟨J2, hj2⟩ := goodX (viewP eb.bl eb.pe eb.di)
   have xw3 := x2.trans x3
   have HD1 := Lib.hid hD1
   have bb := bb.ext x3
   have HI2 := Lib.hid (fun w (x : Ext w3 w) => iof_yes z D1 w (hin.ext x) hst2 hR2 (HD.out.ext (xw3.trans x)) (by omega) (by omega))
   have HX2 := Lib.hid (fun (fr bl : Sl) w (x : Ext w3 w) h1 h2 h3 h4 h5 h6 => proc_img z b D1 eb fr bl a.next J1 J2 w hst2 hR2 hin.fr.1 hin.pr.1 hin.pi.1 hin.initk hin.innk hin.leftk (HD.out.ext (xw3.trans x)) h1 h2 h3 h4 h5 h6 (HB.out.ext (xw3.trans x)) ⟨by omega, by omega, by omega, by omega, by omega, by omega⟩ (by omega) hj1 hj2)
   clear hD1 hA1 hA2 hA3 hA4 hA5 hA6
   go_upto_region 6 with fail
   refine wp_region_webU' 13 [[], [0], [], [], [1, 2, 3], [4], [5], [5], [5], [], [6, 9], [7], [8]] (listU [fun _ us => us 0 = .agg z.cells, fun w us => ∃ fr bl : Sl, us 1 = .agg #[.slice fr.A fr.n fr.c, .slice bl.A bl.n bl.c, .string (str (restT z D1))] ∧ RowOf stL w fr.A fr.n D1.fr ∧ fr.ok ∧ fr.n ≤ 100000 ∧ RowOf stL w bl.A bl.n D1.bl ∧ bl.ok ∧ bl.n ≤ 100000, fun _ us => us 2 = .int .i64 a.next, fun _ us => us 3 = .agg b.cells, fun w us => ProcOut b D1 eb J1 J2 a.next w (.returned (us 4)), fun _ us => us 5 = us 4 ∧ ∃ (z : Mac) (n e : Int), us 5 = .tuple #[.agg z.cells, .int .i64 n, .int .i64 e], fun _ us => ∃ (z : Mac) (n e : Int), us 5 = .tuple #[.agg z.cells, .int .i64 n, .int .i64 e] ∧ us 6 = .agg z.cells, fun _ us => ∃ (z : Mac) (n e : Int), us 5 = .tuple #[.agg z.cells, .int .i64 n, .int .i64 e] ∧ us 7 = .int .i64 n, fun _ us => ∃ (z : Mac) (n e : Int), us 5 = .tuple #[.agg z.cells, .int .i64 n, .int .i64 e] ∧ us 8 = .int .i64 e, fun w us => ∃ g cs, w3.heap.size ≤ g ∧ us 9 = .pointer (some ⟨g, 0, none⟩) ∧ Box w g 38 cs ∧ cs.size = 17, fun w us => ∃ (g : Nat) (z : Mac), us 9 = .pointer (some ⟨g, 0, none⟩) ∧ us 6 = .agg z.cells ∧ Box w g 38 z.cells, fun _ us => us 11 = us 7, fun _ us => us 12 = us 8]) (fun x => Ext w3 x) (RU w3.heap.size) 10 [1] [6, 5, 4] (by kernel_rfl) (by kernel_rfl) (by kernel_rfl) ((Ext.refl w3).drew) (fun k x y h r => r.ext h) (fun j x us us' hj e hd h => ?_) (fun j k x y us hj hjk hkd hx r h => ?_) (fun us => ?_)
   ·rcases (by omega : j = 0 ∨ j = 1 ∨ j = 2 ∨ j = 3 ∨ j = 4 ∨ j = 5 ∨ j = 6 ∨ j = 7 ∨ j = 8 ∨ j = 9 ∨ j = 10 ∨ j = 11 ∨ j = 12) with rfl | rfl | rfl | rfl | rfl | rfl | rfl | rfl | rfl | rfl | rfl | rfl | rfl
    ·have h : (fun _ us => us 0 = .agg z.cells) x us := h
     show (fun _ us => us 0 = .agg z.cells) x us'
     simp only [← e] at h ⊢
     exact h
    ·have h : (fun w us => ∃ fr bl : Sl, us 1 = .agg #[.slice fr.A fr.n fr.c, .slice bl.A bl.n bl.c, .string (str (restT z D1))] ∧ RowOf stL w fr.A fr.n D1.fr ∧ fr.ok ∧ fr.n ≤ 100000 ∧ RowOf stL w bl.A bl.n D1.bl ∧ bl.ok ∧ bl.n ≤ 100000) x us := h
     have d0 := hd 0 (by simp)
     show (fun w us => ∃ fr bl : Sl, us 1 = .agg #[.slice fr.A fr.n fr.c, .slice bl.A bl.n bl.c, .string (str (restT z D1))] ∧ RowOf stL w fr.A fr.n D1.fr ∧ fr.ok ∧ fr.n ≤ 100000 ∧ RowOf stL w bl.A bl.n D1.bl ∧ bl.ok ∧ bl.n ≤ 100000) x us'
     simp only [← e, ← d0] at h ⊢
     exact h
    ·have h : (fun _ us => us 2 = .int .i64 a.next) x us := h
     show (fun _ us => us 2 = .int .i64 a.next) x us'
     simp only [← e] at h ⊢
     exact h
    ·have h : (fun _ us => us 3 = .agg b.cells) x us := h
     show (fun _ us => us 3 = .agg b.cells) x us'
     simp only [← e] at h ⊢
     exact h
    ·have h : (fun w us => ProcOut b D1 eb J1 J2 a.next w (.returned (us 4))) x us := h
     have d1 := hd 1 (by simp)
     have d2 := hd 2 (by simp)
     have d3 := hd 3 (by simp)
     show (fun w us => ProcOut b D1 eb J1 J2 a.next w (.returned (us 4))) x us'
     simp only [← e, ← d1, ← d2, ← d3] at h ⊢
     exact h
    ·have h : (fun _ us => us 5 = us 4 ∧ ∃ (z : Mac) (n e : Int), us 5 = .tuple #[.agg z.cells, .int .i64 n, .int .i64 e]) x us := h
     have d4 := hd 4 (by simp)
     show (fun _ us => us 5 = us 4 ∧ ∃ (z : Mac) (n e : Int), us 5 = .tuple #[.agg z.cells, .int .i64 n, .int .i64 e]) x us'
     simp only [← e, ← d4] at h ⊢
     exact h
    ·have h : (fun _ us => ∃ (z : Mac) (n e : Int), us 5 = .tuple #[.agg z.cells, .int .i64 n, .int .i64 e] ∧ us 6 = .agg z.cells) x us := h
     have d5 := hd 5 (by simp)
     show (fun _ us => ∃ (z : Mac) (n e : Int), us 5 = .tuple #[.agg z.cells, .int .i64 n, .int .i64 e] ∧ us 6 = .agg z.cells) x us'
     simp only [← e, ← d5] at h ⊢
     exact h
    ·have h : (fun _ us => ∃ (z : Mac) (n e : Int), us 5 = .tuple #[.agg z.cells, .int .i64 n, .int .i64 e] ∧ us 7 = .int .i64 n) x us := h
     have d5 := hd 5 (by simp)
     show (fun _ us => ∃ (z : Mac) (n e : Int), us 5 = .tuple #[.agg z.cells, .int .i64 n, .int .i64 e] ∧ us 7 = .int .i64 n) x us'
     simp only [← e, ← d5] at h ⊢
     exact h
    ·have h : (fun _ us => ∃ (z : Mac) (n e : Int), us 5 = .tuple #[.agg z.cells, .int .i64 n, .int .i64 e] ∧ us 8 = .int .i64 e) x us := h
     have d5 := hd 5 (by simp)
     show (fun _ us => ∃ (z : Mac) (n e : Int), us 5 = .tuple #[.agg z.cells, .int .i64 n, .int .i64 e] ∧ us 8 = .int .i64 e) x us'
     simp only [← e, ← d5] at h ⊢
     exact h
    ·have h : (fun w us => ∃ g cs, w3.heap.size ≤ g ∧ us 9 = .pointer (some ⟨g, 0, none⟩) ∧ Box w g 38 cs ∧ cs.size = 17) x us := h
     show (fun w us => ∃ g cs, w3.heap.size ≤ g ∧ us 9 = .pointer (some ⟨g, 0, none⟩) ∧ Box w g 38 cs ∧ cs.size = 17) x us'
     simp only [← e] at h ⊢
     exact h
    ·have h : (fun w us => ∃ (g : Nat) (z : Mac), us 9 = .pointer (some ⟨g, 0, none⟩) ∧ us 6 = .agg z.cells ∧ Box w g 38 z.cells) x us := h
     have d6 := hd 6 (by simp)
     have d9 := hd 9 (by simp)
     show (fun w us => ∃ (g : Nat) (z : Mac), us 9 = .pointer (some ⟨g, 0, none⟩) ∧ us 6 = .agg z.cells ∧ Box w g 38 z.cells) x us'
     simp only [← e, ← d6, ← d9] at h ⊢
     exact h
    ·have h : (fun _ us => us 11 = us 7) x us := h
     have d7 := hd 7 (by simp)
     show (fun _ us => us 11 = us 7) x us'
     simp only [← e, ← d7] at h ⊢
     exact h
    ·have h : (fun _ us => us 12 = us 8) x us := h
     have d8 := hd 8 (by simp)
     show (fun _ us => us 12 = us 8) x us'
     simp only [← e, ← d8] at h ⊢
     exact h
   ·rcases (by omega : j = 0 ∨ j = 1 ∨ j = 2 ∨ j = 3 ∨ j = 4 ∨ j = 5 ∨ j = 6 ∨ j = 7 ∨ j = 8 ∨ j = 9 ∨ j = 10 ∨ j = 11 ∨ j = 12) with rfl | rfl | rfl | rfl | rfl | rfl | rfl | rfl | rfl | rfl | rfl | rfl | rfl
    ·exact h
    ·have hk10 : k ≠ 10 := fun e => hkd e (by simp)
     unfold RU at r
     rw [if_neg hk10] at r
     obtain ⟨fr, bl, e1, e2, e3, e4, e5, e6, e7⟩ := h
     exact ⟨fr, bl, e1, e2.ext r, e3, e4, e5.ext r, e6, e7⟩
    ·exact h
    ·exact h
    ·exact ProcOut.keep h r
    ·exact h
    ·exact h
    ·exact h
    ·exact h
    ·obtain ⟨g, cs, e1, e2, e3, e4⟩ := h
     obtain ⟨cs', e5, e6⟩ := r.box e3 e4
     exact ⟨g, cs', e1, e2, e5, e6⟩
    ·unfold RU at r
     rw [if_neg (fun e => hjk e.symm)] at r
     obtain ⟨g, z, e1, e2, e3⟩ := h
     exact ⟨g, z, e1, e2, e3.ext r⟩
    ·exact h
    ·exact h
   simp only [List.take_succ_cons, List.take_zero, List.drop_succ_cons, List.drop_zero]
   rw [uWalk]
   refine And.intro (fun w' hC hd => ?_) ?_
   ·clear hd
    refine k_of_list 58 rfl (by simp [Act.put]) rfl ?_
    go_wp2_with (refine wp_ld_mac_g (.tmp 9) rfl rfl g z 38 rfl (bz.ext hC) ?_)
    exact ⟨RU.same (by decide), by simp [listU, updU]⟩
   simp only [Act.put, List.setIfInBounds_toArray, List.set_cons_zero, List.set_cons_succ]
   rw [uWalk]
   refine And.intro (fun w' hC hd => ?_) ?_
   ·have h0 : us 0 = .agg z.cells := hd 0 (by simp)
    rw [h0]
    clear hd
    refine k_of_list 59 rfl (by simp [Act.put]) rfl ?_
    go_wp2_with (go_at_call 20; refine (HI2.out w' ((Ext.refl w3).trans hC)).mono ?_; rintro e w2 ⟨fr, bl, rfl, x, e1, e2, e3, e4, e5, e6⟩)
    exact ⟨RU.of (by decide) x, fr, bl, by simp [updU], e1, e2, e3, e4, e5, e6⟩
   simp only [Act.put, List.setIfInBounds_toArray, List.set_cons_zero, List.set_cons_succ]
   rw [uWalk]
   refine And.intro (fun w' hC hd => ?_) ?_
   ·clear hd
    refine k_of_list 60 rfl (by simp [Act.put]) rfl ?_
    go_wp2_with fail
    exact ⟨RU.same (by decide), by simp [listU, updU]⟩
   simp only [Act.put, List.setIfInBounds_toArray, List.set_cons_zero, List.set_cons_succ]
   rw [uWalk]
   refine And.intro (fun w' hC hd => ?_) ?_
   ·clear hd
    refine k_of_list 61 rfl (by simp [Act.put]) rfl ?_
    go_wp2_with (refine wp_ld_mac_g (.tmp 7) rfl rfl (G + 1 + 1) b 38 rfl (bb.ext hC) ?_)
    exact ⟨RU.same (by decide), by simp [listU, updU]⟩
   simp only [Act.put, List.setIfInBounds_toArray, List.set_cons_zero, List.set_cons_succ]
   rw [uWalk]
   refine And.intro (fun w' hC hd => ?_) ?_
   ·obtain ⟨fr, bl, h1, e1, e2, e3, e4, e5, e6⟩ := hd 1 (by simp)
    have h2 := hd 2 (by simp)
    have h3 := hd 3 (by simp)
    replace h2 : us 2 = _ := h2
    replace h3 : us 3 = _ := h3
    rw [h1, h2, h3]
    clear hd
    refine k_of_list 62 rfl (by simp [Act.put]) rfl ?_
    go_wp2_with (go_at_call 14; refine (HX2.out fr bl w' ((Ext.refl w3).trans hC) e1 e2 e3 e4 e5 e6).mono ?_; rintro e w2 ⟨ho, x⟩; obtain ⟨ag, hag⟩ : ∃ u, e = .returned u := (by rcases ho with ⟨_, h⟩ | ⟨_, _, _, _, _, _, h, _⟩ <;> exact ⟨_, h⟩); subst hag)
    refine ⟨RU.of (by decide) x, ?_⟩
    show ProcOut _ _ _ _ _ _ _ (.returned (updU us 4 _ 4))
    simp only [updU, if_true]
    exact ho
   simp only [Act.put, List.setIfInBounds_toArray, List.set_cons_zero, List.set_cons_succ]
   rw [uWalk]
   refine And.intro (fun w' hC hd => ?_) ?_
   ·have h4 := hd 4 (by simp)
    clear hd
    refine k_of_list 57 rfl (by simp [Act.put]) rfl ?_
    go_wp2_with fail
    refine ⟨RU.same (by decide), ?_⟩
    have hz : ∃ (z : Mac) (n e : Int), us 4 = .tuple #[.agg z.cells, .int .i64 n, .int .i64 e] := (by rcases h4 with ⟨_, h⟩ | ⟨_, _, _, _, _, z, h, _⟩ <;> (injection h with h; exact ⟨_, _, _, h⟩))
    show updU us 5 _ 5 = updU us 5 _ 4 ∧ ∃ (z : Mac) (n e : Int), updU us 5 _ 5 = _
    simp only [updU, if_true]
    exact ⟨by simp, hz⟩
   simp only [Act.put, List.setIfInBounds_toArray, List.set_cons_zero, List.set_cons_succ]
   rw [uWalk]
   refine And.intro (fun w' hC hd => ?_) ?_
   ·obtain ⟨_, z, n, e, hz⟩ := hd 5 (by simp)
    rw [hz]
    clear hd
    refine k_of_list 63 rfl (by simp [Act.put]) rfl ?_
    go_wp2_with fail
    exact ⟨RU.same (by decide), z, ⟨n, e, by simp [updU, hz]⟩, by simp [updU]⟩
   simp only [Act.put, List.setIfInBounds_toArray, List.set_cons_zero, List.set_cons_succ]
   rw [uWalk]
   refine And.intro (fun w' hC hd => ?_) ?_
   ·obtain ⟨_, z, n, e, hz⟩ := hd 5 (by simp)
    rw [hz]
    clear hd
    refine k_of_list 64 rfl (by simp [Act.put]) rfl ?_
    go_wp2_with fail
    exact ⟨RU.same (by decide), z, n, ⟨e, by simp [updU, hz]⟩, by simp [updU]⟩
   simp only [Act.put, List.setIfInBounds_toArray, List.set_cons_zero, List.set_cons_succ]
   rw [uWalk]
   refine And.intro (fun w' hC hd => ?_) ?_
   ·obtain ⟨_, z, n, e, hz⟩ := hd 5 (by simp)
    rw [hz]
    clear hd
    refine k_of_list 65 rfl (by simp [Act.put]) rfl ?_
    go_wp2_with fail
    exact ⟨RU.same (by decide), z, n, e, by simp [updU, hz], by simp [updU]⟩
   simp only [Act.put, List.setIfInBounds_toArray, List.set_cons_zero, List.set_cons_succ]
   rw [uWalk]
   refine And.intro (fun w' hC hd => ?_) ?_
   ·clear hd
    refine k_of_list 12 rfl (by simp [Act.put]) rfl ?_
    go_wp2_with fail
    exact ⟨RU.of (by decide) ((Ext.refl _).alloc _), w'.heap.size, hC.size, by simp [updU], _, Box.new w' _ _, rfl⟩
   simp only [Act.put, List.setIfInBounds_toArray, List.set_cons_zero, List.set_cons_succ]
   rw [uWalk]
   refine And.intro (fun w' hC hd => ?_) ?_
   ·obtain ⟨z, n, e, _, hz⟩ := hd 6 (by simp)
    obtain ⟨g, cs, hg, hp, hb, hs⟩ := hd 9 (by simp)
    clear hd
    rw [hz, hp]
    refine k_of_store rfl rfl (fun w u ⟨g, z, h1, h2, h3⟩ => ⟨g, z, by simpa [updU] using h1, by simpa [updU] using h2, h3⟩) ?_
    go_wp2_with (refine wp_st_mac (.tmp 12) (.tmp 63) rfl rfl g z cs _ rfl rfl hb hs ?_; intro w2 bw gw)
    refine ⟨?_, g, by simp [updU, hp], z, by simp [updU, hz], bw⟩
    unfold RU
    rw [if_pos rfl]
    exact ⟨g, cs, hg, hb, grown_but gw, _, bw, rfl⟩
   simp only [Act.put, List.setIfInBounds_toArray, List.set_cons_zero, List.set_cons_succ]
   rw [uWalk]
   refine And.intro (fun w' hC hd => ?_) ?_
   ·clear hd
    refine k_of_list 13 rfl (by simp [Act.put]) rfl ?_
    go_wp2_with fail
    exact ⟨RU.same (by decide), by simp [listU, updU]⟩
   simp only [Act.put, List.setIfInBounds_toArray, List.set_cons_zero, List.set_cons_succ]
   rw [uWalk]
   refine And.intro (fun w' hC hd => ?_) ?_
   ·clear hd
    refine k_of_list 14 rfl (by simp [Act.put]) rfl ?_
    go_wp2_with fail
    exact ⟨RU.same (by decide), by simp [listU, updU]⟩
   simp only [Act.put, List.setIfInBounds_toArray, List.set_cons_zero, List.set_cons_succ]
   rw [uWalk]
   intro w6 x6 hv
   obtain ⟨e5, -⟩ := hv 5 (by omega) (by decide)
   have ho6 := hv 4 (by omega) (by decide)
   replace ho6 : ProcOut _ _ _ _ _ _ w6 (.returned (us 4)) := ho6
   rw [← e5] at ho6
   obtain ⟨z6, n6, e6, t6, v6⟩ := hv 6 (by omega) (by decide)
   obtain ⟨z7, n7, e7, t7, v7⟩ := hv 7 (by omega) (by decide)
   obtain ⟨z8, n8, e8, t8, v8⟩ := hv 8 (by omega) (by decide)
   obtain ⟨g6, z9, v9, v6', b9⟩ := hv 10 (by omega) (by decide)
   have v11 := hv 11 (by omega) (by decide)
   have v12 := hv 12 (by omega) (by decide)
   replace v11 : us 11 = us 7 := v11
   replace v12 : us 12 = us 8 := v12
   clear hv e5
   rw [t6] at ho6 t7 t8
   injection t7 with t7
   injection t8 with t8
   simp only [Array.mk.injEq, List.cons.injEq, Value.int.injEq, and_true, true_and] at t7 t8
   obtain ⟨-, q7, -⟩ := t7
   obtain ⟨-, -, q8⟩ := t8
   rw [v9, v11, v12, v7, v8, ← q7, ← q8]
   rw [v6] at v6'
   injection v6' with v6'
   clear v9 v11 v12 v7 v8 q7 q8 v6 t6
   generalize us 0 = y0
   generalize us 1 = y1
   generalize us 2 = y2
   generalize us 3 = y3
   generalize us 4 = y4
   generalize us 5 = y5
   generalize us 6 = y6
   generalize us 10 = y10
   rw [wpList]
   have hA9 := HA.out
   have hB9 := HB.out
   have hM9 := HM.out
   have hzz := hz
   rw [← HD1.out] at hzz
   have HB1 := Lib.hid (show Brought d y D1 by
    rw [HD1.out]
    exact ⟨_, _, rfl, bring_alike hst hM9.fr.1 hA9.fr.1 (livingP_some hl).1 hc _⟩)
   have HQ1 := Lib.hid (show livingP D1.pr a.next = some (newPr y a.next (freeP a.fr.n ea.pr) (fdsOf d ea I1 I2 y) 16) by rw [HD1.out]; exact bring_living h1 _ _ _)
   have HA1 := Lib.hid (show AlikeP d.fr D1.fr y (newPr y a.next (freeP a.fr.n ea.pr) (fdsOf d ea I1 I2 y) 16) by
    rw [HD1.out]
    exact bring_alike hst hM9.fr.1 hA9.fr.1 (livingP_some hl).1 hc _)
   have HK2 := Lib.hid (show e6 = 0 → n6 = b.next ∧ ∃ (z2 : Mac) (D2 : MacD), Box w6 g6 38 z2.cells ∧ MacIn w6 z2 D2 ∧ Brought d y D2 from fun he => by
    rcases ho6 with ⟨hne, h⟩ | ⟨y2, k1, kl, k8, kc, z2, h, kz, ks, kn⟩
    ·injection h with h
     injection h with h
     simp only [Array.mk.injEq, List.cons.injEq, Value.int.injEq, and_true, true_and] at h
     obtain ⟨-, -, h3⟩ := h
     exact absurd (h3.symm.trans he) hne
    ·injection h with h
     injection h with h
     simp only [Array.mk.injEq, List.cons.injEq, Value.int.injEq, and_true, true_and] at h
     obtain ⟨hzc, hn6, -⟩ := h
     injection hzc with hzc
     have e1 := kz.frn
     have e2 := kz.prn
     have e3 := kz.pin
     have e4 := kz.bln
     have e5 := kz.pen
     have e6' := kz.din
     simp only [bringD, frK_len, List.length_append, List.length_singleton] at e1 e2 e3 e4 e5 e6'
     have q1 := hB9.fr.1
     have q2 := hB9.pr.1
     have q3 := hB9.pi.1
     have q4 := hB9.bl.1
     have q5 := hB9.pe.1
     have q6 := hB9.di.1
     refine ⟨hn6, z2, _, by rw [← hzc, v6']; exact b9, kz.toIn ⟨by omega, by omega, by omega, by omega, by omega, by omega⟩ (by rw [show z2.init = b.init from ks.init]; exact hB9.initk) (by rw [show z2.inn = b.inn from ks.inn]; exact hB9.innk) (by rw [show z2.dleft = b.dleft from ks.dleft]; exact hB9.leftk), _, _, rfl, ?_⟩
     have hy2 := Option.some.inj (kl.symm.trans HQ1.out)
     have hal := bring_alike hst2 hin.fr.1 hB9.fr.1 (livingP_some kl).1 kc (fdsOf D1 eb J1 J2 y2)
     rw [hy2] at hal ⊢
     exact HA1.out.trans hal)
   have HUQ := Lib.hid (show ∀ (k : Nat) (h : k < d.pr.length), d.pr[k].pid = pid → d.pr[k] = y from fun k h he => pid_uniq hst h (livingP_some hl).1 (he.trans (livingP_some hl).2.1.symm))
   have xw6 := xw3.trans x6
   have HM6 := Lib.hid (HM.out.ext xw6)
   have HZ6 := Lib.hid (hin.ext x6)
   have bz6 := bz.ext x6
   have bm6 := (bm.ext x3).ext x6
   have bb6 := bb.ext x6
   have q6b : ∀ wx, Ext w6 wx → wx.cell? ⟨G + 1 + 1, 6, none⟩ = some (.int .i64 b.next) := fun wx x => (bb6.ext x).cell 6
   have QB := Lib.hid q6b
   have hzn1 : z.pr.n ≤ 9 := by have := hA9.pr.1; omega
   have hmn := hsm.2.1
   have xf := Lib.hid (x0.trans xw6)
   obtain ⟨pre1, p1, hp1, hal1⟩ := HB1.out
   have hzl : z.pr.n = pre1.length + 1 := by rw [hin.pr.1, hp1, List.length_append, List.length_singleton]
   have HP1 := Lib.hid hp1
   have HAL1 := Lib.hid hal1
   have HZL := Lib.hid hzl
   clear q6b hA9 hB9 hM9 hzz HB1 HQ1 HA1 ho6 v6' b9 HI2 HX2 HI HX hg1 hg2 hj1 hj2 hR2 hst2 hfit2 hin hz hs hn h1 hl h8 hc hst hsa hsb hsm FM FA FB HA HB HD HM bm ba bb bz x2 x3 x6 xw xw3 xw6 hna hnb hZ1 hZ2 hZ3 hZ4 hZ5 hZ6 HD1 hp1 hal1 x0 us
   obtain ⟨L1, hL1⟩ : ∃ L1, L1 = pre1.length := ⟨_, rfl⟩
   rw [← hL1] at HZL
   have HL1 := Lib.hid hL1
   clear hL1
   have hzl9 : L1 ≤ 8 := by have := HZL.out; omega
   have k5 : w6.cell? ⟨g, 5, none⟩ = some (.slice z.pr.A (L1 + 1) z.pr.c) := by rw [← HZL.out]; exact bz6.cell 5
   have hL0 : (((L1 + 1 : Nat) : Int) == 0) = false := by rw [beq_eq_false_iff_ne]; omega
   have hL0' : ((L1 : Int) + 1 == 0) = false := by rw [beq_eq_false_iff_ne]; omega
   go_upto_region 7 with fail
   go_cut [79] (fun s wx => s = .bool false ∧ w6 = wx)
   case first =>
    by_cases he : e6 = 0
    ·obtain ⟨hn6, z2, D2, b2, i2, pre2, p2, hp2, _⟩ := HK2.out he
     have hzl2 : z2.pr.n = pre2.length + 1 := by rw [i2.pr.1, hp2, List.length_append, List.length_singleton]
     have k52 : w6.cell? ⟨g6, 5, none⟩ = some (.slice z2.pr.A (pre2.length + 1) z2.pr.c) := by rw [← hzl2]; exact b2.cell 5
     have hM0 : (((pre2.length + 1 : Nat) : Int) == 0) = false := by rw [beq_eq_false_iff_ne]; omega
     have hM0' : ((pre2.length : Int) + 1 == 0) = false := by rw [beq_eq_false_iff_ne]; omega
     clear hp2 hzl2 b2 i2 hn6
     generalize pre2.length = L2 at *
     have heb : (e6 == 0) = true := by simpa using he
     clear he
     go_wp2_with fail
     go_meet
     exact ⟨rfl, rfl⟩
    ·have heb : (e6 == 0) = false := by simpa using he
     clear he
     go_wp2_with fail
     go_meet
     exact ⟨rfl, rfl⟩
   case rest =>
   obtain ⟨rfl, rfl⟩ := hcut
   have hZr := HZ6.out.pr
   have hMr := HM6.out.pr
   have HMN := Lib.hid (show m.pr.n = d.pr.length from hMr.1)
   have hm5 : ∀ wx, Ext w6 wx → wx.cell? ⟨G, 5, none⟩ = some (.slice m.pr.A m.pr.n m.pr.c) := fun wx x => (bm6.ext x).cell 5
   have HM5 := Lib.hid hm5
   obtain ⟨b1, o1, hA1, hc1⟩ := hZr.2 (by rw [HZL.out]; omega)
   have HC1 := Lib.hid (show ∀ wx, Ext w6 wx → wx.cell? ⟨g, 5, none⟩ = some (.slice (some ⟨b1, o1, none⟩) (L1 + 1) z.pr.c) from fun wx x => by rw [← hA1, ← HZL.out]; exact (bz6.ext x).cell 5)
   have hLk : L1 < D1.pr.length := by rw [HP1.out, List.length_append, List.length_singleton, ← HL1.out]; omega
   have hDL : D1.pr[L1] = p1 := by
    have h : D1.pr[L1]? = some p1 := by rw [HP1.out, HL1.out]; simp
    rw [List.getElem?_eq_getElem hLk] at h
    exact Option.some.inj h
   have HR1 := Lib.hid (show ∀ wx, Ext w6 wx → wx.rangeAt b1 (o1 + L1 * 96) (prL p1) from fun wx x => by rw [← hDL]; exact range_ext (pr_range hc1 hLk) x)
   clear hZr hMr hm5 hA1 hc1 hLk hDL k5
   go_upto_region 10 with fail
   go_loopw [15] (fun i wx => ∃ k : Nat, k ≤ m.pr.n ∧ i = .int .i64 k ∧ Ext w6 wx) (fun i _ => m.pr.n - (intOf i).toNat)
   case atStart => exact ⟨0, by omega, rfl, Ext.refl _⟩
   case round =>
    obtain ⟨k, hk, rfl, xk⟩ := hrel
    have r5 := HM5.out wr xk
    by_cases hlt : k < m.pr.n
    ·have hkd : k < d.pr.length := by rw [← HMN.out]; exact hlt
     obtain ⟨b0, o0, hA0, hc0⟩ := HM6.out.pr.2 (by omega)
     have r1 := range_ext (pr_range hc0 hkd) xk
     have HM7 := Lib.hid (show ∀ wx, Ext wr wx → wx.cell? ⟨G, 5, none⟩ = some (.slice (some ⟨b0, o0, none⟩) m.pr.n m.pr.c) from fun wx x => by rw [← hA0]; exact HM5.out wx (xk.trans x))
     rw [hA0] at r5
     have rp : wr.cell? ⟨b0, o0 + k * 96, none⟩ = some (.int .i64 d.pr[k].pid) := r1 0 _ rfl
     have hki : (k : Int) < (m.pr.n : Int) := by omega
     have HUK := Lib.hid (HUQ.out k hkd)
     clear hc0 hA0
     generalize d.pr[k] = q at *
     rcases Bool.eq_false_or_eq_true (q.pid != pid) with dq | dq
     ·go_wp2_with fail
      go_roundw
      case rel => exact ⟨k + 1, by omega, by go_num, xk⟩
      case measure => simp [intOf]; omega
     ·obtain rfl : q = y := HUK.out (by simpa using dq)
      go_upto_region 13 with fail
      have RM := Lib.hid (show ∀ wx, (∃ x : Later wr, wx = x.now) → wx.rangeAt G 0 m.cells.toList from fun wx ⟨x, e⟩ => by rw [e]; exact mac_range0 ((bm6.ext xk).ext x.ext))
      have RZ := Lib.hid (show ∀ wx, (∃ x : Later wr, wx = x.now) → wx.rangeAt g 0 z.cells.toList from fun wx ⟨x, e⟩ => by rw [e]; exact mac_range0 ((bz6.ext xk).ext x.ext))
      have RQ := Lib.hid (show ∀ wx, (∃ x : Later wr, wx = x.now) → wx.rangeAt b0 (o0 + k * 96) (prL q) from fun wx ⟨x, e⟩ => by rw [e]; exact range_ext r1 x.ext)
      have RP := Lib.hid (show ∀ wx, (∃ x : Later wr, wx = x.now) → wx.rangeAt b1 (o1 + L1 * 96) (prL p1) from fun wx ⟨x, e⟩ => by rw [e]; exact HR1.out _ (xk.trans x.ext))
      have qm : ∀ x : Later wr, x.now.cell? ⟨G, 5, none⟩ = some (.slice (some ⟨b0, o0, none⟩) m.pr.n m.pr.c) := fun x => HM7.out _ x.ext
      have qz : ∀ x : Later wr, x.now.cell? ⟨g, 5, none⟩ = some (.slice (some ⟨b1, o1, none⟩) (L1 + 1) z.pr.c) := fun x => HC1.out _ (xk.trans x.ext)
      have HCa := Lib.hid (show ∀ x : Later wr, Calls Tryz.prog 21 #[.agg m.cells, .agg (prL q).toArray, .agg z.cells, .agg (prL p1).toArray] x.now fun e w' => e = .returned (.bool true) ∧ Ext x.now w' from fun x => alike_any m z d D1 q p1 x.now (HM6.out.ext (xk.trans x.ext)) (HZ6.out.ext (xk.trans x.ext)) HAL1.out)
      have hL1i : (L1 : Int) < (L1 : Int) + 1 := by omega
      have HRQ := Lib.hid (show ∀ wx, Ext wr wx → wx.rangeAt b0 (o0 + k * 96) (prL q) from fun wx x => range_ext r1 x)
      clear r5 r1 rp
      try simp only [Act.put]
      refine wp_region_later (by kernel_rfl) (by kernel_rfl) ?_
      repeat (first
       | (go_big_quiet_want; refine quiet_ld_mac (.tmp 4) rfl G rfl m RM.out ?_; simp only [Act.put, List.setIfInBounds_toArray, List.set_cons_zero, List.set_cons_succ]; go_big_quiet_on)
       | (go_big_quiet_want; refine quiet_ld_mac (.tmp 9) rfl g rfl z RZ.out ?_; simp only [Act.put, List.setIfInBounds_toArray, List.set_cons_zero, List.set_cons_succ]; go_big_quiet_on)
       | (go_big_quiet_want; refine quiet_ld_prA (.tmp 99) rfl b0 _ rfl q RQ.out ?_; simp only [Act.put, List.setIfInBounds_toArray, List.set_cons_zero, List.set_cons_succ]; go_big_quiet_on)
       | (go_big_quiet_want; refine quiet_ld_prA (.tmp 108) rfl b1 _ rfl p1 RP.out ?_; simp only [Act.put, List.setIfInBounds_toArray, List.set_cons_zero, List.set_cons_succ]; go_big_quiet_on)
       | go_big_quiet_step (exact later_of (HCa.out _)))
      refine wpQuiet_nil ?_
      rintro w8 ⟨x8, rfl⟩
      clear qm qz RM RZ RQ RP HCa
      go_upto_region 15 with fail
      have x8e := x8.ext
      generalize x8.now = w8 at *
      clear x8
      have xk8 := xk.trans x8e
      by_cases he : e6 = 0
      ·obtain ⟨hn6, z2, D2, b2, i2, pre2, p2, hp2, hal2⟩ := HK2.out he
       subst he
       subst hn6
       obtain ⟨L2, hL2⟩ : ∃ L2, L2 = pre2.length := ⟨_, rfl⟩
       have hzl2 : z2.pr.n = L2 + 1 := by rw [i2.pr.1, hp2, List.length_append, List.length_singleton, hL2]
       obtain ⟨b3, o3, hA3, hc3⟩ := i2.pr.2 (by rw [hzl2]; omega)
       have hLk2 : L2 < D2.pr.length := by rw [hp2, List.length_append, List.length_singleton, ← hL2]; omega
       have hDL2 : D2.pr[L2] = p2 := by
        have h : D2.pr[L2]? = some p2 := by rw [hp2, hL2]; simp
        rw [List.getElem?_eq_getElem hLk2] at h
        exact Option.some.inj h
       have hz9 : L2 + 1 ≤ 9223372036854775807 := by have := i2.prk.2.1; unfold maxLen at this; omega
       have RM := Lib.hid (show ∀ wx, (∃ x : Later w8, wx = x.now) → wx.rangeAt G 0 m.cells.toList from fun wx ⟨x, e⟩ => by rw [e]; exact mac_range0 ((bm6.ext xk8).ext x.ext))
       have RZ := Lib.hid (show ∀ wx, (∃ x : Later w8, wx = x.now) → wx.rangeAt g6 0 z2.cells.toList from fun wx ⟨x, e⟩ => by rw [e]; exact mac_range0 ((b2.ext xk8).ext x.ext))
       have RQ := Lib.hid (show ∀ wx, (∃ x : Later w8, wx = x.now) → wx.rangeAt b0 (o0 + k * 96) (prL q) from fun wx ⟨x, e⟩ => by rw [e]; exact HRQ.out _ (x8e.trans x.ext))
       have RP := Lib.hid (show ∀ wx, (∃ x : Later w8, wx = x.now) → wx.rangeAt b3 (o3 + L2 * 96) (prL p2) from fun wx ⟨x, e⟩ => by rw [e, ← hDL2]; exact range_ext (pr_range hc3 hLk2) (xk8.trans x.ext))
       have qm : ∀ x : Later w8, x.now.cell? ⟨G, 5, none⟩ = some (.slice (some ⟨b0, o0, none⟩) m.pr.n m.pr.c) := fun x => HM7.out _ (x8e.trans x.ext)
       have qz : ∀ x : Later w8, x.now.cell? ⟨g6, 5, none⟩ = some (.slice (some ⟨b3, o3, none⟩) (L2 + 1) z2.pr.c) := fun x => by rw [← hA3, ← hzl2]; exact ((b2.ext xk8).ext x.ext).cell 5
       have qb : ∀ x : Later w8, x.now.cell? ⟨G + 1 + 1, 6, none⟩ = some (.int .i64 b.next) := fun x => QB.out _ (xk8.trans x.ext)
       have HCa := Lib.hid (show ∀ x : Later w8, Calls Tryz.prog 21 #[.agg m.cells, .agg (prL q).toArray, .agg z2.cells, .agg (prL p2).toArray] x.now fun e w' => e = .returned (.bool true) ∧ Ext x.now w' from fun x => alike_any m z2 d D2 q p2 x.now (HM6.out.ext (xk8.trans x.ext)) (i2.ext (xk8.trans x.ext)) hal2)
       have hL2i : (L2 : Int) < (L2 : Int) + 1 := by omega
       clear hc3 hA3 hDL2 hLk2 hzl2 hp2 hal2 i2 b2 hL2
       clear pre2
       try simp only [Act.put]
       refine wp_region_later (by kernel_rfl) (by kernel_rfl) ?_
       repeat (first
        | (go_big_quiet_want; refine quiet_ld_mac (.tmp 4) rfl G rfl m RM.out ?_; simp only [Act.put, List.setIfInBounds_toArray, List.set_cons_zero, List.set_cons_succ]; go_big_quiet_on)
        | (go_big_quiet_want; refine quiet_ld_mac (.tmp 12) rfl g6 rfl z2 RZ.out ?_; simp only [Act.put, List.setIfInBounds_toArray, List.set_cons_zero, List.set_cons_succ]; go_big_quiet_on)
        | (go_big_quiet_want; refine quiet_ld_prA (.tmp 124) rfl b0 _ rfl q RQ.out ?_; simp only [Act.put, List.setIfInBounds_toArray, List.set_cons_zero, List.set_cons_succ]; go_big_quiet_on)
        | (go_big_quiet_want; refine quiet_ld_prA (.tmp 133) rfl b3 _ rfl p2 RP.out ?_; simp only [Act.put, List.setIfInBounds_toArray, List.set_cons_zero, List.set_cons_succ]; go_big_quiet_on)
        | go_big_quiet_step (exact later_of (HCa.out _)))
       refine wpQuiet_nil ?_
       rintro w9 ⟨x9, rfl⟩
       clear qm qz qb RM RZ RQ RP HCa
       go_wp2_with fail
       go_roundw
       case rel => exact ⟨k + 1, by omega, by go_num, xk8.trans x9.ext⟩
       case measure => simp [intOf]; omega
      ·have heb : (e6 == 0) = false := by simpa using he
       clear he
       try simp only [Act.put]
       refine wp_region_later (by kernel_rfl) (by kernel_rfl) ?_
       repeat (go_big_quiet_step (fail))
       refine wpQuiet_nil ?_
       rintro w9 ⟨x9, rfl⟩
       go_wp2_with fail
       go_roundw
       case rel => exact ⟨k + 1, by omega, by go_num, xk8.trans x9.ext⟩
       case measure => simp [intOf]; omega
    ·have hki : ¬ (k : Int) < (m.pr.n : Int) := by omega
     go_wp2_with (go_at_call 10; refine (HAw.out _).mono ?_; rintro e w9 ⟨rfl, x9⟩)
     go_ret
     exact ⟨rfl, (xf.out.trans xk).trans x9⟩
end Go.Proofs.YtfaplefkakpgcaaGreatDoor
