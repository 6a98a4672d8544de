/- Plain: when a machine may be, point by point. -/
import Derived.Test.YtkokmnaicfdjaaaGreatDoorVc15
namespace Go.Proofs.YtkokmnaicfdjaaaGreatDoor
set_option linter.unusedVariables false
set_option linter.unusedSimpArgs false

/-- is there a process of that number, that lives? -/
def LivesP (l : List PrT) (pid : Int) : Prop := ∃ y ∈ l, y.pid = pid ∧ (y.state = 1 ∨ y.state = 2)
/-- how many of a process's first pages have a frame -/
def cntFr (y : PrT) (fr : Int) : Nat → Nat
  | 0 => 0
  | j + 1 => cntFr y fr j + (if y.pis j = true ∧ y.pfr j = fr then 1 else 0)
/-- how many pages of the first processes do -/
def usersK (l : List PrT) (fr : Int) : Nat → Nat
  | 0 => 0
  | k + 1 => usersK l fr k + cntFr (l.getD k default) fr 16
def FdP (pi : List WrT) (k n p : Int) : Prop :=
  ((k = 0 ∨ k = 1 ∨ k = 2) ∧ n = 0 ∧ p = 0) ∨ (k = 3 ∧ 1 ≤ n ∧ n ≤ 64 ∧ 0 ≤ p ∧ p ≤ 8960) ∨ ((k = 4 ∨ k = 5) ∧ p = 0 ∧ ∃ y ∈ pi, y.1 = n)
def PageP (m : Mac) (d : MacD) (y : PrT) (j : Nat) : Prop :=
  (y.pis j = false ∧ y.pwr j = false ∧ y.pfr j = 0) ∨ (y.pis j = true ∧ y.state ≠ 3 ∧ 0 ≤ y.pfr j ∧ y.pfr j < (m.fr.n : Int) ∧ usersK d.pr (y.pfr j) d.pr.length = 1)
structure ProcOk (m : Mac) (d : MacD) (y : PrT) : Prop where
  pid : 1 ≤ y.pid ∧ y.pid < m.next
  state : y.state = 1 ∨ y.state = 2 ∨ y.state = 3
  reg : y.reg 0 = 0
  par : LivesP d.pr y.parent ∨ (y.state ≠ 3 ∧ y.parent = 0)
  why : (y.state = 2 ∧ 1 ≤ y.why ∧ y.why ≤ 5) ∨ (y.state ≠ 2 ∧ y.why = 0 ∧ y.num = 0)
  code : y.state = 3 ∨ y.code = 0
  page : ∀ j < 16, PageP m d y j
  fd : ∀ j < 8, FdP d.pi (y.fk j) (y.fn j) (y.fp j) ∧ (y.state = 3 → y.fk j = 0)
structure NumsOk (m : Mac) : Prop where
  quantum : 1 ≤ m.quantum ∧ m.quantum ≤ 1000
  left : 0 ≤ m.left ∧ m.left ≤ m.quantum
  cur : 0 ≤ m.cur
  next : 1 ≤ m.next ∧ m.next ≤ 1000000000
  newPipe : 1 ≤ m.newPipe ∧ m.newPipe ≤ 1000000000
/-- the first k pipes are as they may be -/
def PipesK (m : Mac) (l : List WrT) (k : Nat) : Prop := ∀ (i : Nat) (h : i < l.length), i < k → 1 ≤ l[i].1 ∧ l[i].1 < m.newPipe ∧ l[i].2.length ≤ 64 ∧ (0 < i → (l[i - 1]'(by omega)).1 < l[i].1)
def ProcsK (m : Mac) (d : MacD) (k : Nat) : Prop := ∀ (i : Nat) (h : i < d.pr.length), i < k → ProcOk m d d.pr[i] ∧ (0 < i → (d.pr[i - 1]'(by omega)).pid < d.pr[i].pid)
structure RestOk (m : Mac) (d : MacD) : Prop where
  nums : NumsOk m
  frn : 1 ≤ m.fr.n ∧ m.fr.n ≤ 64
  fr : ∀ b ∈ d.fr, b.length = 128
  prn : m.pr.n ≤ 8
  pr : ProcsK m d d.pr.length
  pin : m.pi.n ≤ 64
  pi : PipesK m d.pi d.pi.length
  texts : m.inn.length ≤ 65536 ∧ m.init.length ≤ 128
/-- a machine that may be -/
structure StateOk (m : Mac) (d : MacD) : Prop where
  rest : RestOk m d
  disk : DiskOk d
theorem cnt_mono (y : PrT) (fr : Int) : ∀ {i j : Nat}, i ≤ j → cntFr y fr i ≤ cntFr y fr j := by
  intro i j h
  induction h with
  | refl => exact Nat.le_refl _
  | step _ ih => exact Nat.le_trans ih (Nat.le_add_right _ _)
theorem users_mono (l : List PrT) (fr : Int) : ∀ {i j : Nat}, i ≤ j → usersK l fr i ≤ usersK l fr j := by
  intro i j h
  induction h with
  | refl => exact Nat.le_refl _
  | step _ ih => exact Nat.le_trans ih (Nat.le_add_right _ _)
/-- has one of the pages that were gone through (k processes, j pages of the next one) a frame? -/
def Met (l : List PrT) (k j : Nat) (fr : Int) : Prop := 0 < usersK l fr k + cntFr (l.getD k default) fr j
/-- a frame that one page has alone was not met ahead of that -/
theorem met_one {l : List PrT} {k j : Nat} {fr : Int} (hk : k < l.length) (hj : j < 16) (h : (l.getD k default).pis j = true) (hf : (l.getD k default).pfr j = fr) (hu : usersK l fr l.length = 1) : ¬ Met l k j fr := by
  intro hm
  unfold Met at hm
  have h1 : usersK l fr (k + 1) ≤ usersK l fr l.length := users_mono l fr hk
  have h2 : cntFr (l.getD k default) fr (j + 1) ≤ cntFr (l.getD k default) fr 16 := cnt_mono _ _ hj
  rw [usersK] at h1
  rw [cntFr, if_pos ⟨h, hf⟩] at h2
  omega
theorem met_next {l : List PrT} {k j : Nat} {fr : Int} (h : (l.getD k default).pis j = true) : Met l k (j + 1) fr ↔ Met l k j fr ∨ fr = (l.getD k default).pfr j := by
  unfold Met
  rw [cntFr]
  by_cases e : (l.getD k default).pfr j = fr
  · rw [if_pos ⟨h, e⟩]; exact ⟨fun _ => .inr e.symm, fun _ => by omega⟩
  · rw [if_neg (fun h => e h.2)]
    exact ⟨fun h => .inl (by omega), fun h => h.elim (fun h => by omega) (fun h => absurd h.symm e)⟩
theorem met_skip {l : List PrT} {k j : Nat} {fr : Int} (h : (l.getD k default).pis j = false) : Met l k (j + 1) fr ↔ Met l k j fr := by
  unfold Met
  rw [cntFr, if_neg (fun h2 => by rw [h] at h2; cases h2.1)]; omega
theorem met_proc {l : List PrT} {k : Nat} {fr : Int} : Met l (k + 1) 0 fr ↔ Met l k 16 fr := by
  unfold Met
  rw [usersK, cntFr]; omega
theorem met_zero {l : List PrT} {fr : Int} : ¬ Met l 0 0 fr := by unfold Met; rw [usersK, cntFr]; omega
end Go.Proofs.YtkokmnaicfdjaaaGreatDoor
/- The document's machines, point by point: lives, users, Pipe, fd tell what they say. -/
namespace Go.Proofs.YtkokmnaicfdjaaaGreatDoor
set_option linter.unusedVariables false
set_option linter.unusedSimpArgs false
open Go.RowKit

def LivesR (l : List PrT) (pid : Int) (e : Ending) : Prop := ∃ b, e = .returned (.bool b) ∧ (b = true → LivesP l pid)
def PipeR (l : List WrT) (id : Int) (e : Ending) : Prop := ∃ (y : WrT) (b : Bool), e = .returned (.tuple #[.agg #[.int .i64 y.1, .string (str y.2)], .bool b]) ∧ (b = true → ∃ z ∈ l, z.1 = id)
def FdR (l : List WrT) (k n p : Int) (e : Ending) : Prop := ∃ b, e = .returned (.bool b) ∧ (b = true → FdP l k n p)
set_option maxHeartbeats 2000000 in
set_option maxRecDepth 100000 in
theorem lives_ok (m : Mac) (l : List PrT) (pid : Int) (w : World) (h : RowOf prL w m.pr.A m.pr.n l) (hpk : m.pr.n ≤ 1000) :
    Calls Tryz.prog 52 #[.agg m.cells, .int .i64 pid] w fun e w' => LivesR l pid e ∧ Ext w w' := by
  obtain ⟨hp1, hp2⟩ := h
  have xa : Ext w (w.alloc (.cells m.cells 30)) := (Ext.refl _).alloc _
  have ba := Box.new w 30 m.cells
  have q5 : (w.alloc (.cells m.cells 30)).cell? ⟨w.heap.size, 5, none⟩ = some (.slice m.pr.A m.pr.n m.pr.c) := ba.cell 5
  go_enter Tryz.func52, Tryz.ntmps52
  go_wp2_with fail
  clear q5 ba
  generalize w.alloc (.cells m.cells 30) = w1 at *
  try rw [hp1]
  rw [hp1] at hpk
  have HP1 := Lib.hid hp1
  clear hp1
  generalize m.pr.A = A at *
  go_loopw [6, 10] (fun _ i wx => ∃ k : Nat, k ≤ l.length ∧ i = .int .i64 k ∧ Ext w wx) (fun _ i _ => l.length - (intOf i).toNat)
  case atStart => exact ⟨0, by omega, rfl, xa⟩
  case round =>
    obtain ⟨k, hk, rfl, xk⟩ := hrel
    by_cases hlt : k < l.length
    · obtain ⟨b, o, rfl, hcell⟩ := hp2 (by rw [HP1.out]; omega)
      have r1 := range_ext (pr_range hcell hlt) xk
      clear hcell
      have hki : (k : Int) < (l.length : Int) := by omega
      have HL := Lib.hid (show l[k].pid = pid → (l[k].state = 1 ∨ l[k].state = 2) → LivesP l pid from fun h1 h2 => ⟨l[k], List.getElem_mem hlt, h1, h2⟩)
      generalize l[k] = y at *
      go_upto_region 4 with (first
        | (refine wp_ld_pr (.tmp 12) rfl rfl b (o + k * 96) y rfl r1 ?_)
        | (refine wp_st_pr (.tmp 6) (.tmp 13) rfl rfl wr.heap.size y _ 72 rfl rfl (Box.new _ _ _) rfl ?_; intro w2 b2 g2))
      have x2 : Ext w w2 := (xk.alloc _).grown g2 (fun j e => by cases e; exact xk.size)
      have c0 : w2.cell? ⟨wr.heap.size, 0, none⟩ = some (.int .i64 y.pid) := b2.cell 0
      have c2 : w2.cell? ⟨wr.heap.size, 2, none⟩ = some (.int .i64 y.state) := b2.cell 2
      clear g2 r1 b2
      rcases Bool.eq_false_or_eq_true (y.pid == pid) with d1 | d1
      · rcases Bool.eq_false_or_eq_true (y.state == 1) with d2 | d2
        · have HD := Lib.hid (HL.out (by simpa using d1) (.inl (by simpa using d2)))
          go_wp2_with fail
          go_ret
          exact ⟨⟨true, rfl, fun _ => HD.out⟩, x2⟩
        · rcases Bool.eq_false_or_eq_true (y.state == 2) with d3 | d3
          · have HD := Lib.hid (HL.out (by simpa using d1) (.inr (by simpa using d3)))
            go_wp2_with fail
            go_ret
            exact ⟨⟨true, rfl, fun _ => HD.out⟩, x2⟩
          · go_wp2_with fail
            go_roundw
            case rel => exact ⟨k + 1, by omega, by go_num, x2⟩
            case measure => simp [intOf]; omega
      · go_wp2_with fail
        go_roundw
        case rel => exact ⟨k + 1, by omega, by go_num, x2⟩
        case measure => simp [intOf]; omega
    · obtain rfl : k = l.length := by omega
      go_wp2_with fail
      go_ret
      exact ⟨⟨false, rfl, fun h => by cases h⟩, xk⟩
set_option maxHeartbeats 2000000 in
set_option maxRecDepth 100000 in
theorem users_ok (m : Mac) (l : List PrT) (fr : Int) (w : World) (h : RowOf prL w m.pr.A m.pr.n l) (hn : m.pr.n ≤ 1000) :
    Calls Tryz.prog 53 #[.agg m.cells, .int .i64 fr] w fun e w' => e = .returned (.int .i64 (usersK l fr l.length)) ∧ Ext w w' := by
  obtain ⟨hp1, hp2⟩ := h
  have xa : Ext w (w.alloc (.cells m.cells 30)) := (Ext.refl _).alloc _
  have ba := Box.new w 30 m.cells
  have q5 : (w.alloc (.cells m.cells 30)).cell? ⟨w.heap.size, 5, none⟩ = some (.slice m.pr.A m.pr.n m.pr.c) := ba.cell 5
  go_enter Tryz.func53, Tryz.ntmps53
  go_wp2_with fail
  clear q5 ba
  generalize w.alloc (.cells m.cells 30) = w1 at *
  try rw [hp1]
  rw [hp1] at hn
  have HP1 := Lib.hid hp1
  clear hp1
  generalize m.pr.A = A at *
  go_loopw [5, 13] (fun t i wx => ∃ (k : Nat), k ≤ l.length ∧ i = .int .i64 k ∧ t = .int .i64 (usersK l fr k) ∧ usersK l fr k ≤ 16 * k ∧ Ext w wx) (fun _ i _ => l.length - (intOf i).toNat)
  case atStart => exact ⟨0, by omega, rfl, rfl, by simp [usersK], xa⟩
  case round =>
    obtain ⟨k, hk, rfl, rfl, hz, xk⟩ := hrel
    by_cases hlt : k < l.length
    · obtain ⟨b, o, rfl, hcell⟩ := hp2 (by rw [HP1.out]; omega)
      have r1 := range_ext (pr_range hcell hlt) xk
      clear hcell
      have hki : (k : Int) < (l.length : Int) := by omega
      have HU := Lib.hid (show usersK l fr (k + 1) = usersK l fr k + cntFr l[k] fr 16 by
        rw [usersK, List.getD_eq_getElem?_getD, List.getElem?_eq_getElem hlt]; rfl)
      generalize l[k] = y at *
      generalize usersK l fr k = z at *
      go_wp2_with (first
        | (refine wp_ld_pr (.tmp 15) rfl rfl b (o + k * 96) y rfl r1 ?_)
        | (refine wp_st_pr (.tmp 7) (.tmp 16) rfl rfl wr.heap.size y _ 72 rfl rfl (Box.new _ _ _) rfl ?_; intro w2 b2 g2; have x2 : Ext w w2 := (xk.alloc _).grown g2 (fun j e => by cases e; exact xk.size))
        | (refine wp_ld_space (.tmp 17) rfl rfl wr.heap.size 72 y rfl b2 ?_))
      go_loopw [5, 19] (fun t i wx => ∃ (j : Nat), j ≤ 16 ∧ i = .int .i64 j ∧ t = .int .i64 ((z + cntFr y fr j : Nat) : Int) ∧ cntFr y fr j ≤ j ∧ Ext w wx) (fun _ i _ => 16 - (intOf i).toNat)
      case atStart => exact ⟨0, by omega, rfl, rfl, by simp [cntFr], x2⟩
      case round =>
        clear r1 b2 g2 xk x2
        obtain ⟨j, hj, rfl, rfl, hz2, xj⟩ := hrel
        by_cases hj2 : j < 16
        · have hji : (j : Int) < 16 := by omega
          have HC := Lib.hid (show cntFr y fr (j + 1) = cntFr y fr j + (if y.pis j = true ∧ y.pfr j = fr then 1 else 0) from rfl)
          generalize cntFr y fr j = c at *
          cases e1 : y.pis j with
          | false =>
            have HC2 := Lib.hid (HC.out.trans (by rw [e1, if_neg (fun h => by cases h.1)]))
            go_wp2_with (first
              | (refine wp_idx_pte (.tmp 18) (.tmp 19) rfl rfl y j rfl rfl hj2 ?_; rw [e1]))
            go_roundw
            case rel => exact ⟨j + 1, by omega, by go_num, by rw [HC2.out]; rfl, by rw [HC2.out]; omega, xj.alloc _⟩
            case measure => simp [intOf]; omega
          | true =>
            rcases Bool.eq_false_or_eq_true (y.pfr j == fr) with e2 | e2
            · have HC2 := Lib.hid (HC.out.trans (by rw [if_pos ⟨e1, by simpa using e2⟩]))
              go_wp2_with (first
                | (refine wp_idx_pte (.tmp 18) (.tmp 19) rfl rfl y j rfl rfl hj2 ?_; rw [e1]))
              go_roundw
              case rel => exact ⟨j + 1, by omega, by go_num, by rw [HC2.out]; go_num, by rw [HC2.out]; omega, xj.alloc _⟩
              case measure => simp [intOf]; omega
            · have HC2 := Lib.hid (HC.out.trans (by rw [if_neg (fun h => by simp [h.2] at e2)]))
              go_wp2_with (first
                | (refine wp_idx_pte (.tmp 18) (.tmp 19) rfl rfl y j rfl rfl hj2 ?_; rw [e1]))
              go_roundw
              case rel => exact ⟨j + 1, by omega, by go_num, by rw [HC2.out]; rfl, by rw [HC2.out]; omega, xj.alloc _⟩
              case measure => simp [intOf]; omega
        · have hjn : ¬ (j : Int) < 16 := by omega
          have HJ := Lib.hid (show j = 16 by omega)
          go_wp2_with fail
          go_roundw
          case rel => exact ⟨k + 1, by omega, by go_num, by rw [HU.out, ← HJ.out], by rw [HU.out]; have h1 := hz2; rw [HJ.out] at h1; omega, xj⟩
          case measure => simp [intOf]; omega
    · obtain rfl : k = l.length := by omega
      go_wp2_with fail
      go_ret
      exact ⟨by rfl, xk⟩
set_option maxHeartbeats 2000000 in
set_option maxRecDepth 100000 in
theorem rpipe_ok (m : Mac) (l : List WrT) (id : Int) (w : World) (h : Wrs w m.pi.A m.pi.n l) (hpk : m.pi.n ≤ 1000) :
    Calls Tryz.prog 108 #[.agg m.cells, .int .i64 id] w fun e w' => PipeR l id e ∧ Ext w w' := by
  obtain ⟨hp1, hp2⟩ := h
  have xa : Ext w (w.alloc (.cells m.cells 30)) := (Ext.refl _).alloc _
  have ba := (Box.new w 30 m.cells).ext ((Ext.refl _).alloc (.cells #[.int .i64 0, .string ⟨#[]⟩] 59))
  have q8 : ((w.alloc (.cells m.cells 30)).alloc (.cells #[.int .i64 0, .string ⟨#[]⟩] 59)).cell? ⟨w.heap.size, 8, none⟩ = some (.slice m.pi.A m.pi.n m.pi.c) := ba.cell 8
  have b4 : Box ((w.alloc (.cells m.cells 30)).alloc (.cells #[.int .i64 0, .string ⟨#[]⟩] 59)) (w.heap.size + 1) 59 #[.int .i64 0, .string ⟨#[]⟩] := by
    have := Box.new (w.alloc (.cells m.cells 30)) 59 #[.int .i64 0, .string ⟨#[]⟩]
    rw [World.size_alloc] at this; exact this
  have xa2 := xa.alloc (.cells #[.int .i64 0, .string ⟨#[]⟩] 59)
  go_enter Tryz.func108, Tryz.ntmps108
  go_wp2_with fail
  clear q8 ba xa
  generalize ((w.alloc (.cells m.cells 30)).alloc (.cells #[.int .i64 0, .string ⟨#[]⟩] 59)) = w1 at *
  try rw [hp1]
  rw [hp1] at hpk
  have HP1 := Lib.hid hp1
  clear hp1
  generalize m.pi.A = A at *
  go_loopw [7, 11] (fun _ i wx => ∃ (k : Nat), k ≤ l.length ∧ i = .int .i64 k ∧ Ext w wx ∧ Box wx (w.heap.size + 1) 59 #[.int .i64 0, .string ⟨#[]⟩]) (fun _ i _ => l.length - (intOf i).toNat)
  case atStart => exact ⟨0, by omega, rfl, xa2, b4⟩
  case round =>
    obtain ⟨k, hk, rfl, xk, bk⟩ := hrel
    by_cases hlt : k < l.length
    · obtain ⟨b, o, rfl, hcell⟩ := hp2 (by rw [HP1.out]; omega)
      have e1 := xk.keep (hcell k hlt).1
      have e2 := xk.keep (hcell k hlt).2
      clear hcell
      have hki : (k : Int) < (l.length : Int) := by omega
      have HL := Lib.hid (show l[k].1 = id → ∃ z ∈ l, z.1 = id from fun h1 => ⟨l[k], List.getElem_mem hlt, h1⟩)
      generalize l[k] = y at *
      have bk2 := bk.ext ((Ext.refl wr).alloc (.cells #[.int .i64 y.1, .string (str y.2)] 59))
      rcases Bool.eq_false_or_eq_true (y.1 == id) with d1 | d1
      · have HD := Lib.hid (HL.out (by simpa using d1))
        go_wp2_with (first
          | (refine wp_st_pipe (.tmp 4) (.tmp 19) rfl rfl (w.heap.size + 1) y.1 (str y.2) _ 59 rfl rfl bk2 rfl ?_; intro w2 b2 g2; have x2 : Ext w w2 := (xk.alloc _).grown g2 (fun j e => by cases e; omega)))
        exact bodyPost_ret (v := .tuple #[.agg #[.int .i64 y.1, .string (str y.2)], .bool true]) (results_cell2 Tryz.results108 _ _ _ _ _ _ _ rfl rfl b2 Tryz.underlying59 rfl pipeSize) rfl ⟨⟨_, _, rfl, fun _ => HD.out⟩, x2⟩
      · go_wp2_with fail
        go_roundw
        case rel => exact ⟨k + 1, by omega, by go_num, xk.alloc _, bk2⟩
        case measure => simp [intOf]; omega
    · obtain rfl : k = l.length := by omega
      go_wp2_with (first
        | (refine wp_st_pipe (.tmp 4) (.tmp 21) rfl rfl (w.heap.size + 1) 0 ⟨#[]⟩ _ 59 rfl rfl bk rfl ?_; intro w2 b2 g2; have x2 : Ext w w2 := xk.grown g2 (fun j e => by cases e; omega)))
      exact bodyPost_ret (v := .tuple #[.agg #[.int .i64 0, .string ⟨#[]⟩], .bool false]) (results_cell2 Tryz.results108 _ _ _ _ _ _ _ rfl rfl b2 Tryz.underlying59 rfl pipeSize) rfl ⟨⟨(0, []), _, rfl, fun h => by cases h⟩, x2⟩
set_option maxHeartbeats 4000000 in
set_option maxRecDepth 100000 in
theorem rfd_ok (m : Mac) (l : List WrT) (k n p : Int) (w : World) (h : Wrs w m.pi.A m.pi.n l) (hpk : m.pi.n ≤ 1000) :
    Calls Tryz.prog 54 #[.agg m.cells, .agg #[.int .i64 k, .int .i64 n, .int .i64 p]] w fun e w' => FdR l k n p e ∧ Ext w w' := by
  have xa : Ext w ((w.alloc (.cells m.cells 30)).alloc (.cells #[.int .i64 k, .int .i64 n, .int .i64 p] 69)) := ((Ext.refl _).alloc _).alloc _
  have ba := (Box.new w 30 m.cells).ext ((Ext.refl _).alloc (.cells #[.int .i64 k, .int .i64 n, .int .i64 p] 69))
  have HP := Lib.hid (fun id w h => rpipe_ok m l id w h hpk)
  have h2 := h.ext xa
  have bf := Box.new (w.alloc (.cells m.cells 30)) 69 #[.int .i64 k, .int .i64 n, .int .i64 p]
  rw [World.size_alloc] at bf
  clear h
  go_enter Tryz.func54, Tryz.ntmps54
  go_upto_region 2 with (first
    | (refine wp_ld_mac (.tmp 2) rfl rfl w.heap.size _ 30 rfl ba rfl ?_)
    | (go_at_call 108; refine (HP.out _ _ h2).mono ?_; rintro e w1 ⟨⟨y, b1, rfl, hb1⟩, x1⟩; have bf1 := (bf.ext x1).ext ((Ext.refl w1).alloc (.cells #[.int .i64 y.1, .string (str y.2)] 59)); have f0 := bf1.cell 0; have f1 := bf1.cell 1; have f2 := bf1.cell 2; have xw := (xa.trans x1).alloc (.cells #[.int .i64 y.1, .string (str y.2)] 59); have HB := Lib.hid hb1; clear hb1))
  rcases (by omega : k = 0 ∨ k = 1 ∨ k = 2 ∨ k = 3 ∨ k = 4 ∨ k = 5 ∨ (k ≠ 0 ∧ k ≠ 1 ∧ k ≠ 2 ∧ k ≠ 3 ∧ k ≠ 4 ∧ k ≠ 5)) with rfl | rfl | rfl | rfl | rfl | rfl | ⟨h0, h1, h2, h3, h4, h5⟩
  · rcases Bool.eq_false_or_eq_true (n == 0) with d1 | d1 <;> go_wp2_with fail
    all_goals
      go_ret
      exact ⟨⟨_, rfl, fun h => by first | (cases h; done) | exact .inl ⟨by omega, by simpa using d1, by simpa using h⟩⟩, xw⟩
  · rcases Bool.eq_false_or_eq_true (n == 0) with d1 | d1 <;> go_wp2_with fail
    all_goals
      go_ret
      exact ⟨⟨_, rfl, fun h => by first | (cases h; done) | exact .inl ⟨by omega, by simpa using d1, by simpa using h⟩⟩, xw⟩
  · rcases Bool.eq_false_or_eq_true (n == 0) with d1 | d1 <;> go_wp2_with fail
    all_goals
      go_ret
      exact ⟨⟨_, rfl, fun h => by first | (cases h; done) | exact .inl ⟨by omega, by simpa using d1, by simpa using h⟩⟩, xw⟩
  · rcases Bool.eq_false_or_eq_true (decide (1 ≤ n)) with d1 | d1
    · rcases Bool.eq_false_or_eq_true (decide (n ≤ 64)) with d2 | d2
      · rcases Bool.eq_false_or_eq_true (decide (0 ≤ p)) with d3 | d3
        · go_wp2_with fail
          go_ret
          exact ⟨⟨_, rfl, fun h => .inr (.inl ⟨rfl, of_decide_eq_true d1, of_decide_eq_true d2, of_decide_eq_true d3, of_decide_eq_true h⟩)⟩, xw⟩
        · go_wp2_with fail
          go_ret
          exact ⟨⟨false, rfl, fun h => by cases h⟩, xw⟩
      · go_wp2_with fail
        go_ret
        exact ⟨⟨false, rfl, fun h => by cases h⟩, xw⟩
    · go_wp2_with fail
      go_ret
      exact ⟨⟨false, rfl, fun h => by cases h⟩, xw⟩
  · rcases Bool.eq_false_or_eq_true (p == 0) with d1 | d1
    · go_wp2_with fail
      go_ret
      exact ⟨⟨b1, rfl, fun h => .inr (.inr ⟨by omega, by simpa using d1, HB.out h⟩)⟩, xw⟩
    · go_wp2_with fail
      go_ret
      exact ⟨⟨false, rfl, fun h => by cases h⟩, xw⟩
  · rcases Bool.eq_false_or_eq_true (p == 0) with d1 | d1
    · go_wp2_with fail
      go_ret
      exact ⟨⟨b1, rfl, fun h => .inr (.inr ⟨by omega, by simpa using d1, HB.out h⟩)⟩, xw⟩
    · go_wp2_with fail
      go_ret
      exact ⟨⟨false, rfl, fun h => by cases h⟩, xw⟩
  · have e0 : (k == 0) = false := by simpa using h0
    have e1 : (k == 1) = false := by simpa using h1
    have e2 : (k == 2) = false := by simpa using h2
    have e3 : (k == 3) = false := by simpa using h3
    have e4 : (k == 4) = false := by simpa using h4
    have e5 : (k == 5) = false := by simpa using h5
    clear h0 h1 h2 h3 h4 h5
    go_wp2_with fail
    go_ret
    exact ⟨⟨false, rfl, fun h => by cases h⟩, xw⟩
end Go.Proofs.YtkokmnaicfdjaaaGreatDoor
/- The document's machines, point by point: process tells that a process is as it may be. -/
namespace Go.Proofs.YtkokmnaicfdjaaaGreatDoor
set_option linter.unusedVariables false
set_option linter.unusedSimpArgs false
open Go.RowKit

def ProcR (m : Mac) (d : MacD) (y : PrT) (e : Ending) : Prop := ∃ b, e = .returned (.bool b) ∧ (b = true → ProcOk m d y)
def BvP (v : Value) (p : Prop) : Prop := ∃ b, v = .bool b ∧ (b = false → p)
theorem BvP.yes {p : Prop} : BvP (.bool true) p := ⟨true, rfl, fun h => by cases h⟩
theorem BvP.of {b : Bool} {p : Prop} (h : b = false → p) : BvP (.bool b) p := ⟨b, rfl, h⟩
set_option maxHeartbeats 40000000 in
set_option maxRecDepth 100000 in
theorem rprocess_ok (m : Mac) (d : MacD) (y : PrT) (w : World) (h : MacIn w m d) (hrn : m.pr.n ≤ 1000) (hpn : m.pi.n ≤ 1000) :
    Calls Tryz.prog 28 #[.agg m.cells, .agg (prL y).toArray] w fun e w' => ProcR m d y e ∧ Ext w w' := by
  have HL := Lib.hid (fun id w (h : MacIn w m d) => lives_ok m d.pr id w h.pr hrn)
  have HU := Lib.hid (fun id w (h : MacIn w m d) => users_ok m d.pr id w h.pr hrn)
  have HF := Lib.hid (fun k n p w (h : MacIn w m d) => rfd_ok m d.pi k n p w h.pi.wrs hpn)
  go_enter Tryz.func28, Tryz.ntmps28
  go_upto_region 1 with fail
  have xa : Ext w ((w.alloc (.cells m.cells 30)).alloc (.cells (prL y).toArray 72)) := ((Ext.refl _).alloc _).alloc _
  have bm := (Box.new w 30 m.cells).ext ((Ext.refl _).alloc (.cells (prL y).toArray 72))
  have bp := Box.new (w.alloc (.cells m.cells 30)) 72 (prL y).toArray
  rw [World.size_alloc] at bp
  generalize (w.alloc (.cells m.cells 30)).alloc (.cells (prL y).toArray 72) = w1 at *
  have h1 := h.ext xa
  have cf : ∀ wx, Ext w1 wx → wx.cell? ⟨w.heap.size + 1, 0, none⟩ = some (.int .i64 y.pid) ∧ wx.cell? ⟨w.heap.size + 1, 1, none⟩ = some (.int .i64 y.parent) ∧ wx.cell? ⟨w.heap.size + 1, 2, none⟩ = some (.int .i64 y.state) ∧ wx.cell? ⟨w.heap.size + 1, 3, none⟩ = some (.int .u32 (y.reg 0)) ∧ wx.cell? ⟨w.heap.size + 1, 93, none⟩ = some (.int .u32 y.code) ∧ wx.cell? ⟨w.heap.size + 1, 94, none⟩ = some (.int .i64 y.why) ∧ wx.cell? ⟨w.heap.size + 1, 95, none⟩ = some (.int .u64 y.num) ∧ wx.cell? ⟨w.heap.size, 6, none⟩ = some (.int .i64 m.next) ∧ wx.cell? ⟨w.heap.size, 4, none⟩ = some (.slice m.fr.A m.fr.n m.fr.c) := fun wx x =>
    ⟨(bp.ext x).cell 0, (bp.ext x).cell 1, (bp.ext x).cell 2, (bp.ext x).cell 3, (bp.ext x).cell 93, (bp.ext x).cell 94, (bp.ext x).cell 95, (bm.ext x).cell 6, (bm.ext x).cell 4⟩
  have CF := Lib.hid cf
  clear cf
  obtain ⟨p0, p1, p2, p3, p93, p94, p95, m6, m4⟩ := CF.out _ (Ext.refl w1)
  go_upto_region 3 with fail
  generalize hdead : (y.state == 3) = dead at *
  generalize hwaits : (y.state == 2) = waits at *
  have HDD := Lib.hid (show (dead = true → y.state = 3) ∧ (dead = false → y.state ≠ 3) from ⟨fun h => by rw [h] at hdead; simpa using hdead, fun h => by rw [h] at hdead; simpa using hdead⟩)
  have HWW := Lib.hid (show (waits = true → y.state = 2) ∧ (waits = false → y.state ≠ 2) from ⟨fun h => by rw [h] at hwaits; simpa using hwaits, fun h => by rw [h] at hwaits; simpa using hwaits⟩)
  clear hdead hwaits
  go_cut [47] (fun s wx => BvP s ((1 ≤ y.pid ∧ y.pid < m.next) ∧ (y.state = 1 ∨ y.state = 2 ∨ y.state = 3) ∧ y.reg 0 = 0) ∧ w1 = wx)
  case first =>
    as_aux_lemma =>
      have d1 := Bool.eq_false_or_eq_true (decide (y.pid < 1))
      have d2 := Bool.eq_false_or_eq_true (decide (m.next ≤ y.pid))
      have d3 := Bool.eq_false_or_eq_true (y.state != 1)
      clear p1 p93 p94 p95 m4
      rcases d1 with d1 | d1
      · clear d2 d3
        go_wp2_with fail
        go_meet
        exact ⟨BvP.yes, rfl⟩
      · rcases d2 with d2 | d2
        · clear d3
          go_wp2_with fail
          go_meet
          exact ⟨BvP.yes, rfl⟩
        · have HPid := Lib.hid (show 1 ≤ y.pid ∧ y.pid < m.next by have := of_decide_eq_false d1; have := of_decide_eq_false d2; omega)
          rcases d3 with d3 | d3
          · cases waits
            · cases dead
              · go_wp2_with fail
                go_meet
                exact ⟨BvP.yes, rfl⟩
              · go_wp2_with fail
                go_meet
                exact ⟨BvP.of fun h => ⟨HPid.out, .inr (.inr (HDD.out.1 (by first | rfl | trivial))), by simpa using h⟩, rfl⟩
            · go_wp2_with fail
              go_meet
              exact ⟨BvP.of fun h => ⟨HPid.out, .inr (.inl (HWW.out.1 (by first | rfl | trivial))), by simpa using h⟩, rfl⟩
          · have HS1 := Lib.hid (show y.state = 1 by simpa using d3)
            go_wp2_with fail
            go_meet
            exact ⟨BvP.of fun h => ⟨HPid.out, .inl HS1.out, by simpa using h⟩, rfl⟩
  case rest =>
    obtain ⟨⟨b47, rfl, hb47⟩, rfl⟩ := hcut
    have HB47 := Lib.hid hb47
    clear hb47
    cases b47 with
    | true =>
      go_wp2_with fail
      go_ret
      exact ⟨⟨false, rfl, fun h => by cases h⟩, xa⟩
    | false =>
      go_upto_region 5 with fail
      go_cut [60] (fun s wx => BvP s (LivesP d.pr y.parent ∨ (y.state ≠ 3 ∧ y.parent = 0)) ∧ Ext w1 wx)
      case first =>
        as_aux_lemma =>
          clear p0 p2 p3 p93 p94 p95 m6 m4
          go_wp2_with (first
            | (refine wp_ld_mac (.tmp 2) rfl rfl w.heap.size _ 30 rfl bm rfl ?_)
            | (go_at_call 52; refine (HL.out _ _ h1).mono ?_; rintro e w2 ⟨⟨b2, rfl, hb2⟩, x2⟩; have HB2 := Lib.hid hb2; clear hb2; have p1' := x2.keep p1; clear p1; rcases b2 with _ | _ <;> rcases dead with _ | _))
          · go_meet
            exact ⟨BvP.of fun h => .inr ⟨HDD.out.2 (by first | rfl | trivial), by simpa using h⟩, x2⟩
          · go_meet
            exact ⟨BvP.yes, x2⟩
          · go_meet
            exact ⟨BvP.of fun h => .inl (HB2.out (by first | rfl | trivial)), x2⟩
          · go_meet
            exact ⟨BvP.of fun h => .inl (HB2.out (by first | rfl | trivial)), x2⟩
      case rest =>
        obtain ⟨⟨b60, rfl, hb60⟩, x5⟩ := hcut
        have HB60 := Lib.hid hb60
        clear hb60
        clear p0 p1 p2 p3 p93 p94 p95 m6 m4
        obtain ⟨p0, p1, p2, p3, p93, p94, p95, m6, m4⟩ := CF.out _ x5
        cases b60 with
        | true =>
          go_wp2_with fail
          go_ret
          exact ⟨⟨false, rfl, fun h => by cases h⟩, xa.trans x5⟩
        | false =>
          go_upto_region 7 with fail
          go_cut [93] (fun s wx => BvP s (((y.state = 2 ∧ 1 ≤ y.why ∧ y.why ≤ 5) ∨ (y.state ≠ 2 ∧ y.why = 0 ∧ y.num = 0)) ∧ (y.state = 3 ∨ y.code = 0)) ∧ wc = wx)
          case first =>
            as_aux_lemma =>
              have d1 := Bool.eq_false_or_eq_true (y.why != 0)
              have d2 := Bool.eq_false_or_eq_true (decide (y.why < 0))
              have d3 := Bool.eq_false_or_eq_true (decide (5 < y.why))
              have d4 := Bool.eq_false_or_eq_true (y.num != 0)
              clear p0 p1 p2 p3 m6 m4
              cases waits
              · rcases d1 with d1 | d1
                · clear d2 d3 d4
                  go_wp2_with fail
                  go_meet
                  exact ⟨BvP.yes, rfl⟩
                · have HW0 := Lib.hid (show y.why = 0 by simpa using d1)
                  rcases d2 with d2 | d2
                  · clear d3 d4
                    go_wp2_with fail
                    go_meet
                    exact ⟨BvP.yes, rfl⟩
                  · rcases d3 with d3 | d3
                    · clear d4
                      go_wp2_with fail
                      go_meet
                      exact ⟨BvP.yes, rfl⟩
                    · rcases d4 with d4 | d4
                      · go_wp2_with fail
                        go_meet
                        exact ⟨BvP.yes, rfl⟩
                      · have HN0 := Lib.hid (show y.num = 0 by simpa using d4)
                        cases dead
                        · go_wp2_with fail
                          go_meet
                          exact ⟨BvP.of fun h => ⟨.inr ⟨HWW.out.2 (by first | rfl | trivial), HW0.out, HN0.out⟩, .inr (by simpa using h)⟩, rfl⟩
                        · go_wp2_with fail
                          go_meet
                          exact ⟨BvP.of fun h => ⟨.inr ⟨HWW.out.2 (by first | rfl | trivial), HW0.out, HN0.out⟩, .inl (HDD.out.1 (by first | rfl | trivial))⟩, rfl⟩
              · rcases d1 with d1 | d1
                · have HW0 := Lib.hid (show y.why ≠ 0 by simpa using d1)
                  rcases d2 with d2 | d2
                  · clear d3 d4
                    go_wp2_with fail
                    go_meet
                    exact ⟨BvP.yes, rfl⟩
                  · have HW1 := Lib.hid (of_decide_eq_false d2)
                    rcases d3 with d3 | d3
                    · clear d4
                      go_wp2_with fail
                      go_meet
                      exact ⟨BvP.yes, rfl⟩
                    · have HW2 := Lib.hid (of_decide_eq_false d3)
                      clear d4
                      have HWy := Lib.hid (show 1 ≤ y.why ∧ y.why ≤ 5 by have := HW0.out; have := HW1.out; have := HW2.out; omega)
                      cases dead
                      · go_wp2_with fail
                        go_meet
                        exact ⟨BvP.of fun h => ⟨.inl ⟨HWW.out.1 (by first | rfl | trivial), HWy.out⟩, .inr (by simpa using h)⟩, rfl⟩
                      · go_wp2_with fail
                        go_meet
                        exact ⟨BvP.of fun h => ⟨.inl ⟨HWW.out.1 (by first | rfl | trivial), HWy.out⟩, .inl (HDD.out.1 (by first | rfl | trivial))⟩, rfl⟩
                · clear d2 d3 d4
                  go_wp2_with fail
                  go_meet
                  exact ⟨BvP.yes, rfl⟩
          case rest =>
            obtain ⟨⟨b93, rfl, hb93⟩, rfl⟩ := hcut
            have HB93 := Lib.hid hb93
            clear hb93
            cases b93 with
            | true =>
              go_wp2_with fail
              go_ret
              exact ⟨⟨false, rfl, fun h => by cases h⟩, xa.trans x5⟩
            | false =>
              clear p0 p1 p2 p3 p93 p94 p95 m6 m4
              have bp5 := bp.ext x5
              go_wp2_with (refine wp_ld_space (.tmp 94) rfl rfl (w.heap.size + 1) 72 y rfl bp5 ?_)
              go_loopw [96] (fun i wx => ∃ j : Nat, j ≤ 16 ∧ i = .int .i64 j ∧ Ext w1 wx ∧ ∀ q < j, PageP m d y q) (fun i _ => 16 - (intOf i).toNat)
              case atStart => exact ⟨0, by omega, rfl, x5, fun q h => by omega⟩
              case round =>
                clear x5 bp5
                obtain ⟨j, hj, rfl, xj, hpg⟩ := hrel
                have HPG := Lib.hid hpg
                clear hpg
                by_cases hj2 : j < 16
                · have hji : (j : Int) < 16 := by omega
                  have HPN := Lib.hid (show PageP m d y j → ∀ q < j + 1, PageP m d y q from fun h q hq => by
                    by_cases e : q < j
                    · exact HPG.out q e
                    · obtain rfl : q = j := by omega
                      exact h)
                  unfold PageP at HPN
                  go_upto_region 12 with (refine wp_idx_pte (.tmp 95) (.tmp 96) rfl rfl y j rfl rfl hj2 ?_)
                  clear HPG
                  generalize y.pis j = ia at *
                  generalize y.pwr j = iw at *
                  generalize y.pfr j = ifr at *
                  have bq := Box.new wr 65 #[.bool ia, .bool iw, .int .i64 ifr]
                  have xq := xj.alloc (.cells #[.bool ia, .bool iw, .int .i64 ifr] 65)
                  generalize wr.alloc (.cells #[.bool ia, .bool iw, .int .i64 ifr] 65) = wq at *
                  have q0 := bq.cell 0
                  have q1 := bq.cell 1
                  have q2 := bq.cell 2
                  go_cut [9] (fun s wx => (∃ b, s = .bool b ∧ (b = true → ia = false ∧ iw = false ∧ ifr = 0)) ∧ wq = wx)
                  case first =>
                    as_aux_lemma =>
                      clear HPN
                      cases ia <;> cases iw <;> go_wp2_with fail
                      all_goals
                        go_meet
                        exact ⟨⟨_, rfl, fun h => by first | (cases h; done) | (refine ⟨?_, ?_, ?_⟩ <;> first | rfl | trivial | assumption | omega | (simpa using h))⟩, rfl⟩
                  case rest =>
                    obtain ⟨⟨b9, rfl, hb9⟩, rfl⟩ := hcut
                    have HB9 := Lib.hid hb9
                    clear hb9
                    have m4 := (CF.out _ xq).2.2.2.2.2.2.2.2
                    have bmq := bm.ext xq
                    have h2 := h1.ext xq
                    go_upto_region 13 with fail
                    go_cut [135] (fun s wx => BvP s ((ia = false ∧ iw = false ∧ ifr = 0) ∨ (ia = true ∧ y.state ≠ 3 ∧ 0 ≤ ifr ∧ ifr < (m.fr.n : Int) ∧ usersK d.pr ifr d.pr.length = 1)) ∧ Ext wq wx)
                    case first =>
                      as_aux_lemma =>
                        clear HPN
                        have dA := Bool.eq_false_or_eq_true (decide (ifr < 0))
                        have dB := Bool.eq_false_or_eq_true (decide ((m.fr.n : Int) ≤ ifr))
                        cases ia
                        · clear dA dB
                          cases b9
                          · go_wp2_with fail
                            go_meet
                            exact ⟨BvP.yes, Ext.refl _⟩
                          · go_wp2_with fail
                            go_meet
                            exact ⟨BvP.of fun h => .inl (HB9.out (by first | rfl | trivial)), Ext.refl _⟩
                        · cases dead
                          · rcases dA with dA | dA
                            · clear dB
                              go_wp2_with fail
                              go_meet
                              exact ⟨BvP.yes, Ext.refl _⟩
                            · have HA := Lib.hid (of_decide_eq_false dA)
                              rcases dB with dB | dB
                              · go_wp2_with fail
                                go_meet
                                exact ⟨BvP.yes, Ext.refl _⟩
                              · have HBb := Lib.hid (of_decide_eq_false dB)
                                go_wp2_with (first
                                  | (refine wp_ld_mac_g (.tmp 2) rfl rfl w.heap.size m 30 rfl bmq ?_)
                                  | (go_at_call 53; refine (HU.out _ _ h2).mono ?_; rintro e w2 ⟨rfl, x2⟩))
                                go_meet
                                exact ⟨BvP.of fun h => .inr ⟨by first | rfl | trivial, HDD.out.2 (by first | rfl | trivial), by have := HA.out; omega, by have := HBb.out; omega, by have h' : ((usersK d.pr ifr d.pr.length : Nat) : Int) = 1 := (by simpa using h); omega⟩, x2⟩
                          · clear dA dB
                            go_wp2_with fail
                            go_meet
                            exact ⟨BvP.yes, Ext.refl _⟩
                    case rest =>
                      obtain ⟨⟨b135, rfl, hb135⟩, x9⟩ := hcut
                      have HB135 := Lib.hid hb135
                      clear hb135
                      cases b135 with
                      | true =>
                        go_wp2_with fail
                        go_ret
                        exact ⟨⟨false, rfl, fun h => by cases h⟩, xa.trans (xq.trans x9)⟩
                      | false =>
                        go_wp2_with fail
                        go_roundw
                        case rel => exact ⟨j + 1, by omega, by go_num, xq.trans x9, HPN.out (HB135.out (by first | rfl | trivial))⟩
                        case measure => simp [intOf]; omega
                · have HJ16 := Lib.hid (show j = 16 by omega)
                  have hjn : ¬ (j : Int) < 16 := by omega
                  have bp5 := bp.ext xj
                  go_wp2_with (refine wp_ld_fds (.tmp 137) rfl rfl (w.heap.size + 1) 72 y rfl bp5 ?_)
                  go_loopw [139] (fun i wx => ∃ j : Nat, j ≤ 8 ∧ i = .int .i64 j ∧ Ext w1 wx ∧ ∀ q < j, FdP d.pi (y.fk q) (y.fn q) (y.fp q) ∧ (y.state = 3 → y.fk q = 0)) (fun i _ => 8 - (intOf i).toNat)
                  case atStart => exact ⟨0, by omega, rfl, xj, fun q h => by omega⟩
                  case round =>
                    clear xj bp5 hjn
                    obtain ⟨j2, hj, rfl, xj, hfd⟩ := hrel
                    have HFD := Lib.hid hfd
                    clear hfd
                    by_cases hj2 : j2 < 8
                    · have hji : (j2 : Int) < 8 := by omega
                      have HFN := Lib.hid (show (FdP d.pi (y.fk j2) (y.fn j2) (y.fp j2) ∧ (y.state = 3 → y.fk j2 = 0)) → ∀ q < j2 + 1, FdP d.pi (y.fk q) (y.fn q) (y.fp q) ∧ (y.state = 3 → y.fk q = 0) from fun h q hq => by
                        by_cases e : q < j2
                        · exact HFD.out q e
                        · obtain rfl : q = j2 := by omega
                          exact h)
                      go_upto_region 19 with (refine wp_idx_fd (.tmp 138) (.tmp 139) rfl rfl y j2 rfl rfl hj2 ?_)
                      clear HFD
                      obtain ⟨ik, hik⟩ : ∃ x, x = y.fk j2 := ⟨_, rfl⟩
                      obtain ⟨ifn, hifn⟩ : ∃ x, x = y.fn j2 := ⟨_, rfl⟩
                      obtain ⟨ifp, hifp⟩ : ∃ x, x = y.fp j2 := ⟨_, rfl⟩
                      have HFN2 := Lib.hid (fun (h : FdP d.pi ik ifn ifp ∧ (y.state = 3 → ik = 0)) => HFN.out (by rw [← hik, ← hifn, ← hifp]; exact h))
                      clear HFN
                      rw [← hik, ← hifn, ← hifp]
                      clear hik hifn hifp
                      have bq := Box.new wr 69 #[.int .i64 ik, .int .i64 ifn, .int .i64 ifp]
                      have xq := xj.alloc (.cells #[.int .i64 ik, .int .i64 ifn, .int .i64 ifp] 69)
                      generalize wr.alloc (.cells #[.int .i64 ik, .int .i64 ifn, .int .i64 ifp] 69) = wq at *
                      have q0 : wq.cell? ⟨wr.heap.size, 0, none⟩ = some (.int .i64 ik) := bq.cell 0
                      have q1 := bq.cell 1
                      have q2 := bq.cell 2
                      have bmq := bm.ext xq
                      have h2 := h1.ext xq
                      go_cut [153] (fun s wx => BvP s (FdP d.pi ik ifn ifp ∧ (y.state = 3 → ik = 0)) ∧ Ext wq wx)
                      case first =>
                        as_aux_lemma =>
                          clear HFN2
                          go_wp2_with (first
                            | (refine wp_ld_mac (.tmp 2) rfl rfl w.heap.size _ 30 rfl bmq rfl ?_)
                            | (go_at_call 54; refine (HF.out _ _ _ _ h2).mono ?_; rintro e w2 ⟨⟨b2, rfl, hb2⟩, x2⟩; have HB2 := Lib.hid hb2; clear hb2; have q0' := x2.keep q0; clear q0; rcases b2 with _ | _ <;> rcases dead with _ | _))
                          · go_meet
                            exact ⟨BvP.yes, x2⟩
                          · go_meet
                            exact ⟨BvP.yes, x2⟩
                          · go_meet
                            exact ⟨BvP.of fun h => ⟨HB2.out (by first | rfl | trivial), fun h3 => absurd h3 (HDD.out.2 (by first | rfl | trivial))⟩, x2⟩
                          · go_meet
                            exact ⟨BvP.of fun h => ⟨HB2.out (by first | rfl | trivial), fun _ => by simpa using h⟩, x2⟩
                      case rest =>
                        obtain ⟨⟨b153, rfl, hb153⟩, x9⟩ := hcut
                        have HB153 := Lib.hid hb153
                        clear hb153
                        cases b153 with
                        | true =>
                          go_wp2_with fail
                          go_ret
                          exact ⟨⟨false, rfl, fun h => by cases h⟩, xa.trans (xq.trans x9)⟩
                        | false =>
                          go_wp2_with fail
                          go_roundw
                          case rel => exact ⟨j2 + 1, by omega, by go_num, xq.trans x9, HFN2.out (HB153.out (by first | rfl | trivial))⟩
                          case measure => simp [intOf]; omega
                    · have hjn : ¬ (j2 : Int) < 8 := by omega
                      have HJ8 := Lib.hid (show j2 = 8 by omega)
                      go_wp2_with fail
                      go_ret
                      refine ⟨⟨true, rfl, fun _ => ?_⟩, xa.trans xj⟩
                      obtain ⟨a1, a2, a3⟩ := HB47.out (by first | rfl | trivial)
                      obtain ⟨c1, c2⟩ := HB93.out (by first | rfl | trivial)
                      exact ⟨a1, a2, a3, HB60.out (by first | rfl | trivial), c1, c2, fun q hq => HPG.out q (by rw [HJ16.out]; exact hq), fun q hq => HFD.out q (by rw [HJ8.out]; exact hq)⟩
end Go.Proofs.YtkokmnaicfdjaaaGreatDoor
/- The document's machines, point by point: Check tells that a machine may be. -/
namespace Go.Proofs.YtkokmnaicfdjaaaGreatDoor
set_option linter.unusedVariables false
set_option linter.unusedSimpArgs false
open Go.RowKit

def CheckS (m : Mac) (d : MacD) (e : Ending) : Prop := ∃ n : Int, e = .returned (.int .i64 n) ∧ (n = 0 → StateOk m d)
set_option maxHeartbeats 40000000 in
set_option maxRecDepth 100000 in
theorem rcheck_ok (m : Mac) (d : MacD) (w : World) (h : MacIn w m d) (hrn : m.pr.n ≤ 1000) (hpn : m.pi.n ≤ 1000) :
    Calls Tryz.prog 9 #[.agg m.cells] w fun e w' => CheckS m d e ∧ Ext w w' := by
  have HP := Lib.hid (fun y w h => rprocess_ok m d y w h hrn hpn)
  have HDI := Lib.hid (fun w h => rdisk_any m d w h)
  obtain ⟨hf1, hf2⟩ := h.fr.strs
  obtain ⟨hr1, hr2⟩ := h.pr
  obtain ⟨hi1, hi2⟩ := h.pi.wrs
  have hfk := h.frk.2.1
  have hrk := h.prk.2.1
  have hik := h.pik.2.1
  unfold maxLen at hfk hrk hik
  have HF1 := Lib.hid hf1
  have HR1 := Lib.hid hr1
  have HI1 := Lib.hid hi1
  have hz := str_size
  clear hf1 hr1 hi1
  go_enter Tryz.func9, Tryz.ntmps9
  go_upto_region 1 with fail
  have xa : Ext w (w.alloc (.cells m.cells 30)) := (Ext.refl _).alloc _
  have bm := Box.new w 30 m.cells
  generalize w.alloc (.cells m.cells 30) = w1 at *
  have HM := Lib.hid (h.ext xa)
  clear h
  obtain ⟨k0, k1, k2, k3, k4, k5, k6, k7, k8, k9, k10, k11, k12, k13, k14, k15, k16⟩ := mac_cells bm
  clear k0 k11 k12 k13 k14 k15 k16
  go_upto_region 2 with fail
  go_cut [56] (fun s wx => BvP s (NumsOk m) ∧ w1 = wx)
  case first =>
    clear k4 k5 k7 k8 k10
    go_wp2_with fail
    all_goals
      go_meet
      first
        | exact ⟨BvP.yes, rfl⟩
        | exact ⟨BvP.of fun h => by
            simp only [Bool.or_eq_false_iff, decide_eq_false_iff_not] at h
            exact ⟨by omega, by omega, by omega, by omega, by omega⟩, rfl⟩
  case rest =>
  obtain ⟨⟨b56, rfl, hb56⟩, rfl⟩ := hcut
  have HB56 := Lib.hid hb56
  clear hb56
  cases b56 with
  | true =>
    go_wp2_with fail
    go_ret
    exact ⟨⟨2, rfl, fun h => by omega⟩, xa⟩
  | false =>
  clear k1 k2 k3 k6 k9
  go_upto_region 4 with fail
  go_cut [66] (fun s wx => BvP s (1 ≤ m.fr.n ∧ m.fr.n ≤ 64) ∧ w1 = wx)
  case first =>
    go_wp2_with fail
    all_goals
      go_meet
      first
        | exact ⟨BvP.yes, rfl⟩
        | exact ⟨BvP.of fun h => by
            simp only [Bool.or_eq_false_iff, decide_eq_false_iff_not] at h
            omega, rfl⟩
  case rest =>
  obtain ⟨⟨b66, rfl, hb66⟩, rfl⟩ := hcut
  have HB66 := Lib.hid hb66
  clear hb66
  cases b66 with
  | true =>
    go_wp2_with fail
    go_ret
    exact ⟨⟨6, rfl, fun h => by omega⟩, xa⟩
  | false =>
  go_wp2_with fail
  obtain ⟨fl, hfl⟩ : ∃ x, x = d.fr := ⟨_, rfl⟩
  rw [← hfl] at hf2 HF1
  have HFL := Lib.hid hfl
  clear hfl
  generalize m.fr.A = fA at *
  go_loop [70] (fun i => ∃ j : Nat, j ≤ m.fr.n ∧ i = .int .i64 j ∧ ∀ b ∈ fl.take j, b.length = 128) (fun i => m.fr.n - (intOf i).toNat)
  case atStart => exact ⟨0, by omega, rfl, by simp⟩
  case round =>
    obtain ⟨j, hj, rfl, hall⟩ := hrel
    have HALL := Lib.hid hall
    clear hall
    by_cases hlt : j < m.fr.n
    · obtain ⟨b, o, rfl, hcell⟩ := hf2 (by omega)
      have c1 := xa.keep (hcell j (by rw [← HF1.out]; exact hlt))
      have HAN := Lib.hid (fun (h : (fl[j]'(by rw [← HF1.out]; exact hlt)).length = 128) => show ∀ b ∈ fl.take (j + 1), b.length = 128 from fun b hb => by
        rw [List.take_succ_eq_append_getElem (by rw [← HF1.out]; exact hlt)] at hb
        rcases List.mem_append.1 hb with hb | hb
        · exact HALL.out b hb
        · rw [List.mem_singleton.1 hb]; exact h)
      generalize fl[j]'(by rw [← HF1.out]; exact hlt) = s at *
      have hjn : (j : Int) < (m.fr.n : Int) := by omega
      clear hcell
      by_cases hl : s.length = 128
      · have hl' : ((s.length : Int) != 128) = false := by rw [hl]; rfl
        have HAM := Lib.hid (HAN.out hl)
        clear hl
        go_wp2_with fail
        go_round
        case rel => exact ⟨j + 1, by omega, by go_num, HAM.out⟩
        case measure => simp [intOf]; omega
      · have hl' : ((s.length : Int) != 128) = true := by simp; omega
        go_wp2_with fail
        go_ret
        exact ⟨⟨3, rfl, fun h => by omega⟩, xa⟩
    · obtain rfl : j = m.fr.n := by omega
      have HFA := Lib.hid (show ∀ b ∈ d.fr, b.length = 128 by
        have h := HALL.out
        rw [List.take_of_length_le (by rw [← HF1.out]; exact Nat.le_refl _), HFL.out] at h
        exact h)
      clear HALL
      by_cases h8 : 8 < m.pr.n
      · go_wp2_with fail
        go_ret
        exact ⟨⟨6, rfl, fun h => by omega⟩, xa⟩
      · go_wp2_with fail
        clear k4 k5 k7 k8 k10
        have HPL := Lib.hid (show ∀ k (h : k < d.pr.length), ProcsK m d k → ProcOk m d d.pr[k] → (0 < k → (d.pr[k - 1]'(by omega)).pid < d.pr[k].pid) → ProcsK m d (k + 1) from fun k h h1 h2 h3 i hi hik => by
          by_cases e : i < k
          · exact h1 i hi e
          · obtain rfl : i = k := by omega
            exact ⟨h2, h3⟩)
        obtain ⟨l, hll⟩ : ∃ x, x = d.pr := ⟨_, rfl⟩
        rw [← hll] at hr2 HR1
        have HLL := Lib.hid hll
        clear hll
        generalize hrA : m.pr.A = A at hr2 ⊢
        have HRA := Lib.hid hrA
        clear hrA
        go_loopw [85] (fun i wx => ∃ k : Nat, k ≤ m.pr.n ∧ i = .int .i64 k ∧ Ext w1 wx ∧ ProcsK m d k) (fun i _ => m.pr.n - (intOf i).toNat)
        case atStart => exact ⟨0, by omega, rfl, Ext.refl _, fun i h hk => by omega⟩
        case round =>
          obtain ⟨k, hk, rfl, xk, hprk⟩ := hrel
          have HPRK := Lib.hid hprk
          clear hprk
          by_cases hlt : k < m.pr.n
          · obtain ⟨b, o, rfl, hcell⟩ := hr2 (by omega)
            have hlk : k < l.length := by rw [← HR1.out]; exact hlt
            have r1 := range_ext (pr_range hcell hlk) (xa.trans xk)
            have e0 : 0 < k → wr.cell? ⟨b, o + (k - 1) * 96, none⟩ = some (.int .i64 (l[k - 1]'(by omega)).pid) := fun h => (xa.trans xk).keep (pr_range hcell (k := k - 1) (by omega) 0 _ rfl)
            clear hcell
            have hkn : (k : Int) < (m.pr.n : Int) := by omega
            have HNX := Lib.hid (show ProcOk m d l[k] → (0 < k → (l[k - 1]'(by omega)).pid < l[k].pid) → ProcsK m d (k + 1) from by
              have he := HLL.out
              subst he
              exact HPL.out k hlk HPRK.out)
            generalize l[k] = y at *
            generalize hprv : l[k - 1]'(by omega) = prv at *
            clear hprv
            go_upto_region 17 with (first
              | (refine wp_ld_pr (.tmp 88) rfl rfl b (o + k * 96) y rfl r1 ?_)
              | (refine wp_st_pr (.tmp 7) (.tmp 89) rfl rfl wr.heap.size y _ 72 rfl rfl (Box.new _ _ _) rfl ?_; intro w2 b2 g2))
            have z2 : Ext wr w2 := ((Ext.refl wr).alloc _).grown g2 (fun j e => by cases e; exact Nat.le_refl _)
            have x2 := xk.trans z2
            have c0 : ∀ x : Later w2, x.now.cell? ⟨wr.heap.size, 0, none⟩ = some (.int .i64 y.pid) := fun x => (b2.ext x.ext).cell 0
            have k5 : ∀ x : Later w2, x.now.cell? ⟨w.heap.size, 5, none⟩ = some (.slice (some ⟨b, o, none⟩) m.pr.n m.pr.c) := fun x => by rw [← HRA.out]; exact ((bm.ext x2).ext x.ext).cell 5
            have rm : ∀ wx, (∃ x : Later w2, wx = x.now) → wx.rangeAt w.heap.size 0 m.cells.toList := fun wx ⟨x, hx⟩ => by rw [hx]; exact mac_range ((bm.ext x2).ext x.ext)
            have rp : ∀ wx, (∃ x : Later w2, wx = x.now) → wx.rangeAt wr.heap.size 0 (prL y) := fun wx ⟨x, hx⟩ => by rw [hx]; exact pr_range0 (b2.ext x.ext)
            have RM := Lib.hid rm
            have RP := Lib.hid rp
            have HPC : ∀ x : Later w2, Hid (Calls Tryz.prog 28 #[.agg m.cells, .agg (prL y).toArray] x.now fun e w' => ProcR m d y e ∧ Ext x.now w') := fun x => Lib.hid (HP.out y _ (HM.out.ext (x2.trans x.ext)))
            clear r1 g2 rm rp
            have E0 : 0 < k → ∀ x : Later w2, x.now.cell? ⟨b, o + (k - 1) * 96, none⟩ = some (.int .i64 prv.pid) := fun h x => x.ext.keep (z2.keep (e0 h))
            clear e0
            by_cases n3 : 0 < k
            · have d3 : decide ((0 : Int) < (k : Int)) = true := by simp; omega
              have E0' := E0 n3
              clear E0
              have E0 := E0'
              clear E0'
              have kk1 : (k : Int) - 1 = ((k - 1 : Nat) : Int) := by omega
              have kk2 : IntKind.i64.wrap ((k : Int) - 1) = ((k - 1 : Nat) : Int) := by rw [IntKind.wrap_i64]; omega
              have kk3 : ((k - 1 : Nat) : Int) < (m.pr.n : Int) := by omega
              by_cases n4 : y.pid ≤ prv.pid
              · have d4 : decide (y.pid ≤ prv.pid) = true := decide_eq_true n4
                simp only [Act.put]
                refine wp_region_later_tail 17 (by kernel_rfl) (by kernel_rfl) ?_
                simp only [List.take_succ_cons, List.take_zero, List.drop_succ_cons, List.drop_zero]
                repeat (first
                  | (go_big_quiet_want; refine quiet_ld_mac (.tmp 1) rfl w.heap.size rfl m RM.out ?_; simp only [Act.put, List.setIfInBounds_toArray, List.set_cons_zero, List.set_cons_succ]; go_big_quiet_on)
                  | (go_big_quiet_want; refine quiet_ld_pr (.tmp 7) rfl wr.heap.size rfl y RP.out ?_; simp only [Act.put, List.setIfInBounds_toArray, List.set_cons_zero, List.set_cons_succ]; go_big_quiet_on)
                  | go_big_quiet_step (fail))
                refine wpQuiet_nil ?_
                rintro w3 ⟨x3, rfl⟩
                clear c0 k5 E0
                go_wp2_with fail
                go_ret
                exact ⟨⟨3, rfl, fun h => by omega⟩, (xa.trans x2).trans x3.ext⟩
              · have d4 : decide (y.pid ≤ prv.pid) = false := decide_eq_false n4
                simp only [Act.put]
                refine wp_region_later_tail 17 (by kernel_rfl) (by kernel_rfl) ?_
                simp only [List.take_succ_cons, List.take_zero, List.drop_succ_cons, List.drop_zero]
                repeat (first
                  | (go_big_quiet_want; refine quiet_ld_mac (.tmp 1) rfl w.heap.size rfl m RM.out ?_; simp only [Act.put, List.setIfInBounds_toArray, List.set_cons_zero, List.set_cons_succ]; go_big_quiet_on)
                  | (go_big_quiet_want; refine quiet_ld_pr (.tmp 7) rfl wr.heap.size rfl y RP.out ?_; simp only [Act.put, List.setIfInBounds_toArray, List.set_cons_zero, List.set_cons_succ]; go_big_quiet_on)
                  | go_big_quiet_step (fail))
                refine wpQuiet_nil ?_
                rintro w3 ⟨x3, rfl⟩
                clear c0 k5 E0
                have HLT := Lib.hid (show prv.pid < y.pid by omega)
                go_wp2_with (go_at_call 28; refine (HPC x3).out.mono ?_; rintro e w4 ⟨⟨b4, rfl, hb4⟩, x4⟩; have HB4 := Lib.hid hb4; clear hb4; rcases b4 with _ | _)
                · go_ret
                  exact ⟨⟨3, rfl, fun h => by omega⟩, ((xa.trans x2).trans x3.ext).trans x4⟩
                · go_roundw
                  case rel => exact ⟨k + 1, by omega, by go_num, (x2.trans x3.ext).trans x4, HNX.out (HB4.out (by first | rfl | trivial)) (fun _ => HLT.out)⟩
                  case measure => simp [intOf]; omega
            · have d3 : decide ((0 : Int) < (k : Int)) = false := by simp; omega
              simp only [Act.put]
              refine wp_region_later_tail 17 (by kernel_rfl) (by kernel_rfl) ?_
              simp only [List.take_succ_cons, List.take_zero, List.drop_succ_cons, List.drop_zero]
              repeat (first
                | (go_big_quiet_want; refine quiet_ld_mac (.tmp 1) rfl w.heap.size rfl m RM.out ?_; simp only [Act.put, List.setIfInBounds_toArray, List.set_cons_zero, List.set_cons_succ]; go_big_quiet_on)
                | (go_big_quiet_want; refine quiet_ld_pr (.tmp 7) rfl wr.heap.size rfl y RP.out ?_; simp only [Act.put, List.setIfInBounds_toArray, List.set_cons_zero, List.set_cons_succ]; go_big_quiet_on)
                | go_big_quiet_step (fail))
              refine wpQuiet_nil ?_
              rintro w3 ⟨x3, rfl⟩
              clear c0 k5 E0
              go_wp2_with (go_at_call 28; refine (HPC x3).out.mono ?_; rintro e w4 ⟨⟨b4, rfl, hb4⟩, x4⟩; have HB4 := Lib.hid hb4; clear hb4; rcases b4 with _ | _)
              · go_ret
                exact ⟨⟨3, rfl, fun h => by omega⟩, ((xa.trans x2).trans x3.ext).trans x4⟩
              · go_roundw
                case rel => exact ⟨k + 1, by omega, by go_num, (x2.trans x3.ext).trans x4, HNX.out (HB4.out (by first | rfl | trivial)) (fun h => absurd h n3)⟩
                case measure => simp [intOf]; omega
          · obtain rfl : k = m.pr.n := by omega
            have HPR := Lib.hid (show ProcsK m d d.pr.length by
              have h := HPRK.out
              rw [HR1.out, HLL.out] at h
              exact h)
            have HPN := Lib.hid (show m.pr.n ≤ 8 by omega)
            have q8 : wr.cell? ⟨w.heap.size, 8, none⟩ = some (.slice m.pi.A m.pi.n m.pi.c) := (bm.ext xk).cell 8
            by_cases h64 : 64 < m.pi.n
            · go_wp2_with fail
              go_ret
              exact ⟨⟨6, rfl, fun h => by omega⟩, xa.trans xk⟩
            · go_wp2_with fail
              clear q8
              generalize wr = w5 at *
              have HPL2 := Lib.hid (show ∀ k (h : k < d.pi.length), PipesK m d.pi k → (1 ≤ d.pi[k].1 ∧ d.pi[k].1 < m.newPipe ∧ d.pi[k].2.length ≤ 64) → (0 < k → (d.pi[k - 1]'(by omega)).1 < d.pi[k].1) → PipesK m d.pi (k + 1) from fun k h h1 h2 h3 i hi hik => by
                by_cases e : i < k
                · exact h1 i hi e
                · obtain rfl : i = k := by omega
                  exact ⟨h2.1, h2.2.1, h2.2.2, h3⟩)
              obtain ⟨pl, hpl⟩ : ∃ x, x = d.pi := ⟨_, rfl⟩
              rw [← hpl] at hi2 HI1
              have HPLe := Lib.hid hpl
              clear hpl
              go_loopw [118] (fun i wx => ∃ k : Nat, k ≤ m.pi.n ∧ i = .int .i64 k ∧ Ext w1 wx ∧ PipesK m d.pi k) (fun i _ => m.pi.n - (intOf i).toNat)
              case atStart => exact ⟨0, by omega, rfl, xk, fun i h hk => by omega⟩
              case round =>
                clear xk
                obtain ⟨k, hk, rfl, xk, hpik⟩ := hrel
                have HPIK := Lib.hid hpik
                clear hpik
                by_cases hlt : k < m.pi.n
                · obtain ⟨b, o, hA, hcell⟩ := hi2 (by omega)
                  have hlk : k < pl.length := by rw [← HI1.out]; exact hlt
                  have e1 := (xa.trans xk).keep (hcell k hlk).1
                  have e2 := (xa.trans xk).keep (hcell k hlk).2
                  have e0 : 0 < k → wr.cell? ⟨b, o + (k - 1) * 2, none⟩ = some (.int .i64 (pl[k - 1]'(by omega)).1) := fun h => (xa.trans xk).keep (hcell (k - 1) (by omega)).1
                  have r8 : wr.cell? ⟨w.heap.size, 8, none⟩ = some (.slice m.pi.A m.pi.n m.pi.c) := (bm.ext xk).cell 8
                  have r9 : wr.cell? ⟨w.heap.size, 9, none⟩ = some (.int .i64 m.newPipe) := (bm.ext xk).cell 9
                  rw [hA] at r8
                  clear hcell
                  have hkn : (k : Int) < (m.pi.n : Int) := by omega
                  have HNX2 := Lib.hid (show (1 ≤ pl[k].1 ∧ pl[k].1 < m.newPipe ∧ pl[k].2.length ≤ 64) → (0 < k → (pl[k - 1]'(by omega)).1 < pl[k].1) → PipesK m d.pi (k + 1) from by
                    have he := HPLe.out
                    subst he
                    exact HPL2.out k hlk HPIK.out)
                  generalize pl[k] = y at *
                  generalize hprv : pl[k - 1]'(by omega) = prv at *
                  clear hprv
                  go_upto_region 25 with fail
                  have E1 : (wr.alloc (.cells #[.int .i64 y.1, .string (str y.2)] 59)).cell? ⟨w.heap.size, 8, none⟩ = some (.slice (some ⟨b, o, none⟩) m.pi.n m.pi.c) := ((Ext.refl wr).alloc _).keep r8
                  have E9 : (wr.alloc (.cells #[.int .i64 y.1, .string (str y.2)] 59)).cell? ⟨w.heap.size, 9, none⟩ = some (.int .i64 m.newPipe) := ((Ext.refl wr).alloc _).keep r9
                  have E0 : 0 < k → (wr.alloc (.cells #[.int .i64 y.1, .string (str y.2)] 59)).cell? ⟨b, o + (k - 1) * 2, none⟩ = some (.int .i64 prv.1) := fun h => ((Ext.refl wr).alloc _).keep (e0 h)
                  clear e0 e1 e2 r8 r9
                  by_cases n0 : y.1 < 1
                  · have d0 : decide (y.1 < 1) = true := decide_eq_true n0
                    clear E0
                    go_quiet (fail)
                    go_wp2_with fail
                    go_ret
                    exact ⟨⟨3, rfl, fun h => by omega⟩, (xa.trans xk).trans (((Ext.refl wr).alloc _).drewN _)⟩
                  · have d0 : decide (y.1 < 1) = false := decide_eq_false n0
                    by_cases n1 : m.newPipe ≤ y.1
                    · have d1 : decide (m.newPipe ≤ y.1) = true := decide_eq_true n1
                      clear E0
                      go_quiet (fail)
                      go_wp2_with fail
                      go_ret
                      exact ⟨⟨3, rfl, fun h => by omega⟩, (xa.trans xk).trans (((Ext.refl wr).alloc _).drewN _)⟩
                    · have d1 : decide (m.newPipe ≤ y.1) = false := decide_eq_false n1
                      by_cases n3 : 0 < k
                      · have d3 : decide ((0 : Int) < (k : Int)) = true := by simp; omega
                        have E0' := E0 n3
                        have kk1 : (k : Int) - 1 = ((k - 1 : Nat) : Int) := by omega
                        have kk2 : IntKind.i64.wrap ((k : Int) - 1) = ((k - 1 : Nat) : Int) := by rw [IntKind.wrap_i64]; omega
                        have kk3 : ((k - 1 : Nat) : Int) < (m.pi.n : Int) := by omega
                        clear E0
                        by_cases n4 : y.1 ≤ prv.1
                        · have d4 : decide (y.1 ≤ prv.1) = true := decide_eq_true n4
                          go_quiet (fail)
                          go_wp2_with fail
                          go_ret
                          exact ⟨⟨3, rfl, fun h => by omega⟩, (xa.trans xk).trans (((Ext.refl wr).alloc _).drewN _)⟩
                        · have d4 : decide (y.1 ≤ prv.1) = false := decide_eq_false n4
                          by_cases n2 : 64 < y.2.length
                          · have d2 : decide (64 < (y.2.length : Int)) = true := by simp; omega
                            go_quiet (fail)
                            go_wp2_with fail
                            go_ret
                            exact ⟨⟨3, rfl, fun h => by omega⟩, (xa.trans xk).trans (((Ext.refl wr).alloc _).drewN _)⟩
                          · have d2 : decide (64 < (y.2.length : Int)) = false := by simp; omega
                            have HN2 := Lib.hid (HNX2.out ⟨by omega, by omega, by omega⟩ (fun _ => by omega))
                            go_quiet (fail)
                            go_wp2_with fail
                            go_roundw
                            case rel => exact ⟨k + 1, by omega, by go_num, (xk.alloc _).drewN _, HN2.out⟩
                            case measure => simp [intOf]; omega
                      · have d3 : decide ((0 : Int) < (k : Int)) = false := by simp; omega
                        clear E0
                        by_cases n2 : 64 < y.2.length
                        · have d2 : decide (64 < (y.2.length : Int)) = true := by simp; omega
                          go_quiet (fail)
                          go_wp2_with fail
                          go_ret
                          exact ⟨⟨3, rfl, fun h => by omega⟩, (xa.trans xk).trans (((Ext.refl wr).alloc _).drewN _)⟩
                        · have d2 : decide (64 < (y.2.length : Int)) = false := by simp; omega
                          have HN2 := Lib.hid (HNX2.out ⟨by omega, by omega, by omega⟩ (fun h => absurd h n3))
                          go_quiet (fail)
                          go_wp2_with fail
                          go_roundw
                          case rel => exact ⟨k + 1, by omega, by go_num, (xk.alloc _).drewN _, HN2.out⟩
                          case measure => simp [intOf]; omega
                · obtain rfl : k = m.pi.n := by omega
                  have HPI := Lib.hid (show PipesK m d.pi d.pi.length by
                    have h := HPIK.out
                    rw [HI1.out, HPLe.out] at h
                    exact h)
                  have HPIN := Lib.hid (show m.pi.n ≤ 64 by omega)
                  obtain ⟨k0, k1, k2, k3, k4, k5, k6, k7, k8, k9, k10, k11, k12, k13, k14, k15, k16⟩ := mac_cells (bm.ext xk)
                  have bmk := bm.ext xk
                  clear k0 k1 k2 k3 k4 k5 k6 k8 k9 k11 k12 k13 k14 k15 k16
                  go_upto_region 28 with fail
                  go_cut [165] (fun s wx => BvP s (m.inn.length ≤ 65536 ∧ m.init.length ≤ 128) ∧ wr = wx)
                  case first =>
                    go_wp2_with fail
                    all_goals
                      go_meet
                      first
                        | exact ⟨BvP.yes, rfl⟩
                        | exact ⟨BvP.of fun h => by
                            simp only [Bool.or_eq_false_iff, decide_eq_false_iff_not] at h
                            omega, rfl⟩
                  case rest =>
                    obtain ⟨⟨b165, rfl, hb165⟩, rfl⟩ := hcut
                    have HB165 := Lib.hid hb165
                    clear hb165
                    cases b165 with
                    | true =>
                      go_wp2_with fail
                      go_ret
                      exact ⟨⟨6, rfl, fun h => by omega⟩, xa.trans xk⟩
                    | false =>
                      clear k7 k10
                      go_wp2_with (first
                        | (refine wp_ld_mac (.tmp 1) rfl rfl w.heap.size _ 30 rfl bmk rfl ?_)
                        | (go_at_call 29; refine (HDI.out _ (HM.out.ext xk)).mono ?_; rintro e w6 ⟨⟨n6, rfl, hn6⟩, x6⟩; have HN6 := Lib.hid hn6; clear hn6))
                      go_ret
                      refine ⟨⟨n6, rfl, fun h0 => ?_⟩, (xa.trans xk).trans x6⟩
                      exact ⟨⟨HB56.out (by first | rfl | trivial), HB66.out (by first | rfl | trivial), HFA.out, HPN.out, HPR.out, HPIN.out, HPI.out, HB165.out (by first | rfl | trivial)⟩, HN6.out h0⟩
end Go.Proofs.YtkokmnaicfdjaaaGreatDoor
/- state.Check on a machine that may be: what it asks of a process and of an open file. -/
namespace Go.Proofs.YtkokmnaicfdjaaaGreatDoor
set_option linter.unusedVariables false
set_option linter.unusedSimpArgs false
open Go.RowKit

section
variable {ops : Array Oper} {rest : List Oper} {o : Oper} {a : Act} {w : World} {Q : Exit → Act → World → Prop}
theorem pr_range1 {w : World} {g : Nat} {t : TypeId} {p : PrT} (h : Box w g t (prL p).toArray) : w.rangeAt g 0 (prL p) := fun j v hj => by
  rw [Nat.zero_add]; exact (h.cell j).trans (by rw [← hj]; simp)
theorem wp_ld_pr_g (x : Operand) (hw : Region.wanted o (yielded ops a.tmps) = true) (ho : o.op = .load 72 x) (g : Nat) (p : PrT) (t : TypeId) (hx : a.eval x = .pointer (some ⟨g, 0, none⟩))
    (hb : Box w g t (prL p).toArray) (hK : wpList Tryz.prog ops Q rest (a.put o.dst (.agg (prL p).toArray)) w) : wpList Tryz.prog ops Q (o :: rest) a w := by
  unfold wpList
  rw [if_pos hw]
  exact .inl (wp_load_mid _ x ho g 0 hx _ _ (pr_range1 hb) Tryz.underlying72 rfl (by rw [prL_len]; exact prSize) hK)
end
set_option maxHeartbeats 400000 in
set_option maxRecDepth 100000 in
theorem stlives_any (y : PrT) (w : World) :
    Calls Tryz.prog 129 #[.agg (prL y).toArray] w fun e w' => e = .returned (.bool (y.state == 1 || y.state == 2)) ∧ Ext w w' := by
  have b0 := Box.new w 72 (prL y).toArray
  have x0 := (Ext.refl w).alloc (.cells (prL y).toArray 72)
  go_enter Tryz.func129, Tryz.ntmps129
  go_upto_region 1 with fail
  generalize w.alloc (.cells (prL y).toArray 72) = w1 at *
  have c2 : w1.cell? ⟨w.heap.size, 2, none⟩ = some (.int .i64 y.state) := b0.cell 2
  clear b0
  rcases Bool.eq_false_or_eq_true (y.state == 1) with h1 | h1 <;> rcases Bool.eq_false_or_eq_true (y.state == 2) with h2 | h2 <;> go_wp2_with fail
  all_goals
    go_ret
    exact ⟨by rw [h1, h2]; rfl, x0⟩
set_option maxHeartbeats 1000000 in
set_option maxRecDepth 100000 in
theorem fields_ok (m : Mac) (d : MacD) (y : PrT) (w : World) (h : ProcOk m d y) :
    Calls Tryz.prog 90 #[.agg (prL y).toArray] w fun e w' => e = .returned (.bool true) ∧ Ext w w' := by
  have HL := Lib.hid (fun w => stlives_any y w)
  have b0 := Box.new w 72 (prL y).toArray
  have x0 := (Ext.refl w).alloc (.cells (prL y).toArray 72)
  have hreg := h.reg
  have hst := h.state
  have hwhy := h.why
  have hcode := h.code
  clear h
  go_enter Tryz.func90, Tryz.ntmps90
  go_upto_region 1 with fail
  generalize w.alloc (.cells (prL y).toArray 72) = w1 at *
  generalize w.heap.size = G at *
  have cf : ∀ wx, Ext w1 wx → wx.cell? ⟨G, 2, none⟩ = some (.int .i64 y.state) ∧ wx.cell? ⟨G, 3, none⟩ = some (.int .u32 0) ∧ wx.cell? ⟨G, 93, none⟩ = some (.int .u32 y.code) ∧ wx.cell? ⟨G, 94, none⟩ = some (.int .i64 y.why) ∧ wx.cell? ⟨G, 95, none⟩ = some (.int .u64 y.num) := fun wx x =>
    ⟨(b0.ext x).cell 2, by rw [← hreg]; exact (b0.ext x).cell 3, (b0.ext x).cell 93, (b0.ext x).cell 94, (b0.ext x).cell 95⟩
  have CF := Lib.hid cf
  clear cf hreg
  have HL2 := HL.out
  generalize y.state = s at *
  have HLs := Lib.hid HL2
  clear HL HL2
  generalize y.why = wy at *
  generalize y.num = nm at *
  generalize y.code = cd at *
  rcases hst with rfl | rfl | rfl
  · obtain ⟨rfl, rfl⟩ : wy = 0 ∧ nm = 0 := by omega
    obtain rfl : cd = 0 := by omega
    clear hwhy hcode
    go_wp2_with (first
      | (refine wp_ld_pr (.tmp 1) rfl rfl G 0 y rfl (pr_range1 b0) ?_)
      | (go_at_call 129; refine (HLs.out _).mono ?_; rintro e w2 ⟨rfl, x2⟩; obtain ⟨c2, c3, c93, c94, c95⟩ := CF.out _ x2))
    go_ret
    exact ⟨rfl, x0.trans x2⟩
  · obtain ⟨hw1, hw2⟩ : 1 ≤ wy ∧ wy ≤ 5 := by omega
    have e1 : decide (wy < 1) = false := by simp; omega
    have e2 : decide (5 < wy) = false := by simp; omega
    obtain rfl : cd = 0 := by omega
    clear hwhy hcode
    go_wp2_with (first
      | (refine wp_ld_pr (.tmp 1) rfl rfl G 0 y rfl (pr_range1 b0) ?_)
      | (go_at_call 129; refine (HLs.out _).mono ?_; rintro e w2 ⟨rfl, x2⟩; obtain ⟨c2, c3, c93, c94, c95⟩ := CF.out _ x2))
    go_ret
    exact ⟨rfl, x0.trans x2⟩
  · obtain ⟨rfl, rfl⟩ : wy = 0 ∧ nm = 0 := by omega
    clear hwhy hcode
    go_wp2_with (first
      | (refine wp_ld_pr (.tmp 1) rfl rfl G 0 y rfl (pr_range1 b0) ?_)
      | (go_at_call 129; refine (HLs.out _).mono ?_; rintro e w2 ⟨rfl, x2⟩; obtain ⟨c2, c3, c93, c94, c95⟩ := CF.out _ x2))
    go_ret
    exact ⟨rfl, x0.trans x2⟩
set_option maxHeartbeats 400000 in
set_option maxRecDepth 100000 in
theorem place1_any (i : Int) (s : ByteArray) (g : Nat) (id : Int) (w : World) (h : Box w g 3 #[.int .i64 id]) :
    Calls Tryz.prog 179 #[.agg #[.int .i64 i, .string s], .pointer (some ⟨g, 0, none⟩)] w fun e w' => e = .returned (.bool (i == id)) ∧ Ext w w' := by
  have x0 := (Ext.refl w).alloc (.cells #[.int .i64 i, .string s] 59)
  have c0 : (w.alloc (.cells #[.int .i64 i, .string s] 59)).cell? ⟨g, 0, none⟩ = some (.int .i64 id) := (h.ext x0).cell 0
  clear h
  go_enter Tryz.func179, Tryz.ntmps179
  go_wp2_with fail
  go_ret
  exact ⟨rfl, x0⟩
set_option maxHeartbeats 1000000 in
set_option maxRecDepth 100000 in
theorem pidx_yes (A : Option Addr) (n c : Nat) (l : List WrT) (g : Nat) (id : Int) (w : World) (hv : Wrs w A n l) (hn : n ≤ 1000) (hb : Box w g 3 #[.int .i64 id]) (hy : ∃ y ∈ l, y.1 = id) :
    Calls Tryz.prog 178 #[.slice A n c, .func (.func 179) #[] #[.pointer (some ⟨g, 0, none⟩)]] w fun e w' => (∃ k : Nat, k ≤ 1000 ∧ e = .returned (.int .i64 k)) ∧ Ext w w' := by
  have HP := Lib.hid (fun i s w h => place1_any i s g id w h)
  obtain ⟨rfl, hv2⟩ := hv
  have HY := Lib.hid hy
  clear hy
  go_enter Tryz.func178, Tryz.ntmps178
  go_wp2_with fail
  go_loopw [8] (fun i wx => ∃ k : Nat, k ≤ l.length ∧ i = .int .i64 k ∧ Ext w wx ∧ ∀ (j : Nat) (h : j < l.length), j < k → l[j].1 ≠ id) (fun i _ => l.length - (intOf i).toNat)
  case atStart => exact ⟨0, by omega, rfl, Ext.refl _, fun j h hk => by omega⟩
  case round =>
    obtain ⟨k, hk, rfl, xk, hno⟩ := hrel
    have HNO := Lib.hid hno
    clear hno
    by_cases hlt : k < l.length
    · obtain ⟨b, o, rfl, hcell⟩ := hv2 (by omega)
      have e1 := xk.keep (hcell k hlt).1
      have e2 := xk.keep (hcell k hlt).2
      have hki : (k : Int) < (l.length : Int) := by omega
      have hbk := hb.ext xk
      have HD := Lib.hid (fun (h : l[k].1 ≠ id) => show ∀ (j : Nat) (h : j < l.length), j < k + 1 → l[j].1 ≠ id from fun j hj hjk => by
        by_cases e : j < k
        · exact HNO.out j hj e
        · obtain rfl : j = k := by omega
          exact h)
      generalize l[k] = y at *
      clear hcell
      rcases Bool.eq_false_or_eq_true (y.1 == id) with hd | hd
      · go_wp2_with (go_at_call 179; refine (HP.out _ _ _ hbk).mono ?_; rintro e w2 ⟨rfl, x2⟩)
        go_ret
        exact ⟨⟨k, by omega, rfl⟩, xk.trans x2⟩
      · go_wp2_with (go_at_call 179; refine (HP.out _ _ _ hbk).mono ?_; rintro e w2 ⟨rfl, x2⟩)
        go_roundw
        case rel => exact ⟨k + 1, by omega, by go_num, xk.trans x2, HD.out (by simpa using hd)⟩
        case measure => simp [intOf]; omega
    · exfalso
      obtain ⟨y, hy, he⟩ := HY.out
      obtain ⟨j, hj, rfl⟩ := List.getElem_of_mem hy
      exact HNO.out j hj (by omega) he
set_option maxHeartbeats 1000000 in
set_option maxRecDepth 100000 in
theorem place_yes (m : Mac) (d : MacD) (id : Int) (w : World) (h : MacIn w m d) (hn : m.pi.n ≤ 1000) (hy : ∃ y ∈ d.pi, y.1 = id) :
    Calls Tryz.prog 132 #[.agg m.cells, .int .i64 id] w fun e w' => (∃ k : Nat, k ≤ 1000 ∧ e = .returned (.int .i64 k)) ∧ Ext w w' := by
  have hmf : ∀ (fn : Fn) (first cap : Array Value) (w : World), (Instr.makeFunc fn first cap).run Tryz.prog w = .ok (.func fn first cap) w := fun _ _ _ _ => rfl
  have x1 : Ext w (w.alloc (.cells m.cells 30)) := (Ext.refl _).alloc _
  have x2 := x1.alloc (.cells #[.int .i64 id] 3)
  have ba := (Box.new w 30 m.cells).ext ((Ext.refl _).alloc (.cells #[.int .i64 id] 3))
  have bi := Box.new (w.alloc (.cells m.cells 30)) 3 #[.int .i64 id]
  rw [World.size_alloc] at bi
  have q8 : ((w.alloc (.cells m.cells 30)).alloc (.cells #[.int .i64 id] 3)).cell? ⟨w.heap.size, 8, none⟩ = some (.slice m.pi.A m.pi.n m.pi.c) := ba.cell 8
  have HV := Lib.hid (h.pi.wrs.ext x2)
  have HP := Lib.hid (fun wx h1 h2 => pidx_yes m.pi.A m.pi.n m.pi.c d.pi (w.heap.size + 1) id wx h1 hn h2 hy)
  clear h hy x1
  go_enter Tryz.func132, Tryz.ntmps132
  go_upto_region 1 with fail
  generalize (w.alloc (.cells m.cells 30)).alloc (.cells #[.int .i64 id] 3) = w2 at *
  generalize w.heap.size = G at *
  go_wp2_with (go_at_call 178; refine (HP.out _ HV.out bi).mono ?_; rintro e w3 ⟨⟨k, hk, rfl⟩, x3⟩)
  go_ret
  exact ⟨⟨k, hk, rfl⟩, x2.trans x3⟩
end Go.Proofs.YtkokmnaicfdjaaaGreatDoor
/- state.Check on a machine that may be: parents, open files, numbers, frames, pipes, texts. -/
namespace Go.Proofs.YtkokmnaicfdjaaaGreatDoor
set_option linter.unusedVariables false
set_option linter.unusedSimpArgs false
open Go.RowKit

set_option maxHeartbeats 1000000 in
set_option maxRecDepth 100000 in
theorem parent1_any (q y : PrT) (g : Nat) (w : World) (h : Box w g 72 (prL y).toArray) :
    Calls Tryz.prog 131 #[.agg (prL q).toArray, .pointer (some ⟨g, 0, none⟩)] w fun e w' => e = .returned (.bool (q.pid == y.parent && (q.state == 1 || q.state == 2))) ∧ Ext w w' := by
  have HL := Lib.hid (fun w => stlives_any q w)
  have b0 := Box.new w 72 (prL q).toArray
  have x0 := (Ext.refl w).alloc (.cells (prL q).toArray 72)
  have c1 : (w.alloc (.cells (prL q).toArray 72)).cell? ⟨g, 1, none⟩ = some (.int .i64 y.parent) := (h.ext x0).cell 1
  clear h
  go_enter Tryz.func131, Tryz.ntmps131
  go_upto_region 1 with fail
  generalize w.alloc (.cells (prL q).toArray 72) = w1 at *
  have c0 : w1.cell? ⟨w.heap.size, 0, none⟩ = some (.int .i64 q.pid) := b0.cell 0
  rcases Bool.eq_false_or_eq_true (q.pid == y.parent) with h1 | h1
  · go_wp2_with (first
      | (refine wp_ld_pr_g (.tmp 2) rfl rfl w.heap.size q 72 rfl b0 ?_)
      | (go_at_call 129; refine (HL.out _).mono ?_; rintro e w2 ⟨rfl, x2⟩))
    go_ret
    exact ⟨by rw [h1]; rfl, x0.trans x2⟩
  · go_wp2_with fail
    go_ret
    exact ⟨by rw [h1]; rfl, x0⟩
set_option maxHeartbeats 1000000 in
set_option maxRecDepth 100000 in
theorem pridx_yes (A : Option Addr) (n c : Nat) (l : List PrT) (g : Nat) (p : PrT) (w : World) (hv : RowOf prL w A n l) (hn : n ≤ 1000) (hb : Box w g 72 (prL p).toArray) (hy : LivesP l p.parent) :
    Calls Tryz.prog 177 #[.slice A n c, .func (.func 131) #[] #[.pointer (some ⟨g, 0, none⟩)]] w fun e w' => (∃ k : Nat, k ≤ 1000 ∧ e = .returned (.int .i64 k)) ∧ Ext w w' := by
  have HP := Lib.hid (fun q w h => parent1_any q p g w h)
  obtain ⟨rfl, hv2⟩ := hv
  have HY := Lib.hid hy
  clear hy
  go_enter Tryz.func177, Tryz.ntmps177
  go_wp2_with fail
  go_loopw [8] (fun i wx => ∃ k : Nat, k ≤ l.length ∧ i = .int .i64 k ∧ Ext w wx ∧ ∀ (j : Nat) (h : j < l.length), j < k → ¬ (l[j].pid = p.parent ∧ (l[j].state = 1 ∨ l[j].state = 2))) (fun i _ => l.length - (intOf i).toNat)
  case atStart => exact ⟨0, by omega, rfl, Ext.refl _, fun j h hk => by omega⟩
  case round =>
    obtain ⟨k, hk, rfl, xk, hno⟩ := hrel
    have HNO := Lib.hid hno
    clear hno
    by_cases hlt : k < l.length
    · obtain ⟨b, o, rfl, hcell⟩ := hv2 (by omega)
      have r1 := range_ext (pr_range hcell hlt) xk
      have hki : (k : Int) < (l.length : Int) := by omega
      have hbk := hb.ext xk
      have HD := Lib.hid (fun (h : ¬ (l[k].pid = p.parent ∧ (l[k].state = 1 ∨ l[k].state = 2))) => show ∀ (j : Nat) (h : j < l.length), j < k + 1 → ¬ (l[j].pid = p.parent ∧ (l[j].state = 1 ∨ l[j].state = 2)) from fun j hj hjk => by
        by_cases e : j < k
        · exact HNO.out j hj e
        · obtain rfl : j = k := by omega
          exact h)
      generalize l[k] = y at *
      clear hcell
      rcases Bool.eq_false_or_eq_true (y.pid == p.parent && (y.state == 1 || y.state == 2)) with hd | hd
      · go_wp2_with (first
          | (refine wp_ld_pr (.tmp 14) rfl rfl b (o + k * 96) y rfl r1 ?_)
          | (go_at_call 131; refine (HP.out _ _ hbk).mono ?_; rintro e w2 ⟨rfl, x2⟩))
        go_ret
        exact ⟨⟨k, by omega, rfl⟩, xk.trans x2⟩
      · go_wp2_with (first
          | (refine wp_ld_pr (.tmp 14) rfl rfl b (o + k * 96) y rfl r1 ?_)
          | (go_at_call 131; refine (HP.out _ _ hbk).mono ?_; rintro e w2 ⟨rfl, x2⟩))
        go_roundw
        case rel => exact ⟨k + 1, by omega, by go_num, xk.trans x2, HD.out (by
          rintro ⟨h1, h2⟩
          rw [show (y.pid == p.parent) = true by simpa using h1, Bool.true_and] at hd
          rcases h2 with h2 | h2 <;> simp [h2] at hd)⟩
        case measure => simp [intOf]; omega
    · exfalso
      obtain ⟨y, hy, he⟩ := HY.out
      obtain ⟨j, hj, rfl⟩ := List.getElem_of_mem hy
      exact HNO.out j hj (by omega) he
set_option maxHeartbeats 1000000 in
set_option maxRecDepth 100000 in
theorem prcont_yes (A : Option Addr) (n c : Nat) (l : List PrT) (g : Nat) (p : PrT) (w : World) (hv : RowOf prL w A n l) (hn : n ≤ 1000) (hb : Box w g 72 (prL p).toArray) (hy : LivesP l p.parent) :
    Calls Tryz.prog 130 #[.slice A n c, .func (.func 131) #[] #[.pointer (some ⟨g, 0, none⟩)]] w fun e w' => e = .returned (.bool true) ∧ Ext w w' := by
  have HP := Lib.hid (fun w h1 h2 => pridx_yes A n c l g p w h1 hn h2 hy)
  go_enter Tryz.func130, Tryz.ntmps130
  have d : ∀ k : Nat, decide ((0 : Int) ≤ (k : Int)) = true := fun k => by simp
  go_wp2_with (go_at_call 177; refine (HP.out _ hv hb).mono ?_; rintro e w2 ⟨⟨k, hk, rfl⟩, x2⟩)
  go_ret
  exact ⟨rfl, x2⟩
set_option maxHeartbeats 1000000 in
set_option maxRecDepth 100000 in
theorem parent_ok (m : Mac) (d : MacD) (y : PrT) (w : World) (hi : MacIn w m d) (hn : m.pr.n ≤ 1000) (h : ProcOk m d y) :
    Calls Tryz.prog 91 #[.agg m.cells, .agg (prL y).toArray] w fun e w' => e = .returned (.bool true) ∧ Ext w w' := by
  have hmf : ∀ (fn : Fn) (first cap : Array Value) (w : World), (Instr.makeFunc fn first cap).run Tryz.prog w = .ok (.func fn first cap) w := fun _ _ _ _ => rfl
  have HL := Lib.hid (fun w => stlives_any y w)
  have x0 := ((Ext.refl w).alloc (.cells m.cells 30)).alloc (.cells (prL y).toArray 72)
  have bm := (Box.new w 30 m.cells).ext ((Ext.refl _).alloc (.cells (prL y).toArray 72))
  have bp := Box.new (w.alloc (.cells m.cells 30)) 72 (prL y).toArray
  rw [World.size_alloc] at bp
  have HR := Lib.hid (hi.pr.ext x0)
  have hst := h.state
  have hpar := h.par
  clear h hi
  go_enter Tryz.func91, Tryz.ntmps91
  go_upto_region 1 with fail
  generalize (w.alloc (.cells m.cells 30)).alloc (.cells (prL y).toArray 72) = w1 at *
  generalize w.heap.size = G at *
  have c1 : w1.cell? ⟨G + 1, 1, none⟩ = some (.int .i64 y.parent) := bp.cell 1
  have HC := Lib.hid (fun w h1 h2 hy => prcont_yes m.pr.A m.pr.n m.pr.c d.pr (G + 1) y w h1 hn h2 hy)
  have q5 : ∀ wx, Ext w1 wx → wx.cell? ⟨G, 5, none⟩ = some (.slice m.pr.A m.pr.n m.pr.c) := fun wx x => (bm.ext x).cell 5
  have HQ := Lib.hid q5
  clear q5
  have hcase : (y.parent = 0 ∧ (y.state == 1 || y.state == 2) = true) ∨ (LivesP d.pr y.parent ∧ (y.parent ≠ 0 ∨ (y.state == 1 || y.state == 2) = false)) := by
    by_cases e : y.parent = 0 ∧ (y.state == 1 || y.state == 2) = true
    · exact .inl e
    · refine .inr ⟨?_, ?_⟩
      · rcases hpar with h | ⟨h1, h2⟩
        · exact h
        · refine absurd ⟨h2, ?_⟩ e
          rcases hst with h | h | h
          · simp [h]
          · simp [h]
          · exact absurd h h1
      · by_cases e0 : y.parent = 0
        · right; simpa [e0] using e
        · exact .inl e0
  clear hst hpar
  rcases hcase with ⟨h1, h2⟩ | ⟨h1, h2⟩
  · have e1 : (y.parent == 0) = true := by simpa using h1
    clear h1
    go_wp2_with (first
      | (refine wp_ld_pr_g (.tmp 3) rfl rfl (G + 1) y 72 rfl bp ?_)
      | (go_at_call 129; refine (HL.out _).mono ?_; rintro e w2 ⟨rfl, x2⟩))
    go_ret
    exact ⟨rfl, x0.trans x2⟩
  · have HY := Lib.hid h1
    clear h1
    rcases Bool.eq_false_or_eq_true (y.parent == 0) with e1 | e1
    · have h3 : (y.state == 1 || y.state == 2) = false := by
        rcases h2 with h2 | h2
        · exact absurd (by simpa using e1) h2
        · exact h2
      clear h2
      go_wp2_with (first
        | (refine wp_ld_pr_g (.tmp 3) rfl rfl (G + 1) y 72 rfl bp ?_)
        | (go_at_call 129; refine (HL.out _).mono ?_; rintro e w2 ⟨rfl, x2⟩; have q5 := HQ.out _ x2)
        | (go_at_call 130; refine (HC.out _ (HR.out.ext x2) (bp.ext x2) HY.out).mono ?_; rintro e w3 ⟨rfl, x3⟩))
      go_ret
      exact ⟨rfl, (x0.trans x2).trans x3⟩
    · clear h2
      have q5 := HQ.out _ (Ext.refl _)
      go_wp2_with (first
        | (go_at_call 130; refine (HC.out _ HR.out bp HY.out).mono ?_; rintro e w3 ⟨rfl, x3⟩))
      go_ret
      exact ⟨rfl, x0.trans x3⟩
set_option maxHeartbeats 1000000 in
set_option maxRecDepth 100000 in
theorem file_ok (m : Mac) (d : MacD) (k n p : Int) (w : World) (hi : MacIn w m d) (hn : m.pi.n ≤ 1000) (h : FdP d.pi k n p) (h0 : k ≠ 0) :
    Calls Tryz.prog 92 #[.agg m.cells, .agg #[.int .i64 k, .int .i64 n, .int .i64 p]] w fun e w' => e = .returned (.bool true) ∧ Ext w w' := by
  have HP := Lib.hid (fun id w h hy => place_yes m d id w h hn hy)
  have x0 := ((Ext.refl w).alloc (.cells m.cells 30)).alloc (.cells #[.int .i64 k, .int .i64 n, .int .i64 p] 69)
  have bm := (Box.new w 30 m.cells).ext ((Ext.refl _).alloc (.cells #[.int .i64 k, .int .i64 n, .int .i64 p] 69))
  have HM := Lib.hid (hi.ext x0)
  clear hi
  have dk : ∀ k : Nat, decide ((0 : Int) ≤ (k : Int)) = true := fun k => by simp
  go_enter Tryz.func92, Tryz.ntmps92
  rcases h with ⟨h1, rfl, rfl⟩ | ⟨rfl, h1, h2, h3, h4⟩ | ⟨h1, rfl, hy⟩
  · rcases h1 with rfl | rfl | rfl
    · exact absurd rfl h0
    · go_wp2_with fail
      go_ret
      exact ⟨rfl, x0⟩
    · go_wp2_with fail
      go_ret
      exact ⟨rfl, x0⟩
  · have e1 : decide (1 ≤ n) = true := decide_eq_true h1
    have e2 : decide (n ≤ 64) = true := decide_eq_true h2
    have e3 : decide (0 ≤ p) = true := decide_eq_true h3
    have e4 : decide (p ≤ 8960) = true := decide_eq_true h4
    clear h1 h2 h3 h4
    go_wp2_with fail
    go_ret
    exact ⟨rfl, x0⟩
  · have HY := Lib.hid hy
    clear hy
    rcases h1 with rfl | rfl <;> go_wp2_with (first
      | (refine wp_ld_mac_g (.tmp 2) rfl rfl w.heap.size m 30 rfl bm ?_)
      | (go_at_call 132; refine (HP.out _ _ HM.out HY.out).mono ?_; rintro e w2 ⟨⟨q, hq, rfl⟩, x2⟩))
    all_goals
      go_ret
      exact ⟨rfl, x0.trans x2⟩
end Go.Proofs.YtkokmnaicfdjaaaGreatDoor
/- state.Check on a machine that may be: numbers, frames, pipes, texts. -/
namespace Go.Proofs.YtkokmnaicfdjaaaGreatDoor
set_option linter.unusedVariables false
set_option linter.unusedSimpArgs false
open Go.RowKit

set_option maxHeartbeats 1000000 in
set_option maxRecDepth 100000 in
theorem numbers_ok (m : Mac) (w : World) (h : NumsOk m) :
    Calls Tryz.prog 40 #[.agg m.cells] w fun e w' => e = .returned (.int .i64 0) ∧ Ext w w' := by
  have x0 := (Ext.refl w).alloc (.cells m.cells 30)
  have bm := Box.new w 30 m.cells
  obtain ⟨⟨a1, a2⟩, ⟨b1, b2⟩, c1, ⟨d1, d2⟩, ⟨e1, e2⟩⟩ := h
  have f1 : decide (m.quantum < 1) = false := by simp; omega
  have f2 : decide (1000 < m.quantum) = false := by simp; omega
  have f3 : decide (m.left < 0) = false := by simp; omega
  have f4 : decide (m.quantum < m.left) = false := by simp; omega
  have f5 : decide (m.cur < 0) = false := by simp; omega
  have f6 : decide (m.next < 1) = false := by simp; omega
  have f7 : decide (1000000000 < m.next) = false := by simp; omega
  have f8 : decide (m.newPipe < 1) = false := by simp; omega
  have f9 : decide (1000000000 < m.newPipe) = false := by simp; omega
  clear a1 a2 b1 b2 c1 d1 d2 e1 e2
  go_enter Tryz.func40, Tryz.ntmps40
  go_upto_region 1 with fail
  generalize w.alloc (.cells m.cells 30) = w1 at *
  obtain ⟨k0, k1, k2, k3, k4, k5, k6, k7, k8, k9, k10, k11, k12, k13, k14, k15, k16⟩ := mac_cells bm
  clear k0 k4 k5 k7 k8 k10 k11 k12 k13 k14 k15 k16 bm
  go_wp2_with fail
  go_ret
  exact ⟨rfl, x0⟩
set_option maxHeartbeats 1000000 in
set_option maxRecDepth 100000 in
theorem texts_ok (m : Mac) (w : World) (h : m.inn.length ≤ 65536 ∧ m.init.length ≤ 128) :
    Calls Tryz.prog 44 #[.agg m.cells] w fun e w' => e = .returned (.int .i64 0) ∧ Ext w w' := by
  have x0 := (Ext.refl w).alloc (.cells m.cells 30)
  have bm := Box.new w 30 m.cells
  obtain ⟨a1, a2⟩ := h
  have hz := str_size
  have f1 : decide (65536 < (m.inn.length : Int)) = false := by simp; omega
  have f2 : decide (128 < (m.init.length : Int)) = false := by simp; omega
  clear a1 a2
  go_enter Tryz.func44, Tryz.ntmps44
  go_upto_region 1 with fail
  generalize w.alloc (.cells m.cells 30) = w1 at *
  obtain ⟨k0, k1, k2, k3, k4, k5, k6, k7, k8, k9, k10, k11, k12, k13, k14, k15, k16⟩ := mac_cells bm
  clear k0 k1 k2 k3 k4 k5 k6 k8 k9 k11 k12 k13 k14 k15 k16 bm
  go_wp2_with fail
  go_ret
  exact ⟨rfl, x0⟩
set_option maxHeartbeats 1000000 in
set_option maxRecDepth 100000 in
theorem frames_ok (m : Mac) (d : MacD) (w : World) (hi : MacIn w m d) (h : 1 ≤ m.fr.n ∧ m.fr.n ≤ 64) (hf : ∀ b ∈ d.fr, b.length = 128) :
    Calls Tryz.prog 41 #[.agg m.cells] w fun e w' => e = .returned (.int .i64 0) ∧ Ext w w' := by
  have x0 := (Ext.refl w).alloc (.cells m.cells 30)
  have bm := Box.new w 30 m.cells
  obtain ⟨hv1, hv2⟩ := hi.fr.strs
  clear hi
  obtain ⟨a1, a2⟩ := h
  have hz := str_size
  have f1 : decide ((m.fr.n : Int) < 1) = false := by simp; omega
  have f2 : decide (64 < (m.fr.n : Int)) = false := by simp; omega
  have HF := Lib.hid hf
  have HV1 := Lib.hid hv1
  clear hf hv1
  go_enter Tryz.func41, Tryz.ntmps41
  go_upto_region 1 with fail
  generalize w.alloc (.cells m.cells 30) = w1 at *
  obtain ⟨k0, k1, k2, k3, k4, k5, k6, k7, k8, k9, k10, k11, k12, k13, k14, k15, k16⟩ := mac_cells bm
  clear k0 k1 k2 k3 k5 k6 k7 k8 k9 k10 k11 k12 k13 k14 k15 k16 bm
  go_wp2_with fail
  clear f1 f2 k4
  generalize d.fr = l at *
  generalize m.fr.A = A at *
  generalize m.fr.n = n at *
  obtain rfl : n = l.length := HV1.out
  go_loop [18] (fun i => ∃ k : Nat, k ≤ l.length ∧ i = .int .i64 k) (fun i => l.length - (intOf i).toNat)
  case atStart => exact ⟨0, by omega, rfl⟩
  case round =>
    obtain ⟨k, hk, rfl⟩ := hrel
    by_cases hlt : k < l.length
    · obtain ⟨b, o, rfl, hcell⟩ := hv2 (by omega)
      have e1 := x0.keep (hcell k hlt)
      have hki : (k : Int) < (l.length : Int) := by omega
      have hl := HF.out _ (List.getElem_mem hlt)
      have hl' : ((l[k].length : Int) != 128) = false := by rw [hl]; rfl
      clear hcell hl
      generalize l[k] = y at *
      go_wp2_with fail
      go_round
      case rel => exact ⟨k + 1, by omega, by go_num⟩
      case measure => simp [intOf]; omega
    · obtain rfl : k = l.length := by omega
      go_wp2_with fail
      go_ret
      exact ⟨rfl, x0⟩
set_option maxHeartbeats 1000000 in
set_option maxRecDepth 100000 in
theorem pipes_ok (m : Mac) (d : MacD) (w : World) (hi : MacIn w m d) (hn : m.pi.n ≤ 64) (hp : PipesK m d.pi d.pi.length) :
    Calls Tryz.prog 43 #[.agg m.cells] w fun e w' => e = .returned (.int .i64 0) ∧ Ext w w' := by
  have x0 := (Ext.refl w).alloc (.cells m.cells 30)
  have bm := Box.new w 30 m.cells
  obtain ⟨hv1, hv2⟩ := hi.pi.wrs
  clear hi
  have hz := str_size
  have f2 : decide (64 < (m.pi.n : Int)) = false := by simp; omega
  have HP := Lib.hid hp
  have HV1 := Lib.hid hv1
  clear hp hv1
  go_enter Tryz.func43, Tryz.ntmps43
  go_upto_region 1 with fail
  generalize w.alloc (.cells m.cells 30) = w1 at *
  have k8 : w1.cell? ⟨w.heap.size, 8, none⟩ = some (.slice m.pi.A m.pi.n m.pi.c) := bm.cell 8
  have k9 : ∀ wx, Ext w1 wx → wx.cell? ⟨w.heap.size, 9, none⟩ = some (.int .i64 m.newPipe) := fun wx x => (bm.ext x).cell 9
  have K9 := Lib.hid k9
  clear k9 bm
  go_wp2_with fail
  clear f2 k8
  generalize hl : d.pi = l at *
  clear hl
  generalize m.pi.A = A at *
  generalize m.pi.n = n at *
  obtain rfl : n = l.length := HV1.out
  go_loopw [3, 13] (fun s i wx => ∃ k : Nat, k ≤ l.length ∧ i = .int .i64 k ∧ s = .int .i64 (if 0 < k then (l.getD (k - 1) default).1 else 0) ∧ Ext w1 wx) (fun _ i _ => l.length - (intOf i).toNat)
  case atStart => exact ⟨0, by omega, rfl, rfl, Ext.refl _⟩
  case round =>
    obtain ⟨k, hk, rfl, rfl, xk⟩ := hrel
    by_cases hlt : k < l.length
    · obtain ⟨b, o, rfl, hcell⟩ := hv2 (by omega)
      have e1 := (x0.trans xk).keep (hcell k hlt).1
      have e2 := (x0.trans xk).keep (hcell k hlt).2
      have hki : (k : Int) < (l.length : Int) := by omega
      obtain ⟨p1, p2, p3, p4⟩ := HP.out k hlt hlt
      have g1 : decide (l[k].1 ≤ (if 0 < k then (l.getD (k - 1) default).1 else 0)) = false := by
        simp only [decide_eq_false_iff_not]
        split
        · rename_i h0
          have := p4 h0
          rw [List.getD_eq_getElem?_getD, List.getElem?_eq_getElem (by omega)]
          show ¬ l[k].1 ≤ (l[k - 1]'(by omega)).1
          omega
        · omega
      have g2 : decide (m.newPipe ≤ l[k].1) = false := by simp; omega
      have g3 : decide (64 < (l[k].2.length : Int)) = false := by simp; omega
      have g4 : l[k] = l.getD k default := by rw [List.getD_eq_getElem?_getD, List.getElem?_eq_getElem hlt]; rfl
      have G4 := Lib.hid g4
      generalize (if 0 < k then (l.getD (k - 1) default).1 else 0) = last at *
      have xz := xk.alloc (.cells #[.int .i64 l[k].1, .string (str l[k].2)] 59)
      have k9 := K9.out _ xz
      clear hcell p1 p2 p3 p4 g4
      generalize l[k] = y at *
      go_wp2_with fail
      go_roundw
      case rel => exact ⟨k + 1, by omega, by go_num, by rw [if_pos (by omega), Nat.add_sub_cancel, ← G4.out], xz⟩
      case measure => simp [intOf]; omega
    · obtain rfl : k = l.length := by omega
      go_wp2_with fail
      all_goals
        go_ret
        exact ⟨rfl, x0.trans xk⟩
end Go.Proofs.YtkokmnaicfdjaaaGreatDoor
