/- The drive of the statements of layer 28: wal.Format of 24 blocks; fs.Make. -/
import Derived.Test.YtkokmnaicfdjaaaGreatDoorVd18
import Derived.Test.YtkokmnaicfdjaaaGreatDoorVd13
import Derived.Test.YtkokmnaicfdjaaaGreatDoorVd12
import Derived.Test.YtkokmnaicfdjaaaGreatDoorVd10
import Derived.Test.YtkokmnaicfdjaaaGreatDoorVd16
import Derived.Test.YtkokmnaicfdjaaaGreatDoorVd9
namespace Go.Proofs.YtkokmnaicfdjaaaGreatDoor
set_option linter.unusedVariables false
set_option linter.unusedSimpArgs false
open Go.RowKit

/-- fs.Make(24, 8) -/
def mk8 : List (List UInt8) := putAt fmt8 1 [2, 1, 0, 0, 0, 0, 0, 0, 0, 0, 0, 0]
theorem mk8_len : mk8.length = 24 := by simp [mk8, putAt, fmt8_len]
theorem mk8_all : ∀ b ∈ mk8, b.length = 128 := by
  intro b hb
  unfold mk8 putAt at hb
  rcases List.mem_or_eq_of_mem_set hb with hb | rfl
  · exact fmt8_all b hb
  · rw [overL_len]
    · exact getD_len good_fmt8 (by rw [fmt8_len]; decide)
    · rw [getD_len good_fmt8 (by rw [fmt8_len]; decide), inoB_len]; decide
theorem inoL_zs (n o : Nat) : inoL (zs n) o = zero12 := by
  have e : ∀ o z, fnum (zs n) o z = 0 := fun o z => by
    have h : ((zs n).drop o).take z = zs (min z (n - o)) := by unfold zs; simp
    unfold fnum
    rw [h]
    have k : ∀ m, numL (zs m) = 0 := fun m => by
      induction m with
      | zero => rfl
      | succ m ih => rw [show zs (m + 1) = 0 :: zs m from rfl, numL, ih]; rfl
    rw [k]; rfl
  unfold inoL
  simp only [e]; rfl
theorem ino_fmt8 : inoAt fmt8 1 = zero12 := by
  unfold inoAt
  rw [show (3 + ((1 : Int) - 1) / 2).toNat = 3 from rfl, show fmt8.getD 3 [] = zs 128 from ?_, inoL_zs]
  unfold fmt8
  simp [List.getD_eq_getElem?_getD, fillV]
set_option maxHeartbeats 1000000 in
set_option maxRecDepth 100000 in
theorem make8 (w : World) :
    Calls Tryz.prog 58 #[.int .i64 24, .int .i64 8] w fun e w' => ∃ u, e = .returned (.tuple #[u, .int .i64 0]) ∧ Ext w w' ∧ w'.ownsRow w.heap.size 9 1 u 24 (strL mk8) := by
  have HN := Lib.hid (fun A c w h => inew_yes A 24 c 1 fmt8 8 2 0 w h good_fmt8 (.inr rfl) (by omega) (by omega) (by omega) (by omega) (by rw [show ((1 : Nat) : Int) = 1 from rfl, ino_fmt8]; rfl) (fun i h1 h2 => by omega))
  have HE := Lib.hid (show putAt fmt8 (1 : Nat) [2, 1, 0, 0, 0, 0, 0, 0, 0, 0, 0, 0] = mk8 from rfl)
  go_enter Tryz.func58, Tryz.ntmps58
  go_wp2_with (go_at_call 113; refine (format8 _).mono ?_; rintro e w1 ⟨u1, rfl, x1, own1⟩; obtain ⟨g1, c1, rfl, hg1, s1⟩ := Strs.own' own1 (by omega))
  refine (HN.out _ _ _ s1).mono ?_
  rintro e w2 ⟨u2, rfl, x2, own2⟩
  go_wp2_with fail
  go_ret2
  exact ⟨u2, rfl, x1.trans x2, by rw [← HE.out]; exact own_base own2 x1.size⟩
theorem formE_all {v : List (List UInt8)} (h : ∀ b ∈ v, b.length = 128) : formE v = 0 := by
  induction v with
  | nil => rfl
  | cons x v ih => unfold formE; rw [if_neg (by simpa using h x (by simp))]; exact ih (fun b hb => h b (by simp [hb]))
/-- the drive with a journal of nothing, and the volume v -/
def fmtB (v : List (List UInt8)) : List (List UInt8) := List.replicate 33 (zs 128) ++ v
theorem fmtB_len (v : List (List UInt8)) : (fmtB v).length = 33 + v.length := by unfold fmtB; rw [List.length_append, List.length_replicate]
theorem copy33 (w : World) (g b o c : Nat) (v : List (List UInt8)) (hn : 0 < v.length) (hb : Box w g 9 (strVals (List.replicate (33 + v.length) (zs 128)))) (hcell : ∀ (j : Nat) (h : j < v.length), w.cell? ⟨b, o + j, none⟩ = some (.string (str v[j]))) (ty : TypeId) :
    (Builtin.copy_ #[23, 23] ty #[.slice (some ⟨g, 33, none⟩) v.length v.length, .slice (some ⟨b, o, none⟩) v.length c]).run Tryz.prog w = .ok (.int .i64 v.length) (w.setRow g (strVals (fmtB v))) := by
  have h := run_copy_row (P := Tryz.prog) w 23 23 ty 9 g 33 v.length v.length ⟨b, o, none⟩ v.length c (strVals (List.replicate (33 + v.length) (zs 128))) 9 (strL v) Tryz.underlying23 strSize hb (by simp [strL]) (fun j u hj => by
    have hjl : j < v.length := by have := (List.getElem?_eq_some_iff.1 hj).1; simpa [strL] using this
    have ha : (⟨b, o, none⟩ : Addr).add j = ⟨b, o + j, none⟩ := by unfold Addr.add; split <;> simp_all
    rw [ha, hcell j hjl]
    simp [strL, hjl] at hj; rw [← hj]) (by simp [strVals, strL]) (fun u hu => by
    simp only [strL, List.mem_map] at hu
    obtain ⟨s, _, rfl⟩ := hu; rfl)
  rw [h]
  have e : ((strVals (List.replicate (33 + v.length) (zs 128))).toList.take 33 ++ strL v ++ (strVals (List.replicate (33 + v.length) (zs 128))).toList.drop (33 + (strL v).length)).toArray = strVals (fmtB v) := by
    rw [List.drop_of_length_le (by simp [strVals, strL]), List.append_nil]
    unfold strVals strL fmtB
    rw [List.map_append, ← List.map_take, List.take_replicate, Nat.min_eq_left (by omega)]
  rw [e]; simp [goInt, strL]
set_option maxHeartbeats 1000000 in
set_option maxRecDepth 100000 in
theorem wformat_any (A : Option Addr) (n c : Nat) (v : List (List UInt8)) (w : World) (hv : Strs w A n v) (hn0 : 0 < n) (hn1 : n ≤ 223) (hall : ∀ b ∈ v, b.length = 128) :
    Calls Tryz.prog 59 #[.slice A n c] w fun e w' => ∃ g, e = .returned (.tuple #[.agg #[.slice (some ⟨g, 0, none⟩) (33 + n) (33 + n), .slice none 0 0, .int .i64 (-1)], .int .i64 0]) ∧ Ext w w' ∧ Box w' g 9 (strVals (fmtB v)) := by
  have HD := Lib.hid (fun w => dnew_any (33 + n) w (by omega) (by omega))
  have hv' := hv
  obtain ⟨rfl, hv2⟩ := hv
  obtain ⟨b, o, rfl, hcell⟩ := hv2 (by omega)
  have d1 : ((v.length : Int) == 0) = false := beq_eq_false_iff_ne.2 (by omega)
  have d2 : decide (223 < (v.length : Int)) = false := by simp; omega
  have e33 : IntKind.i64.wrap (33 + (v.length : Int)) = ((33 + v.length : Nat) : Int) := by rw [IntKind.wrap_i64]; omega
  have x0 : Ext w (w.alloc (.cells #[.slice none 0 0, .slice none 0 0, .int .i64 0] 28)) := (Ext.refl _).alloc _
  have b0 := Box.new w 28 #[.slice none 0 0, .slice none 0 0, .int .i64 0]
  have HA := Lib.hid hall
  have hz := str_size
  clear hall hv2
  go_enter Tryz.func59, Tryz.ntmps59
  go_wp2_with fail
  generalize w.alloc (.cells #[.slice none 0 0, .slice none 0 0, .int .i64 0] 28) = w0 at x0 b0 ⊢
  go_loop [5, 19] (fun _ t => ∃ k : Nat, k ≤ v.length ∧ t = .int .i64 k) (fun _ t => v.length - (intOf t).toNat)
  case atStart => exact ⟨0, by omega, rfl⟩
  case round =>
    obtain ⟨k, hk, rfl⟩ := hrel
    by_cases hlt : k < v.length
    · have hck : w0.cell? ⟨b, o + k, none⟩ = some (.string (str v[k])) := x0.keep (hcell k hlt)
      have hlk : ((v[k].length : Int) != 128) = false := by rw [HA.out _ (List.getElem_mem hlt)]; rfl
      have hki : (k : Int) < (v.length : Int) := by omega
      clear hcell
      generalize v[k] = s at *
      go_wp2_with fail
      go_round
      case rel => exact ⟨k + 1, by omega, by go_num⟩
      case measure => simp [intOf]; omega
    · obtain rfl : k = v.length := by omega
      have hcW : ∀ (w3 : World), Ext w0 w3 → ∀ (j : Nat) (h : j < v.length), w3.cell? ⟨b, o + j, none⟩ = some (.string (str v[j])) := fun w3 x j h => x.keep (x0.keep (hcell j h))
      have HC := Lib.hid hcW
      have hvn : v ≠ [] := fun e => by rw [e] at hn0; exact absurd hn0 (by decide)
      have hcp : ∀ (w3 : World) (g : Nat) (h1 : Ext w0 w3) (hb : Box w3 g 9 (strVals (List.replicate (33 + v.length) (zs 128)))) (ty : TypeId), (Builtin.copy_ #[23, 23] ty #[.slice (some ⟨g, 33, none⟩) v.length v.length, .slice (some ⟨b, o, none⟩) v.length c]).run Tryz.prog w3 = .ok (.int .i64 v.length) (w3.setRow g (strVals (fmtB v))) := fun w3 g h1 hb ty => copy33 w3 g b o c v (by omega) hb (HC.out w3 h1) ty
      have HCP := Lib.hid hcp
      clear hcW hcell hcp HA hk hlt hv'
      go_upto_region 13 with (first
        | (go_at_call 114; refine (HD.out _).mono ?_; rintro e w1 ⟨g1, rfl, x1, bx1, hg1⟩; have xd := x1.trans ((Ext.refl w1).alloc (.cells #[.slice (some ⟨g1, 0, none⟩) (33 + v.length) (33 + v.length), .slice none 0 0, .int .i64 (-1)] 28)); have cp := HCP.out _ g1 xd (bx1.ext ((Ext.refl w1).alloc _)); have hl1 := bx1.lt; have hl0 := b0.lt; have b6 := (Box.new w1 28 #[.slice (some ⟨g1, 0, none⟩) (33 + v.length) (33 + v.length), .slice none 0 0, .int .i64 (-1)]).setRow_other (ds := strVals (fmtB v)) (show w1.heap.size ≠ g1 by omega); have b7 := ((b0.ext xd)).setRow_other (ds := strVals (fmtB v)) (show w.heap.size ≠ g1 by omega); have b8 := setRow_box (ds := strVals (fmtB v)) (bx1.ext ((Ext.refl w1).alloc (.cells #[.slice (some ⟨g1, 0, none⟩) (33 + v.length) (33 + v.length), .slice none 0 0, .int .i64 (-1)] 28))); have x8 := setRow_ext (ds := strVals (fmtB v)) (x0.trans xd) (show w.heap.size ≤ g1 by omega)))
      go_wp2_with (first
        | (refine wp_ld_drv (.tmp 6) rfl rfl w1.heap.size _ _ rfl b6 rfl ?_)
        | (refine wp_st_drv (.tmp 2) (.tmp 44) rfl rfl w.heap.size ⟨some ⟨g1, 0, none⟩, 33 + v.length, 33 + v.length⟩ ⟨none, 0, 0⟩ (-1) _ 28 rfl rfl b7 rfl ?_; intro w9 b9 g9))
      refine bodyPost_ret (results_cell2 rfl _ _ w.heap.size _ _ _ (.int .i64 0) rfl rfl b9 Tryz.underlying28 rfl drvSize) rfl ⟨g1, rfl, x8.grown g9 (fun j e => by cases e; exact Nat.le_refl _), b8.grown g9 (fun e => by injection e with e; omega)⟩
end Go.Proofs.YtkokmnaicfdjaaaGreatDoor
/- Plain: behind a commit without an error the drive's volume is the kernel's. -/
namespace Go.Proofs.YtkokmnaicfdjaaaGreatDoor
set_option linter.unusedVariables false
set_option linter.unusedSimpArgs false

/-- all blocks of a drive, as they were last written -/
def volD (D : DrvD) : List (List UInt8) := D.pe.foldl layP D.bl
def wOf : CallD → List WrT
  | .put i s => [((i : Int), s)]
  | .flush => []
theorem vol_step (D : DrvD) (c : CallD) (h : (stepP D c).2 = 0) : volD (stepP D c).1 = (wOf c).foldl layP (volD D) := by
  cases c with
  | put i s =>
    by_cases hl : D.left = 0
    · simp only [stepP, putDP, if_pos hl] at h
      cases h
    · simp only [stepP, putDP, if_neg hl, volD, wOf, List.foldl_append, List.foldl_cons, List.foldl_nil]
  | flush =>
    by_cases hl : D.left = 0
    · simp only [stepP, flushDP, if_pos hl] at h
      cases h
    · simp only [stepP, flushDP, if_neg hl, volD, wOf, List.foldl_nil]
theorem vol_done (cs : List CallD) : ∀ D : DrvD, (doneP D cs).2 = 0 → volD (doneP D cs).1 = (cs.flatMap wOf).foldl layP (volD D) := by
  induction cs with
  | nil => intro D _; rfl
  | cons c cs ih =>
    intro D h
    rw [doneP] at h ⊢
    by_cases hs : (stepP D c).2 = 0
    · rw [if_pos hs] at h ⊢
      rw [ih _ h, vol_step D c hs, List.flatMap_cons, List.foldl_append]
    · rw [if_neg hs] at h; exact absurd h hs
theorem lay_eq (v : List (List UInt8)) (x : WrT) : layP v x = if 0 ≤ x.1 then v.set x.1.toNat x.2 else v := by
  unfold layP
  by_cases h0 : 0 ≤ x.1
  · by_cases h1 : x.1 < (v.length : Int)
    · rw [if_pos ⟨h0, h1⟩, if_pos h0]
    · rw [if_neg (fun h => h1 h.2), if_pos h0, List.set_eq_of_length_le (by omega)]
  · rw [if_neg (fun h => h0 h.1), if_neg h0]
theorem lay_drop (v : List (List UInt8)) (x : WrT) : (layP v x).drop 33 = putP (v.drop 33) x := by
  rw [lay_eq]
  unfold putP
  by_cases h0 : 0 ≤ x.1
  · rw [if_pos h0, List.drop_set]
    by_cases h1 : 33 ≤ x.1
    · rw [if_neg (by omega), if_pos h1, show (x.1 - 33).toNat = x.1.toNat - 33 by omega]
    · rw [if_pos (by omega), if_neg h1]
  · rw [if_neg h0, if_neg (by omega)]
theorem vol_drop (p : List WrT) : ∀ B : List (List UInt8), (p.foldl layP B).drop 33 = p.foldl putP (B.drop 33) := by
  induction p with
  | nil => intro B; rfl
  | cons x p ih => intro B; rw [List.foldl_cons, List.foldl_cons, ih, lay_drop]
theorem put_low (p : List WrT) (h : ∀ x ∈ p, x.1 < 33) : ∀ v : List (List UInt8), p.foldl putP v = v := by
  induction p with
  | nil => intro v; rfl
  | cons x p ih =>
    intro v
    have := h x List.mem_cons_self
    rw [List.foldl_cons, show putP v x = v by unfold putP; rw [if_neg (by omega)]]
    exact ih (fun y hy => h y (List.mem_cons_of_mem _ hy)) v
theorem puts_low : ∀ (l : List WrT) (i : Nat), i + l.length ≤ 33 → ∀ x ∈ (putsC i l).flatMap wOf, x.1 < 33
  | [], _, _, x, h => by cases h
  | y :: l, i, hi, x, h => by
    rw [List.length_cons] at hi
    rw [putsC, List.flatMap_cons] at h
    rcases List.mem_append.1 h with h | h
    · obtain rfl : x = ((i : Int), y.2) := List.mem_singleton.1 h
      show (i : Int) < 33
      omega
    · exact puts_low l (i + 1) (by omega) x h
theorem home_writes (l : List WrT) (h : ∀ x ∈ l, 0 ≤ x.1) : ∀ v : List (List UInt8), ((homeC l).flatMap wOf).foldl putP v = l.foldl layP v := by
  have e : (homeC l).flatMap wOf = l.map fun x => (((33 + x.1.toNat : Nat) : Int), x.2) := by
    unfold homeC
    rw [List.flatMap_append]
    have e1 : ∀ l : List WrT, (l.map fun x => CallD.put (33 + x.1.toNat) x.2).flatMap wOf = l.map fun x => (((33 + x.1.toNat : Nat) : Int), x.2) := fun l => by
      induction l with
      | nil => rfl
      | cons x l ih => rw [List.map_cons, List.flatMap_cons, ih]; rfl
    rw [e1]
    exact List.append_nil _
  rw [e]
  clear e
  induction l with
  | nil => intro v; rfl
  | cons x l ih =>
    intro v
    have hx := h x List.mem_cons_self
    rw [List.map_cons, List.foldl_cons, List.foldl_cons, ih (fun y hy => h y (List.mem_cons_of_mem _ hy))]
    congr 1
    rw [lay_eq, if_pos hx]
    unfold putP
    rw [if_pos (show (33 : Int) ≤ ((33 + x.1.toNat : Nat) : Int) by omega)]
    congr 1
    show (((33 + x.1.toNat : Nat) : Int) - 33).toNat = x.1.toNat
    omega
theorem pendE_all {n : Nat} : ∀ {l : List WrT}, (∀ x ∈ l, 0 ≤ x.1 ∧ x.1 < (n : Int) ∧ x.2.length = 128) → pendE n l = 0
  | [], _ => rfl
  | y :: l, h => by
    obtain ⟨h0, h1, h2⟩ := h y List.mem_cons_self
    unfold pendE
    rw [if_neg (by omega), if_neg (by omega)]
    exact pendE_all fun x hx => h x (List.mem_cons_of_mem _ hx)
theorem jrn_of_ok {B : List (List UInt8)} {p : List WrT} (h : DrvOk B p) : jrnE B p = 0 := by
  have e1 : drvE B p = 0 := by
    unfold drvE
    rw [if_neg (by have := h.most; omega), formE_all h.form, if_neg (by simp)]
    exact pendE_all h.pend
  unfold jrnE
  rw [e1, if_neg (by simp), if_neg (by have := h.least; omega)]
theorem lay_all (p : List WrT) (hp : ∀ x ∈ p, x.2.length = 128) : ∀ v : List (List UInt8), (∀ b ∈ v, b.length = 128) → ∀ b ∈ p.foldl layP v, b.length = 128 := by
  induction p with
  | nil => exact fun v hv => hv
  | cons x p ih =>
    intro v hv
    rw [List.foldl_cons]
    refine ih (fun y hy => hp y (List.mem_cons_of_mem _ hy)) _ (fun b hb => ?_)
    unfold layP at hb
    split at hb
    · rcases List.mem_or_eq_of_mem_set hb with hb | rfl
      · exact hv b hb
      · exact hp x List.mem_cons_self
    · exact hv b hb
theorem ok_step {D : DrvD} {c : CallD} (h : DrvOk D.bl D.pe) (hc : okC D.bl.length c) : DrvOk (stepP D c).1.bl (stepP D c).1.pe := by
  by_cases hl : D.left = 0
  · cases c with
    | put i s => simpa only [stepP, putDP, if_pos hl] using h
    | flush => simpa only [stepP, flushDP, if_pos hl] using h
  · cases c with
    | put i s =>
      simp only [stepP, putDP, if_neg hl]
      refine ⟨h.most, h.least, h.form, fun x hx => ?_⟩
      rcases List.mem_append.1 hx with hx | hx
      · exact h.pend x hx
      · obtain rfl : x = ((i : Int), s) := List.mem_singleton.1 hx
        exact ⟨Int.natCast_nonneg i, Int.ofNat_lt.2 hc.1, hc.2⟩
    | flush =>
      simp only [stepP, flushDP, if_neg hl]
      exact ⟨by rw [foldl_lay_len]; exact h.most, by rw [foldl_lay_len]; exact h.least, lay_all _ (fun x hx => (h.pend x hx).2.2) _ h.form, fun x hx => by cases hx⟩
theorem ok_done (cs : List CallD) : ∀ D : DrvD, DrvOk D.bl D.pe → (∀ c ∈ cs, okC D.bl.length c) → DrvOk (doneP D cs).1.bl (doneP D cs).1.pe := by
  induction cs with
  | nil => exact fun D h _ => h
  | cons c cs ih =>
    intro D h hc
    have h1 := ok_step h (hc c List.mem_cons_self)
    rw [doneP]
    split
    · exact ih _ h1 (fun x hx => by rw [step_len]; exact hc x (List.mem_cons_of_mem _ hx))
    · exact h1
theorem commit_jrn {D : DrvD} {l : List WrT} (hj : jrnE D.bl D.pe = 0) (hl : RiseW (D.bl.length - 33) l) : jrnE (commitP D l).1.bl (commitP D l).1.pe = 0 := by
  have hd := drvOk_of hj
  unfold commitP
  split
  · exact hj
  · exact jrn_of_ok (ok_done _ _ hd (commitC_ok hl hd.least (by have := hd.most; omega)))
theorem commit_home {D : DrvD} {l : List WrT} (hj : jrnE D.bl D.pe = 0) (hl : RiseW (D.bl.length - 33) l) (he : (commitP D l).2 = 0) : homeP (commitP D l).1.bl (commitP D l).1.pe = viewP D.bl D.pe l := by
  have hj2 := commit_jrn hj hl
  have e0 : ∀ {B : List (List UInt8)} {p : List WrT}, jrnE B p = 0 → homeP B p = p.foldl putP (B.drop 33) := fun h => by
    unfold homeP; rw [if_neg (by simpa using h)]
  unfold viewP
  rw [e0 hj, e0 hj2, ← vol_drop, ← vol_drop]
  change (volD (commitP D l).1).drop 33 = l.foldl layP ((volD D).drop 33)
  unfold commitP at he ⊢
  by_cases hn : l = []
  · rw [if_pos hn, hn]; rfl
  · rw [if_neg hn] at he ⊢
    rw [vol_done _ _ he, vol_drop]
    unfold commitC
    rw [List.flatMap_append, List.foldl_append, home_writes l (fun x hx => by obtain ⟨i, hi, rfl⟩ := List.getElem_of_mem hx; exact (hl.2 i hi).1), put_low]
    intro x hx
    rw [List.flatMap_append] at hx
    rcases List.mem_append.1 hx with hx | hx
    · exact puts_low l 1 (by have := hl.1; omega) x hx
    · have hx' : x = (((0 : Nat) : Int), headP l) := by simpa [wOf] using hx
      subst hx'
      show ((0 : Nat) : Int) < 33
      omega
end Go.Proofs.YtkokmnaicfdjaaaGreatDoor
/- A machine loaded at once behind a guard. -/
namespace Go.Proofs.YtkokmnaicfdjaaaGreatDoor
set_option linter.unusedVariables false
set_option linter.unusedSimpArgs false
open Go.RowKit

theorem mac_range0 {w : World} {g : Nat} {t : TypeId} {m : Mac} (h : Box w g t m.cells) : w.rangeAt g 0 m.cells.toList := fun j v hj => by
  rw [Nat.zero_add]; exact (h.cell j).trans (by rw [← hj]; simp)
theorem wp_ld_mac_g {ops : Array Oper} {rest : List Oper} {o : Oper} {a : Act} {w : World} {Q : Exit → Act → World → Prop} (x : Operand) (hw : Region.wanted o (yielded ops a.tmps) = true) (ho : o.op = .load 30 x) (g : Nat) (m : Mac) (t : TypeId) (hx : a.eval x = .pointer (some ⟨g, 0, none⟩))
    (hb : Box w g t m.cells) (hK : wpList Tryz.prog ops Q rest (a.put o.dst (.agg m.cells)) w) : wpList Tryz.prog ops Q (o :: rest) a w := by
  unfold wpList
  rw [if_pos hw]
  exact .inl (wp_load_mid _ x ho g 0 hx _ _ (mac_range0 hb) Tryz.underlying30 rfl macSize hK)
end Go.Proofs.YtkokmnaicfdjaaaGreatDoor
/- What is kept back goes to the drive: the program. -/
namespace Go.Proofs.YtkokmnaicfdjaaaGreatDoor
set_option linter.unusedVariables false
set_option linter.unusedSimpArgs false
open Go.RowKit

theorem wf64 (x : Int) : (Lit.int .i64 x).wf = true ↔ (-9223372036854775808 ≤ x ∧ x ≤ 9223372036854775807) := by
  unfold Lit.wf
  simp only [Bool.and_eq_true, decide_eq_true_eq, show IntKind.i64.min = -9223372036854775808 from rfl, show IntKind.i64.max = 9223372036854775807 from rfl]
theorem leftP_wf {x : Int} (h : (Lit.int .i64 x).wf = true) : (Lit.int .i64 (leftP x)).wf = true := by
  rw [wf64] at h ⊢
  unfold leftP; split <;> omega
theorem step_wf (D : DrvD) (c : CallD) (h : (Lit.int .i64 D.left).wf = true) : (Lit.int .i64 (stepP D c).1.left).wf = true := by
  cases c with
  | put i s => simp only [stepP, putDP]; split; exact h; exact leftP_wf h
  | flush => simp only [stepP, flushDP]; split; exact h; exact leftP_wf h
theorem done_wf (cs : List CallD) : ∀ D : DrvD, (Lit.int .i64 D.left).wf = true → (Lit.int .i64 (doneP D cs).1.left).wf = true := by
  induction cs with
  | nil => intro D h; exact h
  | cons c cs ih =>
    intro D h
    rw [doneP]
    split
    · exact ih _ (step_wf D c h)
    · exact step_wf D c h
theorem commit_wf {D : DrvD} (l : List WrT) (h : (Lit.int .i64 D.left).wf = true) : (Lit.int .i64 (commitP D l).1.left).wf = true := by
  unfold commitP
  split
  · exact h
  · exact done_wf _ _ h
theorem commit_err (D : DrvD) (l : List WrT) : (commitP D l).2 = 0 ∨ (commitP D l).2 = 17 := by
  unfold commitP
  split
  · exact .inl rfl
  · exact done_err _ _
theorem commit_pe (D : DrvD) (l : List WrT) : (commitP D l).1.pe.length ≤ D.pe.length + (2 * l.length + 3) := by
  unfold commitP
  split
  · show D.pe.length ≤ _; omega
  · have := done_pe (commitC l) D; rw [commitC_len] at this; exact this
/-- all but the rows and the drive's count are the same -/
structure Mac.Like (m m' : Mac) : Prop where
  clock : m'.clock = m.clock
  quantum : m'.quantum = m.quantum
  cur : m'.cur = m.cur
  left : m'.left = m.left
  next : m'.next = m.next
  init : m'.init = m.init
  newPipe : m'.newPipe = m.newPipe
  inn : m'.inn = m.inn
  fin : m'.fin = m.fin
  told : m'.told = m.told
/-- the machine behind a sync -/
def syncD (d : MacD) (R : DrvD × Int) : MacD := { d with bl := R.1.bl, pe := R.1.pe, di := if R.2 = 0 then [] else d.di }
def drvM (m : Mac) (d : MacD) : DrvD := ⟨d.bl, d.pe, m.dleft⟩
def SyncR (B0 : Nat) (m : Mac) (d : MacD) (w : World) (e : Ending) (w' : World) : Prop :=
  ∃ m' : Mac, e = .returned (.tuple #[.agg m'.cells, .int .i64 (commitP (drvM m d) d.di).2]) ∧ MacF B0 w' m' (syncD d (commitP (drvM m d) d.di)) ∧ m'.dleft = (commitP (drvM m d) d.di).1.left ∧ m.Like m' ∧ Ext w w'
theorem SyncR.mk {B0 : Nat} {m m' : Mac} {d : MacD} {w w' : World} {E : DrvD} {er : Int} (hR : Hid (commitP (drvM m d) d.di = (E, er))) (hF : MacF B0 w' m' (syncD d (E, er))) (hl : m'.dleft = E.left) (hk : m.Like m') (x : Ext w w') : SyncR B0 m d w (.returned (.tuple #[.agg m'.cells, .int .i64 er])) w' := by
  have h := hR.out
  refine ⟨m', ?_, ?_, ?_, hk, x⟩
  · rw [h]
  · rw [h]; exact hF
  · rw [h]; exact hl
set_option maxHeartbeats 2000000 in
set_option maxRecDepth 100000 in
theorem csync_any (B0 : Nat) (m : Mac) (d : MacD) (w : World) (hB0 : B0 ≤ w.heap.size) (h : MacF B0 w m d) (hj : jrnE d.bl d.pe = 0) (hl : RiseW (d.bl.length - 33) d.di) (hT : Tabs w) (hp : d.pe.length ≤ 1000) :
    Calls Tryz.prog 20 #[.agg m.cells] w (SyncR B0 m d w) := by
  have hdk := drvOk_of hj
  have hwf := Lib.hid h.leftk
  have HC := Lib.hid (fun w h0 hv hr hT => wcommit_any B0 (drvM m d) (.agg #[.slice m.bl.A m.bl.n m.bl.c, .slice m.pe.A m.pe.n m.pe.c, .int .i64 m.dleft]) d.di m.di w h0 hv hr hj hl hT hp (by have := hdk.most; show d.bl.length ≤ 1000; omega) hdk.least ((wf64 _).1 hwf.out).2)
  have HO := Lib.hid (fun w hi => omacF_any m d w hi h.small)
  have he := commit_err (drvM m d) d.di
  have HWf := Lib.hid (commit_wf (D := drvM m d) d.di hwf.out)
  generalize hR : commitP (drvM m d) d.di = R at HC he HWf
  have HR := Lib.hid hR
  clear hR hj hl hp hdk
  obtain ⟨E, er⟩ := R
  simp only at HC he HWf
  have HM := Lib.hid h
  have HT := Lib.hid hT
  clear h hT
  have b0 := Box.new w 30 m.cells
  have x0 := (Ext.refl w).alloc (.cells m.cells 30)
  have z0 : (w.alloc (.cells m.cells 30)).heap.size = w.heap.size + 1 := World.size_alloc _ _
  go_enter Tryz.func20, Tryz.ntmps20
  go_upto_region 1 with fail
  generalize w.alloc (.cells m.cells 30) = wa at b0 x0 z0 ⊢
  have bR0 := Box.new wa 30 zeroMacC
  have x1 : Ext w (wa.alloc (.cells zeroMacC 30)) := x0.alloc (.cells zeroMacC 30)
  have b1 := b0.ext ((Ext.refl wa).alloc (.cells zeroMacC 30))
  rw [z0] at bR0
  change Code.wp _ _ _ _ (wa.alloc (.cells zeroMacC 30))
  generalize wa.alloc (.cells zeroMacC 30) = w1 at bR0 x1 b1 ⊢
  generalize hG : w.heap.size = G at *
  clear b0 x0 z0
  clear wa
  go_upto_region 2 with (first
    | (refine wp_ld_mac (.tmp 1) rfl rfl G _ _ rfl b1 rfl ?_)
    | (go_at_call 32; refine (HO.out _ (HM.out.ext x1).toIn).mono ?_; rintro e w2 ⟨fr, pr, pi, bl, pe, di, rfl, x2, hM2, hS2, hN2, hF2⟩)
    | (refine wp_st_mac (.tmp 4) (.tmp 8) rfl rfl w2.heap.size (m.with fr pr pi bl pe di) _ 30 rfl rfl (Box.new _ _ _) rfl ?_; intro w3 b3 g3))
  have x23 : Ext w2 w3 := ((Ext.refl w2).alloc _).grown g3 (fun j e => by cases e; exact Nat.le_refl _)
  have x3 := (x1.trans x2).trans x23
  have bb3 := (b1.ext x2).ext x23
  have bR3 := (bR0.ext x2).ext x23
  have hF3 := (hF2 B0).ext x23
  have hlt2 : G + 1 < w2.heap.size := (bR0.ext x2).lt
  clear hM2 hS2 hN2 hF2 x1 x2 x23 b1 bR0 g3 HO
  generalize hG4 : w2.heap.size = G4 at *
  have hg4 : G4 < w3.heap.size := b3.lt
  have q16 : w3.cell? ⟨G, 16, none⟩ = some (.slice m.di.A m.di.n m.di.c) := bb3.cell 16
  have hm3 := HM.out.ext x3
  go_upto_region 3 with (first
    | (refine wp_ld_drvM (.tmp 10) rfl rfl G m 30 rfl bb3 ?_)
    | (go_at_call 36; refine (HC.out _ (by omega) ⟨m.bl, m.pe, rfl, hm3.bl, hm3.pe⟩ hm3.di (HT.out.ext x3)).mono ?_; rintro e w4 ⟨v4, rfl, ⟨bl4, pe4, rfl, kb4, kp4⟩, x4⟩)
    | (refine wp_st_drv (.tmp 5) (.tmp 15) rfl rfl w4.heap.size bl4 pe4 E.left _ 28 rfl rfl (Box.new _ _ _) rfl ?_; intro w5 b5 g5))
  have x45 : Ext w4 w5 := ((Ext.refl w4).alloc _).grown g5 (fun j e => by cases e; exact Nat.le_refl _)
  have x35 := x4.trans x45
  have x5 := x3.trans x35
  have b35 := b3.ext x35
  have bR5 := bR3.ext x35
  have hF5 := hF3.ext x35
  have kb5 := kb4.ext x45
  have kp5 := kp4.ext x45
  clear q16 hm3 HC g5 x4 x45 x35 bb3 bR3 b3 hF3 kb4 kp4 x3
  generalize w4.heap.size = G5 at *
  go_upto_region 4 with (first
    | (refine wp_ld_drv (.tmp 5) rfl rfl G5 _ _ rfl b5 rfl ?_)
    | (refine wp_st_drvM (.tmp 18) (.tmp 17) rfl rfl G4 (m.with fr pr pi bl pe di) bl4 pe4 E.left 30 rfl rfl b35 ?_; intro w6 b6 g6))
  have bR6 := bR5.grown g6 (by intro e; injection e with e; omega)
  have hF6 := hF5.grown (by decide) b35 g6
  have kb6 := kb5.grown (by decide) b35 g6
  have kp6 := kp5.grown (by decide) b35 g6
  have x6 := x5.grown g6 (fun j e => by cases e; omega)
  clear bR5 hF5 kb5 kp5 b35 g6 x5 b5
  rcases he with rfl | rfl
  · have bL := b6.cell 16
    have fL := b6.frozen 16
    go_upto_region 6 with fail
    have b7 : Box (w6.setCell ⟨G4, 16, none⟩ (.slice none 0 0)) G4 30 ({ { m.with fr pr pi bl pe di with bl := bl4, pe := pe4, dleft := E.left } with di := ⟨none, 0, 0⟩ } : Mac).cells := b6.set 16 _
    have g7 := grown_cells (g := G4) [.slice none 0 0] 16 w6
    change w6.grownBy (w6.setCell ⟨G4, 16, none⟩ (.slice none 0 0)) (some G4) at g7
    have bR7 := bR6.grown g7 (by intro e; injection e with e; omega)
    have hF7 := hF6.grown (by decide) b6 g7
    have kb7 := kb6.grown (by decide) b6 g7
    have kp7 := kp6.grown (by decide) b6 g7
    have x7 := x6.grown g7 (fun j e => by cases e; omega)
    clear bL fL b6 g7 bR6 hF6 kb6 kp6 x6
    generalize w6.setCell ⟨G4, 16, none⟩ (.slice none 0 0) = w7 at *
    go_wp2_with (first
      | (refine wp_ld_mac (.tmp 4) rfl rfl G4 _ _ rfl b7 rfl ?_)
      | (refine wp_st_mac (.tmp 2) (.tmp 22) rfl rfl (G + 1) ({ { m.with fr pr pi bl pe di with bl := bl4, pe := pe4, dleft := E.left } with di := ⟨none, 0, 0⟩ } : Mac) _ 30 rfl rfl bR7 rfl ?_; intro w9 b9 g9))
    have hF9 := hF7.grown (by decide) bR7 g9
    have kb9 := kb7.grown (by decide) bR7 g9
    have kp9 := kp7.grown (by decide) bR7 g9
    refine bodyPost_ret (results_cell2 rfl _ _ (G + 1) _ _ _ (.int .i64 0) rfl rfl b9 Tryz.underlying30 rfl macSize) rfl (SyncR.mk HR ⟨hF9.fr, hF9.pr, hF9.pi, kb9, kp9, RowF.nil, hF9.initk, hF9.innk, HWf.out⟩ rfl ⟨rfl, rfl, rfl, rfl, rfl, rfl, rfl, rfl, rfl, rfl⟩ (x7.grown g9 (fun j e => by cases e; omega)))
  · go_wp2_with (first
      | (refine wp_ld_mac (.tmp 4) rfl rfl G4 _ _ rfl b6 rfl ?_)
      | (refine wp_st_mac (.tmp 2) (.tmp 22) rfl rfl (G + 1) ({ m.with fr pr pi bl pe di with bl := bl4, pe := pe4, dleft := E.left } : Mac) _ 30 rfl rfl bR6 rfl ?_; intro w9 b9 g9))
    have hF9 := hF6.grown (by decide) bR6 g9
    have kb9 := kb6.grown (by decide) bR6 g9
    have kp9 := kp6.grown (by decide) bR6 g9
    refine bodyPost_ret (results_cell2 rfl _ _ (G + 1) _ _ _ (.int .i64 17) rfl rfl b9 Tryz.underlying30 rfl macSize) rfl (SyncR.mk HR ⟨hF9.fr, hF9.pr, hF9.pi, kb9, kp9, hF9.di, hF9.initk, hF9.innk, HWf.out⟩ rfl ⟨rfl, rfl, rfl, rfl, rfl, rfl, rfl, rfl, rfl, rfl⟩ (x6.grown g9 (fun j e => by cases e; omega)))
end Go.Proofs.YtkokmnaicfdjaaaGreatDoor
/- The document's machines: disk. -/
namespace Go.Proofs.YtkokmnaicfdjaaaGreatDoor
set_option linter.unusedVariables false
set_option linter.unusedSimpArgs false
open Go.RowKit

theorem OfR.some {v : List (List UInt8)} {e : Ending} (h : OfR v e) : ∃ (g : Value) (n : Int), e = .returned (.tuple #[g, .int .i64 n]) ∧ (n = 0 → ∃ I, Good v I) := by
  rcases h with ⟨I, hI, rfl⟩ | rfl
  · exact ⟨_, 0, rfl, fun _ => ⟨I, hI⟩⟩
  · exact ⟨_, 3, rfl, fun h => by omega⟩
/-- what a machine's drive is, if there is nothing to say against it -/
def DiskOk (d : MacD) : Prop := jrnE d.bl d.pe = 0 ∧ d.di.length ≤ 32 ∧ (∀ (i : Nat) (h : i < d.di.length), 0 ≤ d.di[i].1 ∧ d.di[i].1 < ((d.bl.length - 33 : Nat) : Int) ∧ d.di[i].2.length = 128 ∧ (0 < i → (d.di[i - 1]'(by omega)).1 < d.di[i].1)) ∧ ∃ I, Good (viewP d.bl d.pe d.di) I
def DiskR (d : MacD) (e : Ending) : Prop := ∃ n : Int, e = .returned (.int .i64 n) ∧ (n = 0 → DiskOk d)
set_option maxHeartbeats 4000000 in
set_option maxRecDepth 100000 in
theorem rdisk_any (m : Mac) (d : MacD) (w : World) (h : MacIn w m d) :
    Calls Tryz.prog 29 #[.agg m.cells] w fun e w' => DiskR d e ∧ Ext w w' := by
  obtain ⟨hb, hp, hd, hpn, hdn, hbc⟩ := h.drv
  have HC := Lib.hid (fun w h1 h2 => rdcheck_any m.bl.A m.pe.A m.bl.n m.bl.c m.pe.n m.pe.c m.dleft d.bl d.pe w h1 h2 hpn)
  have HH := Lib.hid (fun w h1 h2 => rhome_any m.bl.A m.pe.A m.bl.n m.bl.c m.pe.n m.pe.c m.dleft d.bl d.pe w h1 h2 hpn)
  have HV := Lib.hid (fun w h1 h2 => rvolume_any m d w h1 h2)
  go_enter Tryz.func29, Tryz.ntmps29
  go_upto_region 1 with fail
  have xa : Ext w (w.alloc (.cells m.cells 30)) := (Ext.refl _).alloc _
  have bm := Box.new w 30 m.cells
  generalize w.alloc (.cells m.cells 30) = w1 at *
  have q13 : w1.cell? ⟨w.heap.size, 13, none⟩ = some (.slice m.bl.A m.bl.n m.bl.c) := bm.cell 13
  have q14 : w1.cell? ⟨w.heap.size, 14, none⟩ = some (.slice m.pe.A m.pe.n m.pe.c) := bm.cell 14
  have q15 : w1.cell? ⟨w.heap.size, 15, none⟩ = some (.int .i64 m.dleft) := bm.cell 15
  have hs := hb.ext xa
  have hw := hp.ext xa
  have hdE : drvE d.bl d.pe ≠ 0 → jrnE d.bl d.pe ≠ 0 := fun h => by unfold jrnE; rw [if_pos h]; exact h
  by_cases h0 : drvE d.bl d.pe = 0
  · rw [h0] at HC
    go_upto_region 4 with (go_at_call 55; refine (HC.out _ hs hw).mono ?_; rintro e w2 ⟨rfl, x2⟩)
    have bm2 := bm.ext x2
    have x2a := xa.trans x2
    clear q13 q14 q15
    have q13 : w2.cell? ⟨w.heap.size, 13, none⟩ = some (.slice m.bl.A m.bl.n m.bl.c) := bm2.cell 13
    have q14 : w2.cell? ⟨w.heap.size, 14, none⟩ = some (.slice m.pe.A m.pe.n m.pe.c) := bm2.cell 14
    have q15 : w2.cell? ⟨w.heap.size, 15, none⟩ = some (.int .i64 m.dleft) := bm2.cell 15
    by_cases hj : jrnE d.bl d.pe = 0
    · have hl := homeP_len hj
      have hlst := (drvOk_of hj).least
      have HJ := Lib.hid hj
      clear hj hdE h0 HC
      rw [hl] at HH
      go_upto_region 5 with (go_at_call 31; refine (HH.out _ (hb.ext x2a) (hp.ext x2a)).mono ?_; rintro e w3 ⟨A1, c1, rfl, x3, own1⟩)
      have bm3 := bm2.ext x3
      have x3a := x2a.trans x3
      clear q13 q14 q15 own1 HH hs hw
      obtain ⟨N, hN⟩ : ∃ N : Nat, N = d.bl.length - 33 := ⟨_, rfl⟩
      have hN0 : 0 < N := by omega
      rw [← hN]
      have HN := Lib.hid hN
      have q16 : w3.cell? ⟨w.heap.size, 16, none⟩ = some (.slice m.di.A m.di.n m.di.c) := bm3.cell 16
      have hNe : ((N : Int) == 0) = false := by simp; omega
      clear hN hl hlst
      obtain ⟨hd1, hd2⟩ := hd
      have HD1 := Lib.hid hd1
      clear hd1
      by_cases h32 : 32 < m.di.n
      · go_wp2_with fail
        go_ret
        exact ⟨⟨6, rfl, fun h => by omega⟩, x3a⟩
      · go_wp2_with fail
        have HM := Lib.hid (show MacIn w m d from h)
        have HDK := Lib.hid (show (∀ (i : Nat) (h : i < d.di.length), 0 ≤ d.di[i].1 ∧ d.di[i].1 < (N : Int) ∧ d.di[i].2.length = 128 ∧ (0 < i → (d.di[i - 1]'(by omega)).1 < d.di[i].1)) → (∃ I, Good (viewP d.bl d.pe d.di) I) → DiskOk d from fun h1 h2 => ⟨HJ.out, by rw [← HD1.out]; omega, by rw [← HN.out]; exact h1, h2⟩)
        clear h q16
        go_loopw [5, 6, 26] (fun _ _ i wx => ∃ k : Nat, k ≤ m.di.n ∧ i = .int .i64 k ∧ Ext w3 wx ∧ ∀ (i : Nat) (h : i < d.di.length), i < k → 0 ≤ d.di[i].1 ∧ d.di[i].1 < (N : Int) ∧ d.di[i].2.length = 128 ∧ (0 < i → (d.di[i - 1]'(by omega)).1 < d.di[i].1)) (fun _ _ i _ => m.di.n - (intOf i).toNat)
        case atStart => exact ⟨0, by omega, rfl, Ext.refl _, fun i _ h => by omega⟩
        case round =>
          obtain ⟨k, hk, rfl, xk, hall⟩ := hrel
          have HA := Lib.hid hall
          clear hall
          have r16 : wr.cell? ⟨w.heap.size, 16, none⟩ = some (.slice m.di.A m.di.n m.di.c) := (bm3.ext xk).cell 16
          by_cases hlt : k < m.di.n
          · obtain ⟨b, o, hA, hcell⟩ := hd2 (by omega)
            have hlk : k < d.di.length := by rw [← HD1.out]; exact hlt
            have e1 := (x3a.trans xk).keep (hcell k hlk).1
            have e2 := (x3a.trans xk).keep (hcell k hlk).2
            have e0 : 0 < k → wr.cell? ⟨b, o + (k - 1) * 2, none⟩ = some (.int .i64 (d.di[k - 1]'(by omega)).1) := fun h => (x3a.trans xk).keep (hcell (k - 1) (by omega)).1
            have HS := Lib.hid (show (0 ≤ d.di[k].1 ∧ d.di[k].1 < (N : Int) ∧ d.di[k].2.length = 128 ∧ (0 < k → (d.di[k - 1]'(by omega)).1 < d.di[k].1)) → ∀ (i : Nat) (h : i < d.di.length), i < k + 1 → 0 ≤ d.di[i].1 ∧ d.di[i].1 < (N : Int) ∧ d.di[i].2.length = 128 ∧ (0 < i → (d.di[i - 1]'(by omega)).1 < d.di[i].1) from fun h i hi hik => by
              by_cases e : i < k
              · exact HA.out i hi e
              · obtain rfl : i = k := by omega
                exact h)
            clear HA hcell
            have hz := str_size
            have hkn : (k : Int) < (m.di.n : Int) := by omega
            generalize d.di[k] = y at *
            generalize hprv : d.di[k - 1]'(by omega) = prv at *
            clear hprv
            rw [hA] at r16
            go_upto_region 12 with fail
            have E1 : (wr.alloc (.cells #[.int .i64 y.1, .string (str y.2)] 57)).cell? ⟨w.heap.size, 16, none⟩ = some (.slice (some ⟨b, o, none⟩) m.di.n m.di.c) := ((Ext.refl wr).alloc _).keep r16
            have E0 : 0 < k → (wr.alloc (.cells #[.int .i64 y.1, .string (str y.2)] 57)).cell? ⟨b, o + (k - 1) * 2, none⟩ = some (.int .i64 prv.1) := fun h => ((Ext.refl wr).alloc _).keep (e0 h)
            clear e0 e1 e2 r16
            by_cases n0 : y.1 < 0
            · have d0 : decide (y.1 < 0) = true := decide_eq_true n0
              clear E0
              go_quiet (fail)
              go_wp2_with fail
              go_ret
              exact ⟨⟨3, rfl, fun h => by omega⟩, x3a.trans ((xk.alloc _).drewN _)⟩
            · have d0 : decide (y.1 < 0) = false := decide_eq_false n0
              by_cases n1 : (N : Int) ≤ y.1
              · have d1 : decide ((N : Int) ≤ y.1) = true := decide_eq_true n1
                clear E0
                go_quiet (fail)
                go_wp2_with fail
                go_ret
                exact ⟨⟨3, rfl, fun h => by omega⟩, x3a.trans ((xk.alloc _).drewN _)⟩
              · have d1 : decide ((N : Int) ≤ y.1) = false := decide_eq_false n1
                by_cases n2 : y.2.length = 128
                · have d2 : ((y.2.length : Int) != 128) = false := by rw [n2]; rfl
                  by_cases n3 : 0 < k
                  · have d3 : decide ((0 : Int) < (k : Int)) = true := by simp; omega
                    have E0' := E0 n3
                    have k1 : (k : Int) - 1 = ((k - 1 : Nat) : Int) := by omega
                    have k2 : IntKind.i64.wrap ((k : Int) - 1) = ((k - 1 : Nat) : Int) := by rw [IntKind.wrap_i64]; omega
                    have k3 : ((k - 1 : Nat) : Int) < (m.di.n : Int) := by omega
                    clear E0
                    by_cases n4 : y.1 ≤ prv.1
                    · have d4 : decide (y.1 ≤ prv.1) = true := decide_eq_true n4
                      go_quiet (fail)
                      go_wp2_with fail
                      go_ret
                      exact ⟨⟨3, rfl, fun h => by omega⟩, x3a.trans ((xk.alloc _).drewN _)⟩
                    · have d4 : decide (y.1 ≤ prv.1) = false := decide_eq_false n4
                      go_quiet (fail)
                      go_wp2_with fail
                      go_roundw
                      case rel => exact ⟨k + 1, by omega, by go_num, (xk.alloc _).drewN _, HS.out ⟨by omega, by omega, n2, fun _ => by omega⟩⟩
                      case measure => simp [intOf]; omega
                  · have d3 : decide ((0 : Int) < (k : Int)) = false := by simp; omega
                    clear E0
                    go_quiet (fail)
                    go_wp2_with fail
                    go_roundw
                    case rel => exact ⟨k + 1, by omega, by go_num, (xk.alloc _).drewN _, HS.out ⟨by omega, by omega, n2, fun h => absurd h n3⟩⟩
                    case measure => simp [intOf]; omega
                · have d2 : ((y.2.length : Int) != 128) = true := by simp; omega
                  clear E0
                  go_quiet (fail)
                  go_wp2_with fail
                  go_ret
                  exact ⟨⟨3, rfl, fun h => by omega⟩, x3a.trans ((xk.alloc _).drewN _)⟩
          · obtain rfl : k = m.di.n := by omega
            have HAll := Lib.hid (fun (i : Nat) (h : i < d.di.length) => HA.out i h (by rw [HD1.out]; exact h))
            clear HA r16
            have bmk := bm3.ext xk
            have hmk := HM.out.ext (x3a.trans xk)
            go_wp2_with (first
              | (refine wp_ld_mac (.tmp 1) rfl rfl w.heap.size _ 30 rfl bmk rfl ?_)
              | (go_at_call 57; refine (HV.out _ hmk HJ.out).mono ?_; rintro e w4 ⟨A4, c4, rfl, x4, own4⟩; have s4 := Strs.own own4)
              | (go_at_call 56; refine (rof_any _ _ _ _ _ s4 (by have := s4.1; have := viewP_len (d := d.di) HJ.out; have := (drvOk_of HJ.out).most; omega)).mono ?_; rintro e w5 ⟨hof, x5⟩; obtain ⟨g5, n5, rfl, hn5⟩ := hof.some; have HN5 := Lib.hid hn5; clear hn5 hof))
            go_ret
            exact ⟨⟨n5, rfl, fun h => HDK.out HAll.out (HN5.out h)⟩, (x3a.trans xk).trans (x4.trans x5)⟩
    · have HE := Lib.hid (show homeP d.bl d.pe = [] by unfold homeP; rw [if_pos hj])
      rw [HE.out] at HH
      clear hdE hj HC
      go_wp2_with (go_at_call 31; refine (HH.out _ (hb.ext x2a) (hp.ext x2a)).mono ?_; rintro e w3 ⟨A1, c1, rfl, x3, own1⟩)
      go_ret
      exact ⟨⟨3, rfl, fun h => by omega⟩, x2a.trans x3⟩
  · have d1 : (drvE d.bl d.pe != 0) = true := by simpa using h0
    have HZ := Lib.hid h0
    clear h0
    obtain ⟨dd, hdd⟩ : ∃ dd, dd = drvE d.bl d.pe := ⟨_, rfl⟩
    rw [← hdd] at HC d1 HZ
    clear hdd
    go_wp2_with (go_at_call 55; refine (HC.out _ hs hw).mono ?_; rintro e w2 ⟨rfl, x2⟩)
    go_ret
    exact ⟨⟨dd, rfl, fun h => absurd h HZ.out⟩, xa.trans x2⟩
end Go.Proofs.YtkokmnaicfdjaaaGreatDoor
/- The document's machines: process. -/
namespace Go.Proofs.YtkokmnaicfdjaaaGreatDoor
set_option linter.unusedVariables false
set_option linter.unusedSimpArgs false
open Go.RowKit

def SomeBV (v : Value) : Prop := ∃ b, v = .bool b
set_option maxHeartbeats 40000000 in
set_option maxRecDepth 100000 in
theorem rprocess_any (m : Mac) (d : MacD) (y : PrT) (w : World) (h : MacIn w m d) :
    Calls Tryz.prog 28 #[.agg m.cells, .agg (prL y).toArray] w fun e w' => SomeB e ∧ Ext w w' := by
  have HL := Lib.hid (fun id w h => lives_any m d id w h)
  have HU := Lib.hid (fun id w h => users_any m d id w h)
  have HF := Lib.hid (fun k n p w h => rfd_any m d k n p w h)
  go_enter Tryz.func28, Tryz.ntmps28
  go_upto_region 1 with fail
  have xa : Ext w ((w.alloc (.cells m.cells 30)).alloc (.cells (prL y).toArray 72)) := ((Ext.refl _).alloc _).alloc _
  have bm := (Box.new w 30 m.cells).ext ((Ext.refl _).alloc (.cells (prL y).toArray 72))
  have bp := Box.new (w.alloc (.cells m.cells 30)) 72 (prL y).toArray
  rw [World.size_alloc] at bp
  generalize (w.alloc (.cells m.cells 30)).alloc (.cells (prL y).toArray 72) = w1 at *
  have h1 := h.ext xa
  have cf : ∀ wx, Ext w1 wx → wx.cell? ⟨w.heap.size + 1, 0, none⟩ = some (.int .i64 y.pid) ∧ wx.cell? ⟨w.heap.size + 1, 1, none⟩ = some (.int .i64 y.parent) ∧ wx.cell? ⟨w.heap.size + 1, 2, none⟩ = some (.int .i64 y.state) ∧ wx.cell? ⟨w.heap.size + 1, 3, none⟩ = some (.int .u32 (y.reg 0)) ∧ wx.cell? ⟨w.heap.size + 1, 93, none⟩ = some (.int .u32 y.code) ∧ wx.cell? ⟨w.heap.size + 1, 94, none⟩ = some (.int .i64 y.why) ∧ wx.cell? ⟨w.heap.size + 1, 95, none⟩ = some (.int .u64 y.num) ∧ wx.cell? ⟨w.heap.size, 6, none⟩ = some (.int .i64 m.next) ∧ wx.cell? ⟨w.heap.size, 4, none⟩ = some (.slice m.fr.A m.fr.n m.fr.c) := fun wx x =>
    ⟨(bp.ext x).cell 0, (bp.ext x).cell 1, (bp.ext x).cell 2, (bp.ext x).cell 3, (bp.ext x).cell 93, (bp.ext x).cell 94, (bp.ext x).cell 95, (bm.ext x).cell 6, (bm.ext x).cell 4⟩
  have CF := Lib.hid cf
  clear cf
  obtain ⟨p0, p1, p2, p3, p93, p94, p95, m6, m4⟩ := CF.out _ (Ext.refl w1)
  go_upto_region 3 with fail
  generalize (y.state == 3) = dead at *
  generalize (y.state == 2) = waits at *
  go_cut [47] (fun s wx => SomeBV s ∧ w1 = wx)
  case first =>
    as_aux_lemma =>
      have d1 := Bool.eq_false_or_eq_true (decide (y.pid < 1))
      have d2 := Bool.eq_false_or_eq_true (decide (m.next ≤ y.pid))
      have d3 := Bool.eq_false_or_eq_true (y.state != 1)
      clear p1 p93 p94 p95 m4
      rcases d1 with d1 | d1
      · clear d2 d3
        go_wp2_with fail
        go_meet
        exact ⟨⟨_, rfl⟩, rfl⟩
      · rcases d2 with d2 | d2
        · clear d3
          go_wp2_with fail
          go_meet
          exact ⟨⟨_, rfl⟩, rfl⟩
        · rcases d3 with d3 | d3
          · cases waits
            · cases dead
              · go_wp2_with fail
                go_meet
                exact ⟨⟨_, rfl⟩, rfl⟩
              · go_wp2_with fail
                go_meet
                exact ⟨⟨_, rfl⟩, rfl⟩
            · go_wp2_with fail
              go_meet
              exact ⟨⟨_, rfl⟩, rfl⟩
          · go_wp2_with fail
            go_meet
            exact ⟨⟨_, rfl⟩, rfl⟩
  case rest =>
    obtain ⟨⟨b47, rfl⟩, rfl⟩ := hcut
    cases b47 with
    | true =>
      go_wp2_with fail
      go_ret
      exact ⟨⟨_, rfl⟩, xa⟩
    | false =>
      go_upto_region 5 with fail
      go_cut [60] (fun s wx => SomeBV s ∧ Ext w1 wx)
      case first =>
        as_aux_lemma =>
          cases dead <;> go_wp2_with (first
            | (refine wp_ld_mac (.tmp 2) rfl rfl w.heap.size _ 30 rfl bm rfl ?_)
            | (go_at_call 52; refine (HL.out _ _ h1).mono ?_; rintro e w2 ⟨⟨b2, rfl⟩, x2⟩; have p1' := x2.keep p1))
          all_goals
            go_meet
            exact ⟨⟨_, rfl⟩, x2⟩
      case rest =>
        obtain ⟨⟨b60, rfl⟩, x5⟩ := hcut
        clear p0 p1 p2 p3 p93 p94 p95 m6 m4
        obtain ⟨p0, p1, p2, p3, p93, p94, p95, m6, m4⟩ := CF.out _ x5
        cases b60 with
        | true =>
          go_wp2_with fail
          go_ret
          exact ⟨⟨_, rfl⟩, xa.trans x5⟩
        | false =>
          go_upto_region 7 with fail
          go_cut [93] (fun s wx => SomeBV s ∧ wc = wx)
          case first =>
            as_aux_lemma =>
              have d1 := Bool.eq_false_or_eq_true (y.why != 0)
              have d2 := Bool.eq_false_or_eq_true (decide (y.why < 0))
              have d3 := Bool.eq_false_or_eq_true (decide (5 < y.why))
              have d4 := Bool.eq_false_or_eq_true (y.num != 0)
              clear p0 p1 p2 p3 m6 m4
              cases waits
              · rcases d1 with d1 | d1
                · clear d2 d3 d4
                  go_wp2_with fail
                  go_meet
                  exact ⟨⟨_, rfl⟩, rfl⟩
                · skip
                  rcases d2 with d2 | d2
                  · clear d3 d4
                    go_wp2_with fail
                    go_meet
                    exact ⟨⟨_, rfl⟩, rfl⟩
                  · rcases d3 with d3 | d3
                    · clear d4
                      go_wp2_with fail
                      go_meet
                      exact ⟨⟨_, rfl⟩, rfl⟩
                    · rcases d4 with d4 | d4
                      · go_wp2_with fail
                        go_meet
                        exact ⟨⟨_, rfl⟩, rfl⟩
                      · cases dead
                        · go_wp2_with fail
                          go_meet
                          exact ⟨⟨_, rfl⟩, rfl⟩
                        · go_wp2_with fail
                          go_meet
                          exact ⟨⟨_, rfl⟩, rfl⟩
              · rcases d1 with d1 | d1
                · skip
                  rcases d2 with d2 | d2
                  · clear d3 d4
                    go_wp2_with fail
                    go_meet
                    exact ⟨⟨_, rfl⟩, rfl⟩
                  · rcases d3 with d3 | d3
                    · clear d4
                      go_wp2_with fail
                      go_meet
                      exact ⟨⟨_, rfl⟩, rfl⟩
                    · clear d4
                      cases dead
                      · go_wp2_with fail
                        go_meet
                        exact ⟨⟨_, rfl⟩, rfl⟩
                      · go_wp2_with fail
                        go_meet
                        exact ⟨⟨_, rfl⟩, rfl⟩
                · clear d2 d3 d4
                  go_wp2_with fail
                  go_meet
                  exact ⟨⟨_, rfl⟩, rfl⟩
          case rest =>
            obtain ⟨⟨b93, rfl⟩, rfl⟩ := hcut
            cases b93 with
            | true =>
              go_wp2_with fail
              go_ret
              exact ⟨⟨_, rfl⟩, xa.trans x5⟩
            | false =>
              clear p0 p1 p2 p3 p93 p94 p95 m6 m4
              have bp5 := bp.ext x5
              go_wp2_with (refine wp_ld_space (.tmp 94) rfl rfl (w.heap.size + 1) 72 y rfl bp5 ?_)
              go_loopw [96] (fun i wx => ∃ j : Nat, j ≤ 16 ∧ i = .int .i64 j ∧ Ext w1 wx) (fun i _ => 16 - (intOf i).toNat)
              case atStart => exact ⟨0, by omega, rfl, x5⟩
              case round =>
                clear x5 bp5
                obtain ⟨j, hj, rfl, xj⟩ := hrel
                by_cases hj2 : j < 16
                · have hji : (j : Int) < 16 := by omega
                  go_upto_region 12 with (refine wp_idx_pte (.tmp 95) (.tmp 96) rfl rfl y j rfl rfl hj2 ?_)
                  generalize y.pis j = ia
                  generalize y.pwr j = iw
                  generalize y.pfr j = ifr
                  have bq := Box.new wr 65 #[.bool ia, .bool iw, .int .i64 ifr]
                  have xq := xj.alloc (.cells #[.bool ia, .bool iw, .int .i64 ifr] 65)
                  generalize wr.alloc (.cells #[.bool ia, .bool iw, .int .i64 ifr] 65) = wq at *
                  have q0 := bq.cell 0
                  have q1 := bq.cell 1
                  have q2 := bq.cell 2
                  go_cut [9] (fun s wx => SomeBV s ∧ wq = wx)
                  case first =>
                    as_aux_lemma =>
                      cases ia <;> cases iw <;> go_wp2_with fail
                      all_goals
                        go_meet
                        exact ⟨⟨_, rfl⟩, rfl⟩
                  case rest =>
                    obtain ⟨⟨b9, rfl⟩, rfl⟩ := hcut
                    have m4 := (CF.out _ xq).2.2.2.2.2.2.2.2
                    have bmq := bm.ext xq
                    have h2 := h1.ext xq
                    go_upto_region 13 with fail
                    go_cut [135] (fun s wx => SomeBV s ∧ Ext wq wx)
                    case first =>
                      as_aux_lemma =>
                        have dA := Bool.eq_false_or_eq_true (decide (ifr < 0))
                        have dB := Bool.eq_false_or_eq_true (decide ((m.fr.n : Int) ≤ ifr))
                        cases ia
                        · clear dA dB
                          cases b9
                          · go_wp2_with fail
                            go_meet
                            exact ⟨⟨_, rfl⟩, Ext.refl _⟩
                          · go_wp2_with fail
                            go_meet
                            exact ⟨⟨_, rfl⟩, Ext.refl _⟩
                        · cases dead
                          · rcases dA with dA | dA
                            · clear dB
                              go_wp2_with fail
                              go_meet
                              exact ⟨⟨_, rfl⟩, Ext.refl _⟩
                            · rcases dB with dB | dB
                              · go_wp2_with fail
                                go_meet
                                exact ⟨⟨_, rfl⟩, Ext.refl _⟩
                              · go_wp2_with (first
                                  | (refine wp_ld_mac_g (.tmp 2) rfl rfl w.heap.size m 30 rfl bmq ?_)
                                  | (go_at_call 53; refine (HU.out _ _ h2).mono ?_; rintro e w2 ⟨⟨b2, rfl⟩, x2⟩))
                                go_meet
                                exact ⟨⟨_, rfl⟩, x2⟩
                          · clear dA dB
                            go_wp2_with fail
                            go_meet
                            exact ⟨⟨_, rfl⟩, Ext.refl _⟩
                    case rest =>
                      obtain ⟨⟨b135, rfl⟩, x9⟩ := hcut
                      cases b135 with
                      | true =>
                        go_wp2_with fail
                        go_ret
                        exact ⟨⟨_, rfl⟩, xa.trans (xq.trans x9)⟩
                      | false =>
                        go_wp2_with fail
                        go_roundw
                        case rel => exact ⟨j + 1, by omega, by go_num, xq.trans x9⟩
                        case measure => simp [intOf]; omega
                · obtain rfl : j = 16 := by omega
                  have bp5 := bp.ext xj
                  go_wp2_with (refine wp_ld_fds (.tmp 137) rfl rfl (w.heap.size + 1) 72 y rfl bp5 ?_)
                  go_loopw [139] (fun i wx => ∃ j : Nat, j ≤ 8 ∧ i = .int .i64 j ∧ Ext w1 wx) (fun i _ => 8 - (intOf i).toNat)
                  case atStart => exact ⟨0, by omega, rfl, xj⟩
                  case round =>
                    clear xj bp5
                    obtain ⟨j, hj, rfl, xj⟩ := hrel
                    by_cases hj2 : j < 8
                    · have hji : (j : Int) < 8 := by omega
                      go_upto_region 19 with (refine wp_idx_fd (.tmp 138) (.tmp 139) rfl rfl y j rfl rfl hj2 ?_)
                      generalize y.fk j = ik
                      generalize y.fn j = ifn
                      generalize y.fp j = ifp
                      have bq := Box.new wr 69 #[.int .i64 ik, .int .i64 ifn, .int .i64 ifp]
                      have xq := xj.alloc (.cells #[.int .i64 ik, .int .i64 ifn, .int .i64 ifp] 69)
                      generalize wr.alloc (.cells #[.int .i64 ik, .int .i64 ifn, .int .i64 ifp] 69) = wq at *
                      have q0 : wq.cell? ⟨wr.heap.size, 0, none⟩ = some (.int .i64 ik) := bq.cell 0
                      have q1 := bq.cell 1
                      have q2 := bq.cell 2
                      have bmq := bm.ext xq
                      have h2 := h1.ext xq
                      go_cut [153] (fun s wx => SomeBV s ∧ Ext wq wx)
                      case first =>
                        as_aux_lemma =>
                          cases dead <;> go_wp2_with (first
                            | (refine wp_ld_mac (.tmp 2) rfl rfl w.heap.size _ 30 rfl bmq rfl ?_)
                            | (go_at_call 54; refine (HF.out _ _ _ _ h2).mono ?_; rintro e w2 ⟨⟨b2, rfl⟩, x2⟩; have q0' := x2.keep q0))
                          all_goals
                            go_meet
                            exact ⟨⟨_, rfl⟩, x2⟩
                      case rest =>
                        obtain ⟨⟨b153, rfl⟩, x9⟩ := hcut
                        cases b153 with
                        | true =>
                          go_wp2_with fail
                          go_ret
                          exact ⟨⟨_, rfl⟩, xa.trans (xq.trans x9)⟩
                        | false =>
                          go_wp2_with fail
                          go_roundw
                          case rel => exact ⟨j + 1, by omega, by go_num, xq.trans x9⟩
                          case measure => simp [intOf]; omega
                    · obtain rfl : j = 8 := by omega
                      go_wp2_with fail
                      go_ret
                      exact ⟨⟨_, rfl⟩, xa.trans xj⟩
end Go.Proofs.YtkokmnaicfdjaaaGreatDoor
/- The document's machines: Check. -/
namespace Go.Proofs.YtkokmnaicfdjaaaGreatDoor
set_option linter.unusedVariables false
set_option linter.unusedSimpArgs false
open Go.RowKit

section
variable {P : Program} {C : World → Prop} {o : Oper} {a : Act} {K : Act → Prop}
theorem quiet_load_mid (ty : TypeId) (x : Operand) (h : o.op = .load ty x) (b i : Nat) (hx : a.eval x = .pointer (some ⟨b, i, none⟩)) (cs : List Value) (d : TypeDesc) (hc : ∀ w, C w → w.rangeAt b i cs)
    (hu : P.underlying ty = some d) (hd : d.isRow = true) (hi : (P.info? ty).map (·.size) = some cs.length) (hk : K (a.put o.dst (.agg cs.toArray))) : o.quiet P a C K :=
  ⟨_, fun w hw => by
    unfold Oper.quietAt execOp
    simp only [h, hx, Instr.loadAt, Instr.sureAddr, Sem.run_bind, Sem.run_pure, Result.andThen_ok, run_loadVar_mid w b i ty cs d (hc w hw) hu hd hi]
    exact ⟨rfl, rfl⟩, hk⟩
end
theorem mac_range {w : World} {g : Nat} {t : TypeId} {m : Mac} (h : Box w g t m.cells) : w.rangeAt g 0 m.cells.toList := fun j v hj => by
  rw [Nat.zero_add]; exact (h.cell j).trans (by rw [← hj]; simp)
theorem pr_range0 {w : World} {g : Nat} {t : TypeId} {p : PrT} (h : Box w g t (prL p).toArray) : w.rangeAt g 0 (prL p) := fun j v hj => by
  rw [Nat.zero_add]; exact (h.cell j).trans (by rw [← hj]; simp)
section
variable {C : World → Prop} {o : Oper} {a : Act} {K : Act → Prop}
theorem quiet_ld_mac (x : Operand) (h : o.op = .load 30 x) (b : Nat) (hx : a.eval x = .pointer (some ⟨b, 0, none⟩)) (m : Mac) (hc : ∀ w, C w → w.rangeAt b 0 m.cells.toList) (hk : K (a.put o.dst (.agg m.cells))) : o.quiet Tryz.prog a C K :=
  quiet_load_mid _ x h b 0 hx _ _ hc Tryz.underlying30 rfl macSize hk
theorem quiet_ld_pr (x : Operand) (h : o.op = .load 72 x) (b : Nat) (hx : a.eval x = .pointer (some ⟨b, 0, none⟩)) (p : PrT) (hc : ∀ w, C w → w.rangeAt b 0 (prL p)) (hk : K (a.put o.dst (.agg (prL p).toArray))) : o.quiet Tryz.prog a C K :=
  quiet_load_mid _ x h b 0 hx _ _ hc Tryz.underlying72 rfl (by rw [prL_len]; exact prSize) hk
end
/-- what Check answers -/
def CheckR (d : MacD) (e : Ending) : Prop := ∃ n : Int, e = .returned (.int .i64 n) ∧ (n = 0 → DiskOk d)
set_option maxHeartbeats 40000000 in
set_option maxRecDepth 100000 in
theorem rcheck_any (m : Mac) (d : MacD) (w : World) (h : MacIn w m d) :
    Calls Tryz.prog 9 #[.agg m.cells] w fun e w' => CheckR d e ∧ Ext w w' := by
  have HP := Lib.hid (fun y w h => rprocess_any m d y w h)
  have HDI := Lib.hid (fun w h => rdisk_any m d w h)
  obtain ⟨hf1, hf2⟩ := h.fr.strs
  obtain ⟨hr1, hr2⟩ := h.pr
  obtain ⟨hi1, hi2⟩ := h.pi.wrs
  have hfk := h.frk.2.1
  have hrk := h.prk.2.1
  have hik := h.pik.2.1
  unfold maxLen at hfk hrk hik
  have HF1 := Lib.hid hf1
  have HR1 := Lib.hid hr1
  have HI1 := Lib.hid hi1
  have hz := str_size
  clear hf1 hr1 hi1
  go_enter Tryz.func9, Tryz.ntmps9
  go_upto_region 1 with fail
  have xa : Ext w (w.alloc (.cells m.cells 30)) := (Ext.refl _).alloc _
  have bm := Box.new w 30 m.cells
  generalize w.alloc (.cells m.cells 30) = w1 at *
  have HM := Lib.hid (h.ext xa)
  clear h
  obtain ⟨k0, k1, k2, k3, k4, k5, k6, k7, k8, k9, k10, k11, k12, k13, k14, k15, k16⟩ := mac_cells bm
  clear k0 k11 k12 k13 k14 k15 k16
  go_upto_region 2 with fail
  go_cut [56] (fun s wx => SomeBV s ∧ w1 = wx)
  case first =>
    clear k4 k5 k7 k8 k10
    go_wp2_with fail
    all_goals
      go_meet
      exact ⟨⟨_, rfl⟩, rfl⟩
  case rest =>
  obtain ⟨⟨b56, rfl⟩, rfl⟩ := hcut
  cases b56 with
  | true =>
    go_wp2_with fail
    go_ret
    exact ⟨⟨2, rfl, fun h => by omega⟩, xa⟩
  | false =>
  clear k1 k2 k3 k6 k9
  go_upto_region 4 with fail
  go_cut [66] (fun s wx => SomeBV s ∧ w1 = wx)
  case first =>
    go_wp2_with fail
    all_goals
      go_meet
      exact ⟨⟨_, rfl⟩, rfl⟩
  case rest =>
  obtain ⟨⟨b66, rfl⟩, rfl⟩ := hcut
  cases b66 with
  | true =>
    go_wp2_with fail
    go_ret
    exact ⟨⟨6, rfl, fun h => by omega⟩, xa⟩
  | false =>
  go_wp2_with fail
  generalize d.fr = fl at hf2 HF1
  generalize m.fr.A = fA at *
  go_loop [70] (fun i => ∃ j : Nat, j ≤ m.fr.n ∧ i = .int .i64 j) (fun i => m.fr.n - (intOf i).toNat)
  case atStart => exact ⟨0, by omega, rfl⟩
  case round =>
    obtain ⟨j, hj, rfl⟩ := hrel
    by_cases hlt : j < m.fr.n
    · obtain ⟨b, o, rfl, hcell⟩ := hf2 (by omega)
      have c1 := xa.keep (hcell j (by rw [← HF1.out]; exact hlt))
      generalize fl[j]'(by rw [← HF1.out]; exact hlt) = s at *
      have hjn : (j : Int) < (m.fr.n : Int) := by omega
      clear hcell
      by_cases hl : s.length = 128
      · have hl' : ((s.length : Int) != 128) = false := by rw [hl]; rfl
        clear hl
        go_wp2_with fail
        go_round
        case rel => exact ⟨j + 1, by omega, by go_num⟩
        case measure => simp [intOf]; omega
      · have hl' : ((s.length : Int) != 128) = true := by simp; omega
        go_wp2_with fail
        go_ret
        exact ⟨⟨3, rfl, fun h => by omega⟩, xa⟩
    · obtain rfl : j = m.fr.n := by omega
      by_cases h8 : 8 < m.pr.n
      · go_wp2_with fail
        go_ret
        exact ⟨⟨6, rfl, fun h => by omega⟩, xa⟩
      · go_wp2_with fail
        clear k4 k5 k7 k8 k10
        generalize d.pr = l at hr2 HR1
        generalize hrA : m.pr.A = A at hr2 ⊢
        have HRA := Lib.hid hrA
        clear hrA
        go_loopw [85] (fun i wx => ∃ k : Nat, k ≤ m.pr.n ∧ i = .int .i64 k ∧ Ext w1 wx) (fun i _ => m.pr.n - (intOf i).toNat)
        case atStart => exact ⟨0, by omega, rfl, Ext.refl _⟩
        case round =>
          obtain ⟨k, hk, rfl, xk⟩ := hrel
          by_cases hlt : k < m.pr.n
          · obtain ⟨b, o, rfl, hcell⟩ := hr2 (by omega)
            have hlk : k < l.length := by rw [← HR1.out]; exact hlt
            have r1 := range_ext (pr_range hcell hlk) (xa.trans xk)
            have e0 : 0 < k → wr.cell? ⟨b, o + (k - 1) * 96, none⟩ = some (.int .i64 (l[k - 1]'(by omega)).pid) := fun h => (xa.trans xk).keep (pr_range hcell (k := k - 1) (by omega) 0 _ rfl)
            clear hcell
            have hkn : (k : Int) < (m.pr.n : Int) := by omega
            generalize l[k] = y at *
            generalize hprv : l[k - 1]'(by omega) = prv at *
            clear hprv
            go_upto_region 17 with (first
              | (refine wp_ld_pr (.tmp 88) rfl rfl b (o + k * 96) y rfl r1 ?_)
              | (refine wp_st_pr (.tmp 7) (.tmp 89) rfl rfl wr.heap.size y _ 72 rfl rfl (Box.new _ _ _) rfl ?_; intro w2 b2 g2))
            have z2 : Ext wr w2 := ((Ext.refl wr).alloc _).grown g2 (fun j e => by cases e; exact Nat.le_refl _)
            have x2 := xk.trans z2
            have c0 : ∀ x : Later w2, x.now.cell? ⟨wr.heap.size, 0, none⟩ = some (.int .i64 y.pid) := fun x => (b2.ext x.ext).cell 0
            have k5 : ∀ x : Later w2, x.now.cell? ⟨w.heap.size, 5, none⟩ = some (.slice (some ⟨b, o, none⟩) m.pr.n m.pr.c) := fun x => by rw [← HRA.out]; exact ((bm.ext x2).ext x.ext).cell 5
            have rm : ∀ wx, (∃ x : Later w2, wx = x.now) → wx.rangeAt w.heap.size 0 m.cells.toList := fun wx ⟨x, hx⟩ => by rw [hx]; exact mac_range ((bm.ext x2).ext x.ext)
            have rp : ∀ wx, (∃ x : Later w2, wx = x.now) → wx.rangeAt wr.heap.size 0 (prL y) := fun wx ⟨x, hx⟩ => by rw [hx]; exact pr_range0 (b2.ext x.ext)
            have RM := Lib.hid rm
            have RP := Lib.hid rp
            have HPC : ∀ x : Later w2, Hid (Calls Tryz.prog 28 #[.agg m.cells, .agg (prL y).toArray] x.now fun e w' => SomeB e ∧ Ext x.now w') := fun x => Lib.hid (HP.out y _ (HM.out.ext (x2.trans x.ext)))
            clear r1 g2 rm rp
            have E0 : 0 < k → ∀ x : Later w2, x.now.cell? ⟨b, o + (k - 1) * 96, none⟩ = some (.int .i64 prv.pid) := fun h x => x.ext.keep (z2.keep (e0 h))
            clear e0
            by_cases n3 : 0 < k
            · have d3 : decide ((0 : Int) < (k : Int)) = true := by simp; omega
              have E0' := E0 n3
              clear E0
              have E0 := E0'
              clear E0'
              have kk1 : (k : Int) - 1 = ((k - 1 : Nat) : Int) := by omega
              have kk2 : IntKind.i64.wrap ((k : Int) - 1) = ((k - 1 : Nat) : Int) := by rw [IntKind.wrap_i64]; omega
              have kk3 : ((k - 1 : Nat) : Int) < (m.pr.n : Int) := by omega
              by_cases n4 : y.pid ≤ prv.pid
              · have d4 : decide (y.pid ≤ prv.pid) = true := decide_eq_true n4
                simp only [Act.put]
                refine wp_region_later_tail 17 (by kernel_rfl) (by kernel_rfl) ?_
                simp only [List.take_succ_cons, List.take_zero, List.drop_succ_cons, List.drop_zero]
                repeat (first
                  | (go_big_quiet_want; refine quiet_ld_mac (.tmp 1) rfl w.heap.size rfl m RM.out ?_; simp only [Act.put, List.setIfInBounds_toArray, List.set_cons_zero, List.set_cons_succ]; go_big_quiet_on)
                  | (go_big_quiet_want; refine quiet_ld_pr (.tmp 7) rfl wr.heap.size rfl y RP.out ?_; simp only [Act.put, List.setIfInBounds_toArray, List.set_cons_zero, List.set_cons_succ]; go_big_quiet_on)
                  | go_big_quiet_step (fail))
                refine wpQuiet_nil ?_
                rintro w3 ⟨x3, rfl⟩
                clear c0 k5 E0
                go_wp2_with fail
                go_ret
                exact ⟨⟨3, rfl, fun h => by omega⟩, (xa.trans x2).trans x3.ext⟩
              · have d4 : decide (y.pid ≤ prv.pid) = false := decide_eq_false n4
                simp only [Act.put]
                refine wp_region_later_tail 17 (by kernel_rfl) (by kernel_rfl) ?_
                simp only [List.take_succ_cons, List.take_zero, List.drop_succ_cons, List.drop_zero]
                repeat (first
                  | (go_big_quiet_want; refine quiet_ld_mac (.tmp 1) rfl w.heap.size rfl m RM.out ?_; simp only [Act.put, List.setIfInBounds_toArray, List.set_cons_zero, List.set_cons_succ]; go_big_quiet_on)
                  | (go_big_quiet_want; refine quiet_ld_pr (.tmp 7) rfl wr.heap.size rfl y RP.out ?_; simp only [Act.put, List.setIfInBounds_toArray, List.set_cons_zero, List.set_cons_succ]; go_big_quiet_on)
                  | go_big_quiet_step (fail))
                refine wpQuiet_nil ?_
                rintro w3 ⟨x3, rfl⟩
                clear c0 k5 E0
                go_wp2_with (go_at_call 28; refine (HPC x3).out.mono ?_; rintro e w4 ⟨⟨b4, rfl⟩, x4⟩)
                all_goals first
                  | (go_ret
                     exact ⟨⟨3, rfl, fun h => by omega⟩, ((xa.trans x2).trans x3.ext).trans x4⟩)
                  | (go_roundw
                     case rel => exact ⟨k + 1, by omega, by go_num, (x2.trans x3.ext).trans x4⟩
                     case measure => simp [intOf]; omega)
            · have d3 : decide ((0 : Int) < (k : Int)) = false := by simp; omega
              simp only [Act.put]
              refine wp_region_later_tail 17 (by kernel_rfl) (by kernel_rfl) ?_
              simp only [List.take_succ_cons, List.take_zero, List.drop_succ_cons, List.drop_zero]
              repeat (first
                | (go_big_quiet_want; refine quiet_ld_mac (.tmp 1) rfl w.heap.size rfl m RM.out ?_; simp only [Act.put, List.setIfInBounds_toArray, List.set_cons_zero, List.set_cons_succ]; go_big_quiet_on)
                | (go_big_quiet_want; refine quiet_ld_pr (.tmp 7) rfl wr.heap.size rfl y RP.out ?_; simp only [Act.put, List.setIfInBounds_toArray, List.set_cons_zero, List.set_cons_succ]; go_big_quiet_on)
                | go_big_quiet_step (fail))
              refine wpQuiet_nil ?_
              rintro w3 ⟨x3, rfl⟩
              clear c0 k5 E0
              go_wp2_with (go_at_call 28; refine (HPC x3).out.mono ?_; rintro e w4 ⟨⟨b4, rfl⟩, x4⟩)
              all_goals first
                | (go_ret
                   exact ⟨⟨3, rfl, fun h => by omega⟩, ((xa.trans x2).trans x3.ext).trans x4⟩)
                | (go_roundw
                   case rel => exact ⟨k + 1, by omega, by go_num, (x2.trans x3.ext).trans x4⟩
                   case measure => simp [intOf]; omega)
          · obtain rfl : k = m.pr.n := by omega
            have q8 : wr.cell? ⟨w.heap.size, 8, none⟩ = some (.slice m.pi.A m.pi.n m.pi.c) := (bm.ext xk).cell 8
            by_cases h64 : 64 < m.pi.n
            · go_wp2_with fail
              go_ret
              exact ⟨⟨6, rfl, fun h => by omega⟩, xa.trans xk⟩
            · go_wp2_with fail
              clear q8
              generalize wr = w5 at *
              generalize d.pi = pl at hi2 HI1
              go_loopw [118] (fun i wx => ∃ k : Nat, k ≤ m.pi.n ∧ i = .int .i64 k ∧ Ext w1 wx) (fun i _ => m.pi.n - (intOf i).toNat)
              case atStart => exact ⟨0, by omega, rfl, xk⟩
              case round =>
                clear xk
                obtain ⟨k, hk, rfl, xk⟩ := hrel
                by_cases hlt : k < m.pi.n
                · obtain ⟨b, o, hA, hcell⟩ := hi2 (by omega)
                  have hlk : k < pl.length := by rw [← HI1.out]; exact hlt
                  have e1 := (xa.trans xk).keep (hcell k hlk).1
                  have e2 := (xa.trans xk).keep (hcell k hlk).2
                  have e0 : 0 < k → wr.cell? ⟨b, o + (k - 1) * 2, none⟩ = some (.int .i64 (pl[k - 1]'(by omega)).1) := fun h => (xa.trans xk).keep (hcell (k - 1) (by omega)).1
                  have r8 : wr.cell? ⟨w.heap.size, 8, none⟩ = some (.slice m.pi.A m.pi.n m.pi.c) := (bm.ext xk).cell 8
                  have r9 : wr.cell? ⟨w.heap.size, 9, none⟩ = some (.int .i64 m.newPipe) := (bm.ext xk).cell 9
                  rw [hA] at r8
                  clear hcell
                  have hkn : (k : Int) < (m.pi.n : Int) := by omega
                  generalize pl[k] = y at *
                  generalize hprv : pl[k - 1]'(by omega) = prv at *
                  clear hprv
                  go_upto_region 25 with fail
                  have E1 : (wr.alloc (.cells #[.int .i64 y.1, .string (str y.2)] 59)).cell? ⟨w.heap.size, 8, none⟩ = some (.slice (some ⟨b, o, none⟩) m.pi.n m.pi.c) := ((Ext.refl wr).alloc _).keep r8
                  have E9 : (wr.alloc (.cells #[.int .i64 y.1, .string (str y.2)] 59)).cell? ⟨w.heap.size, 9, none⟩ = some (.int .i64 m.newPipe) := ((Ext.refl wr).alloc _).keep r9
                  have E0 : 0 < k → (wr.alloc (.cells #[.int .i64 y.1, .string (str y.2)] 59)).cell? ⟨b, o + (k - 1) * 2, none⟩ = some (.int .i64 prv.1) := fun h => ((Ext.refl wr).alloc _).keep (e0 h)
                  clear e0 e1 e2 r8 r9
                  by_cases n0 : y.1 < 1
                  · have d0 : decide (y.1 < 1) = true := decide_eq_true n0
                    clear E0
                    go_quiet (fail)
                    go_wp2_with fail
                    go_ret
                    exact ⟨⟨3, rfl, fun h => by omega⟩, (xa.trans xk).trans (((Ext.refl wr).alloc _).drewN _)⟩
                  · have d0 : decide (y.1 < 1) = false := decide_eq_false n0
                    by_cases n1 : m.newPipe ≤ y.1
                    · have d1 : decide (m.newPipe ≤ y.1) = true := decide_eq_true n1
                      clear E0
                      go_quiet (fail)
                      go_wp2_with fail
                      go_ret
                      exact ⟨⟨3, rfl, fun h => by omega⟩, (xa.trans xk).trans (((Ext.refl wr).alloc _).drewN _)⟩
                    · have d1 : decide (m.newPipe ≤ y.1) = false := decide_eq_false n1
                      by_cases n3 : 0 < k
                      · have d3 : decide ((0 : Int) < (k : Int)) = true := by simp; omega
                        have E0' := E0 n3
                        have kk1 : (k : Int) - 1 = ((k - 1 : Nat) : Int) := by omega
                        have kk2 : IntKind.i64.wrap ((k : Int) - 1) = ((k - 1 : Nat) : Int) := by rw [IntKind.wrap_i64]; omega
                        have kk3 : ((k - 1 : Nat) : Int) < (m.pi.n : Int) := by omega
                        clear E0
                        by_cases n4 : y.1 ≤ prv.1
                        · have d4 : decide (y.1 ≤ prv.1) = true := decide_eq_true n4
                          go_quiet (fail)
                          go_wp2_with fail
                          go_ret
                          exact ⟨⟨3, rfl, fun h => by omega⟩, (xa.trans xk).trans (((Ext.refl wr).alloc _).drewN _)⟩
                        · have d4 : decide (y.1 ≤ prv.1) = false := decide_eq_false n4
                          by_cases n2 : 64 < y.2.length
                          · have d2 : decide (64 < (y.2.length : Int)) = true := by simp; omega
                            go_quiet (fail)
                            go_wp2_with fail
                            go_ret
                            exact ⟨⟨3, rfl, fun h => by omega⟩, (xa.trans xk).trans (((Ext.refl wr).alloc _).drewN _)⟩
                          · have d2 : decide (64 < (y.2.length : Int)) = false := by simp; omega
                            go_quiet (fail)
                            go_wp2_with fail
                            go_roundw
                            case rel => exact ⟨k + 1, by omega, by go_num, (xk.alloc _).drewN _⟩
                            case measure => simp [intOf]; omega
                      · have d3 : decide ((0 : Int) < (k : Int)) = false := by simp; omega
                        clear E0
                        by_cases n2 : 64 < y.2.length
                        · have d2 : decide (64 < (y.2.length : Int)) = true := by simp; omega
                          go_quiet (fail)
                          go_wp2_with fail
                          go_ret
                          exact ⟨⟨3, rfl, fun h => by omega⟩, (xa.trans xk).trans (((Ext.refl wr).alloc _).drewN _)⟩
                        · have d2 : decide (64 < (y.2.length : Int)) = false := by simp; omega
                          go_quiet (fail)
                          go_wp2_with fail
                          go_roundw
                          case rel => exact ⟨k + 1, by omega, by go_num, (xk.alloc _).drewN _⟩
                          case measure => simp [intOf]; omega
                · obtain rfl : k = m.pi.n := by omega
                  obtain ⟨k0, k1, k2, k3, k4, k5, k6, k7, k8, k9, k10, k11, k12, k13, k14, k15, k16⟩ := mac_cells (bm.ext xk)
                  have bmk := bm.ext xk
                  clear k0 k1 k2 k3 k4 k5 k6 k8 k9 k11 k12 k13 k14 k15 k16
                  go_upto_region 28 with fail
                  go_cut [165] (fun s wx => SomeBV s ∧ wr = wx)
                  case first =>
                    go_wp2_with fail
                    all_goals
                      go_meet
                      exact ⟨⟨_, rfl⟩, rfl⟩
                  case rest =>
                    obtain ⟨⟨b165, rfl⟩, rfl⟩ := hcut
                    cases b165 with
                    | true =>
                      go_wp2_with fail
                      go_ret
                      exact ⟨⟨6, rfl, fun h => by omega⟩, xa.trans xk⟩
                    | false =>
                      clear k7 k10
                      go_wp2_with (first
                        | (refine wp_ld_mac (.tmp 1) rfl rfl w.heap.size _ 30 rfl bmk rfl ?_)
                        | (go_at_call 29; refine (HDI.out _ (HM.out.ext xk)).mono ?_; rintro e w6 ⟨⟨n6, rfl, hn6⟩, x6⟩; have HN6 := Lib.hid hn6; clear hn6))
                      go_ret
                      exact ⟨⟨n6, rfl, HN6.out⟩, (xa.trans xk).trans x6⟩
end Go.Proofs.YtkokmnaicfdjaaaGreatDoor
/- The document's machines: Great. -/
namespace Go.Proofs.YtkokmnaicfdjaaaGreatDoor
set_option linter.unusedVariables false
set_option linter.unusedSimpArgs false
open Go.RowKit

/-- a machine whose rows are short -/
structure MacLens (m : Mac) : Prop where
  fr : m.fr.n ≤ 250
  pr : m.pr.n ≤ 250
  pi : m.pi.n ≤ 250
  bl : m.bl.n ≤ 250
  pe : m.pe.n ≤ 250
  di : m.di.n ≤ 250
def GreatR (m : Mac) (e : Ending) : Prop := ∃ n : Int, e = .returned (.int .i64 n) ∧ (¬ 0 < n → MacLens m)
def sumL (m : Mac) : Int := (m.fr.n : Int) + m.pr.n + m.pi.n + m.di.n + m.bl.n + m.pe.n + ((m.inn.length : Int) + m.init.length) / 64
theorem great_len (m : Mac) (h : ¬ 250 < sumL m) : MacLens m := by
  unfold sumL at h
  have h0 : 0 ≤ ((m.inn.length : Int) + m.init.length) / 64 := Int.ediv_nonneg (by omega) (by omega)
  generalize ((m.inn.length : Int) + m.init.length) / 64 = x at *
  exact ⟨by omega, by omega, by omega, by omega, by omega, by omega⟩
def BoolLen (m : Mac) (v : Value) : Prop := ∃ b, v = .bool b ∧ (b = false → MacLens m)
def SomeBV' (v : Value) : Prop := ∃ b, v = .bool b
set_option maxHeartbeats 8000000 in
set_option maxRecDepth 100000 in
theorem rgreat_any (m : Mac) (d : MacD) (w : World) (h : MacIn w m d) (hr : MacReach m) :
    Calls Tryz.prog 8 #[.agg m.cells] w fun e w' => GreatR m e ∧ Ext w w' := by
  have HLen := Lib.hid (great_len m)
  have r1 := hr.fr
  have r2 := hr.pr
  have r3 := hr.pi
  have r4 := hr.bl
  have r5 := hr.pe
  have r6 := hr.di
  have r7 := hr.init
  have r8 := hr.inn
  clear hr
  obtain ⟨hf1, hf2⟩ := h.fr.strs
  obtain ⟨hb1, hb2⟩ := h.bl.strs
  obtain ⟨hp1, hp2⟩ := h.pe.wrs
  obtain ⟨hd1, hd2⟩ := h.di.wrs
  obtain ⟨hi1, hi2⟩ := h.pi.wrs
  have hz := str_size
  have hfk := h.frk.2.1
  have hbk := h.blk.2.1
  have hpk := h.pek.2.1
  have hdk := h.dik.2.1
  have hik := h.pik.2.1
  unfold maxLen at hfk hbk hpk hdk hik
  have HF1 := Lib.hid hf1
  have HB1 := Lib.hid hb1
  have HP1 := Lib.hid hp1
  have HD1 := Lib.hid hd1
  have HI1 := Lib.hid hi1
  clear h hf1 hb1 hp1 hd1 hi1
  go_enter Tryz.func8, Tryz.ntmps8
  go_upto_region 1 with fail
  have xa : Ext w (w.alloc (.cells m.cells 30)) := (Ext.refl _).alloc _
  have bm := Box.new w 30 m.cells
  generalize w.alloc (.cells m.cells 30) = w1 at *
  obtain ⟨k0, k1, k2, k3, k4, k5, k6, k7, k8, k9, k10, k11, k12, k13, k14, k15, k16⟩ := mac_cells bm
  clear k0 k1 k2 k3 k6 k9 k11 k12 k15
  go_cut [3] (fun s wx => s = .int .i64 (sumL m) ∧ w1 = wx)
  case first =>
    go_wp2_with fail
    go_meet
    exact ⟨rfl, rfl⟩
  case rest =>
  obtain ⟨rfl, rfl⟩ := hcut
  generalize sumL m = z at *
  go_upto_region 2 with fail
  go_cut [55] (fun s wx => BoolLen m s ∧ w1 = wx)
  case first =>
    rcases Bool.eq_false_or_eq_true (decide (250 < z)) with dz | dz
    · go_wp2_with fail
      all_goals
        go_meet
        exact ⟨⟨_, rfl, fun h => by cases h⟩, rfl⟩
    · have hzz : ¬ 250 < z := by simpa using dz
      have HL2 := Lib.hid (HLen.out hzz)
      clear hzz
      go_wp2_with fail
      all_goals
        go_meet
        exact ⟨⟨_, rfl, fun _ => HL2.out⟩, rfl⟩
  case rest =>
  obtain ⟨⟨b55, rfl, hb55⟩, rfl⟩ := hcut
  clear r1 r2 r3 r4 r5 r6 r7 r8 HLen
  cases b55 with
  | true =>
    go_wp2_with fail
    go_ret
    exact ⟨⟨_, rfl, fun h => absurd (by decide : (0 : Int) < 1) h⟩, xa⟩
  | false =>
  have HLens := Lib.hid (hb55 rfl)
  clear hb55
  go_wp2_with fail
  have b2 := Box.new w1 23 #[.slice m.fr.A m.fr.n m.fr.c, .slice m.bl.A m.bl.n m.bl.c]
  have xw2 : Ext w1 (w1.alloc (.cells #[.slice m.fr.A m.fr.n m.fr.c, .slice m.bl.A m.bl.n m.bl.c] 23)) := (Ext.refl _).alloc _
  have bm2 := bm.ext xw2
  clear k4 k5 k7 k8 k10 k13 k14 k16 bm
  generalize w1.alloc (.cells #[.slice m.fr.A m.fr.n m.fr.c, .slice m.bl.A m.bl.n m.bl.c] 23) = w2 at *
  go_loopw [63] (fun i wx => ∃ k : Nat, k ≤ 2 ∧ i = .int .i64 k ∧ Ext w2 wx) (fun i _ => 2 - (intOf i).toNat)
  case atStart => exact ⟨0, by omega, rfl, Ext.refl _⟩
  case round =>
    obtain ⟨k, hk, rfl, xk⟩ := hrel
    have c0 : wr.cell? ⟨w1.heap.size, 0, none⟩ = some (.slice m.fr.A m.fr.n m.fr.c) := (b2.ext xk).cell 0
    have c1 : wr.cell? ⟨w1.heap.size, 1, none⟩ = some (.slice m.bl.A m.bl.n m.bl.c) := (b2.ext xk).cell 1
    rcases (show k = 0 ∨ k = 1 ∨ k = 2 by omega) with rfl | rfl | rfl
    · clear c1
      have hs1 := Lib.hid HF1.out
      have hs2 := Lib.hid hf2
      generalize d.fr = l at hs1 hs2
      generalize m.fr.A = A at *
      go_wp2_with fail
      go_loop [69] (fun i => ∃ j : Nat, j ≤ m.fr.n ∧ i = .int .i64 j) (fun i => m.fr.n - (intOf i).toNat)
      case atStart => exact ⟨0, by omega, rfl⟩
      case round =>
        obtain ⟨j, hj, rfl⟩ := hrel
        by_cases hlt : j < m.fr.n
        · obtain ⟨b, o, rfl, hcell⟩ := hs2.out (by omega)
          have c1 := (xa.trans (xw2.trans xk)).keep (hcell j (by have := hs1.out; omega))
          generalize l[j]'(by have := hs1.out; omega) = s at *
          have hjn : (j : Int) < (m.fr.n : Int) := by omega
          clear hcell
          by_cases hl : 300 < s.length
          · go_wp2_with fail
            go_ret
            exact ⟨⟨_, rfl, fun _ => HLens.out⟩, xa.trans (xw2.trans xk)⟩
          · go_wp2_with fail
            go_round
            case rel => exact ⟨j + 1, by omega, by go_num⟩
            case measure => simp [intOf]; omega
        · obtain rfl : j = m.fr.n := by omega
          go_wp2_with fail
          go_roundw
          case rel => exact ⟨1, by omega, rfl, xk⟩
          case measure => simp [intOf]
    · clear c0
      have hs1 := Lib.hid HB1.out
      have hs2 := Lib.hid hb2
      generalize d.bl = l at hs1 hs2
      generalize m.bl.A = A at *
      go_wp2_with fail
      go_loop [69] (fun i => ∃ j : Nat, j ≤ m.bl.n ∧ i = .int .i64 j) (fun i => m.bl.n - (intOf i).toNat)
      case atStart => exact ⟨0, by omega, rfl⟩
      case round =>
        obtain ⟨j, hj, rfl⟩ := hrel
        by_cases hlt : j < m.bl.n
        · obtain ⟨b, o, rfl, hcell⟩ := hs2.out (by omega)
          have c1 := (xa.trans (xw2.trans xk)).keep (hcell j (by have := hs1.out; omega))
          generalize l[j]'(by have := hs1.out; omega) = s at *
          have hjn : (j : Int) < (m.bl.n : Int) := by omega
          clear hcell
          by_cases hl : 300 < s.length
          · go_wp2_with fail
            go_ret
            exact ⟨⟨_, rfl, fun _ => HLens.out⟩, xa.trans (xw2.trans xk)⟩
          · go_wp2_with fail
            go_round
            case rel => exact ⟨j + 1, by omega, by go_num⟩
            case measure => simp [intOf]; omega
        · obtain rfl : j = m.bl.n := by omega
          go_wp2_with fail
          go_roundw
          case rel => exact ⟨2, by omega, rfl, xk⟩
          case measure => simp [intOf]
    · clear c0 c1
      obtain ⟨k0, k1, k2, k3, k4, k5, k6, k7, k8, k9, k10, k11, k12, k13, k14, k15, k16⟩ := mac_cells (bm2.ext xk)
      go_wp2_with fail
      clear k0 k1 k2 k3 k4 k5 k6 k7 k8 k9 k10 k11 k12 k13 k14 k15 k16
      have b3 := Box.new wr 26 #[.slice m.di.A m.di.n m.di.c, .slice m.pe.A m.pe.n m.pe.c]
      have xw3 := (xw2.trans xk).alloc (.cells #[.slice m.di.A m.di.n m.di.c, .slice m.pe.A m.pe.n m.pe.c] 26)
      have bm3 := (bm2.ext xk).ext ((Ext.refl wr).alloc (.cells #[.slice m.di.A m.di.n m.di.c, .slice m.pe.A m.pe.n m.pe.c] 26))
      clear b2 bm2
      generalize wr.heap.size = g3 at *
      generalize wr.alloc (.cells #[.slice m.di.A m.di.n m.di.c, .slice m.pe.A m.pe.n m.pe.c] 26) = w3 at *
      go_loopw [85] (fun i wx => ∃ k : Nat, k ≤ 2 ∧ i = .int .i64 k ∧ Ext w3 wx) (fun i _ => 2 - (intOf i).toNat)
      case atStart => exact ⟨0, by omega, rfl, Ext.refl _⟩
      case round =>
        clear xk
        obtain ⟨k, hk, rfl, xk⟩ := hrel
        have c0 : wr.cell? ⟨g3, 0, none⟩ = some (.slice m.di.A m.di.n m.di.c) := (b3.ext xk).cell 0
        have c1 : wr.cell? ⟨g3, 1, none⟩ = some (.slice m.pe.A m.pe.n m.pe.c) := (b3.ext xk).cell 1
        rcases (show k = 0 ∨ k = 1 ∨ k = 2 by omega) with rfl | rfl | rfl
        · have hs1 := Lib.hid HD1.out
          have hs2 := Lib.hid hd2
          generalize d.di = l at hs1 hs2
          generalize m.di.A = A at *
          go_wp2_with fail
          go_loopw [91] (fun i wx => ∃ j : Nat, j ≤ m.di.n ∧ i = .int .i64 j ∧ Ext w3 wx) (fun i _ => m.di.n - (intOf i).toNat)
          case atStart => exact ⟨0, by omega, rfl, xk⟩
          case round =>
            clear xk c0 c1
            obtain ⟨j, hj, rfl, xk⟩ := hrel
            by_cases hlt : j < m.di.n
            · obtain ⟨b, o, rfl, hcell⟩ := hs2.out (by omega)
              have c1 := (xa.trans (xw3.trans xk)).keep (hcell j (by have := hs1.out; omega)).1
              have c2 := (xa.trans (xw3.trans xk)).keep (hcell j (by have := hs1.out; omega)).2
              generalize l[j]'(by have := hs1.out; omega) = s at *
              have hjn : (j : Int) < (m.di.n : Int) := by omega
              clear hcell
              by_cases hl : 300 < s.2.length
              · go_wp2_with fail
                go_ret
                exact ⟨⟨_, rfl, fun _ => HLens.out⟩, (xa.trans (xw3.trans xk)).alloc _⟩
              · go_wp2_with fail
                go_roundw
                case rel => exact ⟨j + 1, by omega, by go_num, xk.alloc _⟩
                case measure => simp [intOf]; omega
            · obtain rfl : j = m.di.n := by omega
              go_wp2_with fail
              go_roundw
              case rel => exact ⟨1, by omega, rfl, xk⟩
              case measure => simp [intOf]
        · have hs1 := Lib.hid HP1.out
          have hs2 := Lib.hid hp2
          generalize d.pe = l at hs1 hs2
          generalize m.pe.A = A at *
          go_wp2_with fail
          go_loopw [91] (fun i wx => ∃ j : Nat, j ≤ m.pe.n ∧ i = .int .i64 j ∧ Ext w3 wx) (fun i _ => m.pe.n - (intOf i).toNat)
          case atStart => exact ⟨0, by omega, rfl, xk⟩
          case round =>
            clear xk c0 c1
            obtain ⟨j, hj, rfl, xk⟩ := hrel
            by_cases hlt : j < m.pe.n
            · obtain ⟨b, o, rfl, hcell⟩ := hs2.out (by omega)
              have c1 := (xa.trans (xw3.trans xk)).keep (hcell j (by have := hs1.out; omega)).1
              have c2 := (xa.trans (xw3.trans xk)).keep (hcell j (by have := hs1.out; omega)).2
              generalize l[j]'(by have := hs1.out; omega) = s at *
              have hjn : (j : Int) < (m.pe.n : Int) := by omega
              clear hcell
              by_cases hl : 300 < s.2.length
              · go_wp2_with fail
                go_ret
                exact ⟨⟨_, rfl, fun _ => HLens.out⟩, (xa.trans (xw3.trans xk)).alloc _⟩
              · go_wp2_with fail
                go_roundw
                case rel => exact ⟨j + 1, by omega, by go_num, xk.alloc _⟩
                case measure => simp [intOf]; omega
            · obtain rfl : j = m.pe.n := by omega
              go_wp2_with fail
              go_roundw
              case rel => exact ⟨2, by omega, rfl, xk⟩
              case measure => simp [intOf]
        · clear c0 c1
          have k8 := (mac_cells (bm3.ext xk)).2.2.2.2.2.2.2.2.1
          have hs1 := Lib.hid HI1.out
          have hs2 := Lib.hid hi2
          generalize d.pi = l at hs1 hs2
          generalize m.pi.A = A at *
          go_wp2_with fail
          clear k8
          go_loopw [104] (fun i wx => ∃ j : Nat, j ≤ m.pi.n ∧ i = .int .i64 j ∧ Ext w3 wx) (fun i _ => m.pi.n - (intOf i).toNat)
          case atStart => exact ⟨0, by omega, rfl, xk⟩
          case round =>
            clear xk
            obtain ⟨j, hj, rfl, xk⟩ := hrel
            by_cases hlt : j < m.pi.n
            · obtain ⟨b, o, rfl, hcell⟩ := hs2.out (by omega)
              have c1 := (xa.trans (xw3.trans xk)).keep (hcell j (by have := hs1.out; omega)).1
              have c2 := (xa.trans (xw3.trans xk)).keep (hcell j (by have := hs1.out; omega)).2
              generalize l[j]'(by have := hs1.out; omega) = s at *
              have hjn : (j : Int) < (m.pi.n : Int) := by omega
              clear hcell
              by_cases hl : 300 < s.2.length
              · go_wp2_with fail
                go_ret
                exact ⟨⟨_, rfl, fun _ => HLens.out⟩, (xa.trans (xw3.trans xk)).alloc _⟩
              · go_wp2_with fail
                go_roundw
                case rel => exact ⟨j + 1, by omega, by go_num, xk.alloc _⟩
                case measure => simp [intOf]; omega
            · obtain rfl : j = m.pi.n := by omega
              go_wp2_with fail
              go_ret
              exact ⟨⟨_, rfl, fun _ => HLens.out⟩, xa.trans (xw3.trans xk)⟩
end Go.Proofs.YtkokmnaicfdjaaaGreatDoor
/- Plain: a machine that is not great is small. -/
namespace Go.Proofs.YtkokmnaicfdjaaaGreatDoor
set_option linter.unusedVariables false
set_option linter.unusedSimpArgs false

theorem MacLens.small {m : Mac} (h : MacLens m) : MacSmall m := ⟨Nat.le_trans h.fr (by decide), Nat.le_trans h.pr (by decide), Nat.le_trans h.pi (by decide), Nat.le_trans h.bl (by decide), Nat.le_trans h.pe (by decide), Nat.le_trans h.di (by decide)⟩
end Go.Proofs.YtkokmnaicfdjaaaGreatDoor
/- A machine on which nothing is but a volume. -/
namespace Go.Proofs.YtkokmnaicfdjaaaGreatDoor
set_option linter.unusedVariables false
set_option linter.unusedSimpArgs false
open Go.RowKit

def bareM (gf gb : Nat) : Mac := ⟨0, 1, 0, 0, ⟨some ⟨gf, 0, none⟩, 4, 4⟩, ⟨none, 0, 0⟩, 1, [47, 97], ⟨none, 0, 0⟩, 1, [], false, 0, ⟨some ⟨gb, 0, none⟩, 57, 57⟩, ⟨none, 0, 0⟩, -1, ⟨none, 0, 0⟩⟩
def bareD : MacD := ⟨List.replicate 4 (zs 128), [], [], fmtB mk8, [], []⟩
theorem str_nil : str [] = ⟨#[]⟩ := rfl
theorem flat_stL (l : List (List UInt8)) : l.flatMap stL = strL l := by
  induction l with
  | nil => rfl
  | cons x l ih => rw [List.flatMap_cons, ih]; rfl
theorem box_row {w : World} {g : Nat} {t : TypeId} {l : List (List UInt8)} (h : Box w g t (strVals l)) : RowOf stL w (some ⟨g, 0, none⟩) l.length l := by
  refine ⟨rfl, fun _ => ⟨g, 0, rfl, fun j v hj => ?_⟩⟩
  rw [flat_stL] at hj
  rw [Nat.zero_add, h.cell j]
  simpa [strVals, strL] using hj
theorem nil_row {α : Type} (f : α → List Value) (w : World) : RowOf f w none 0 [] := ⟨rfl, fun h => by omega⟩
theorem nil_ok : (⟨none, 0, 0⟩ : Sl).ok := ⟨fun _ => ⟨rfl, rfl⟩, Nat.zero_le _, Nat.le_refl _⟩
theorem row_ok (g n : Nat) (h : n ≤ maxLen) : (⟨some ⟨g, 0, none⟩, n, n⟩ : Sl).ok := ⟨fun h => (by cases h), h, Nat.le_refl _⟩
theorem bare_in {w : World} {gf gb : Nat} {t t' : TypeId} (h1 : Box w gf t (strVals (List.replicate 4 (zs 128)))) (h2 : Box w gb t' (strVals (fmtB mk8))) : MacIn w (bareM gf gb) bareD := by
  have e1 := box_row h1
  have e2 := box_row h2
  rw [List.length_replicate] at e1
  rw [fmtB_len, mk8_len] at e2
  exact ⟨e1, nil_row _ _, nil_row _ _, e2, nil_row _ _, nil_row _ _, row_ok _ _ (by unfold maxLen; omega), nil_ok, nil_ok, row_ok _ _ (by unfold maxLen; omega), nil_ok, nil_ok, by show 2 ≤ maxLen; unfold maxLen; omega, by show 0 ≤ maxLen; omega, (by decide : (Lit.int .i64 (-1)).wf = true)⟩
theorem conv128 {w : World} {g : Nat} (h : Box w g 5 zeroCells128) : (convert 101 9 (.slice (some ⟨g, 0, none⟩) 128 128)).run Tryz.prog w = .ok (.string (str (zs 128))) w := by
  rw [show zeroCells128 = byteVals (zs 128) by rw [zero128]; rfl] at h
  exact conv_box h (zs_len 128)
set_option maxHeartbeats 1000000 in
set_option maxRecDepth 100000 in
theorem bare_any (w : World) :
    Calls Tryz.prog 30 #[] w fun e w' => ∃ gf gb, e = .returned (.tuple #[.agg (bareM gf gb).cells, .bool true]) ∧ Ext w w' ∧ MacIn w' (bareM gf gb) bareD := by
  have HF := Lib.hid (fun A c w h => wformat_any A 24 c mk8 w h (by omega) (by omega) mk8_all)
  have hmk := make128
  go_enter Tryz.func30, Tryz.ntmps30
  go_upto_region 5 with (first
    | (go_at_call 58; refine (make8 _).mono ?_; rintro e w1 ⟨u1, rfl, x1, own1⟩; obtain ⟨g1, c1, rfl, hg1, s1⟩ := Strs.own' own1 (by omega))
    | (go_at_call 59; refine (HF.out _ _ _ s1).mono ?_; rintro e w2 ⟨gb, rfl, x2, b2⟩))
  have b0 : Box w2 w.heap.size 30 zeroMacC := ((Box.new w 30 zeroMacC).ext x1).ext x2
  have xa : Ext w w2 := (((Ext.refl w).alloc (.cells zeroMacC 30)).trans x1).trans x2
  have x3 : Ext w2 (w2.alloc (.cells #[.slice (some ⟨gb, 0, none⟩) 57 57, .slice none 0 0, .int .i64 (-1)] 28)) := (Ext.refl _).alloc _
  have z3 : (w2.alloc (.cells #[.slice (some ⟨gb, 0, none⟩) 57 57, .slice none 0 0, .int .i64 (-1)] 28)).heap.size = w2.heap.size + 1 := World.size_alloc _ _
  generalize w2.alloc (.cells #[.slice (some ⟨gb, 0, none⟩) 57 57, .slice none 0 0, .int .i64 (-1)] 28) = w3 at x3 z3 ⊢
  have bM := Box.new w3 30 #[.int .u64 0, .int .i64 1, .int .i64 0, .int .i64 0, .slice none 0 0, .slice none 0 0, .int .i64 1, .string ⟨#[47, 97]⟩, .slice none 0 0, .int .i64 1, .string ⟨#[]⟩, .bool false, .int .u64 0, .slice (some ⟨gb, 0, none⟩) 57 57, .slice none 0 0, .int .i64 (-1), .slice none 0 0]
  have x4 : Ext w2 (w3.alloc (.cells #[.int .u64 0, .int .i64 1, .int .i64 0, .int .i64 0, .slice none 0 0, .slice none 0 0, .int .i64 1, .string ⟨#[47, 97]⟩, .slice none 0 0, .int .i64 1, .string ⟨#[]⟩, .bool false, .int .u64 0, .slice (some ⟨gb, 0, none⟩) 57 57, .slice none 0 0, .int .i64 (-1), .slice none 0 0] 30)) := x3.alloc _
  have z4 : (w3.alloc (.cells #[.int .u64 0, .int .i64 1, .int .i64 0, .int .i64 0, .slice none 0 0, .slice none 0 0, .int .i64 1, .string ⟨#[47, 97]⟩, .slice none 0 0, .int .i64 1, .string ⟨#[]⟩, .bool false, .int .u64 0, .slice (some ⟨gb, 0, none⟩) 57 57, .slice none 0 0, .int .i64 (-1), .slice none 0 0] 30)).heap.size = w2.heap.size + 1 + 1 := by rw [World.size_alloc, z3]
  rw [z3] at bM
  generalize w3.alloc (.cells #[.int .u64 0, .int .i64 1, .int .i64 0, .int .i64 0, .slice none 0 0, .slice none 0 0, .int .i64 1, .string ⟨#[47, 97]⟩, .slice none 0 0, .int .i64 1, .string ⟨#[]⟩, .bool false, .int .u64 0, .slice (some ⟨gb, 0, none⟩) 57 57, .slice none 0 0, .int .i64 (-1), .slice none 0 0] 30) = w4 at bM x4 z4 ⊢
  have bZ := Box.new w4 5 zeroCells128
  have x5 := x4.alloc (.cells zeroCells128 5)
  have x45 : Ext w4 (w4.alloc (.cells zeroCells128 5)) := (Ext.refl _).alloc _
  have z5 : (w4.alloc (.cells zeroCells128 5)).heap.size = w2.heap.size + 1 + 1 + 1 := by rw [World.size_alloc, z4]
  rw [z4] at bZ
  replace bM := bM.ext x45
  generalize w4.alloc (.cells zeroCells128 5) = w5 at bM bZ x5 z5 ⊢
  have hl0 := b0.lt
  replace b0 := b0.ext x5
  replace b2 := b2.ext x5
  have cv := conv128 bZ
  have xb := xa.trans x5
  have hG : w.heap.size < w2.heap.size + 1 := by omega
  generalize w2.heap.size + 1 = G at *
  clear x1 x2 x3 x4 x5 x45 z3 z4 xa own1 s1 hmk HF
  have q4 := bM.cell 4
  have f4 := bM.frozen 4
  have x6 := xb.setCell (p := ⟨G, 4, none⟩) (by show w.heap.size ≤ G; omega) (.slice (some ⟨G + 1 + 1, 0, none⟩) 4 4)
  have b27 := b2.setOther (b2.ne bM (by decide)) (i := 4) (.slice (some ⟨G + 1 + 1, 0, none⟩) 4 4)
  have b06 := b0.setOther (show w.heap.size ≠ G by omega) (i := 4) (.slice (some ⟨G + 1 + 1, 0, none⟩) 4 4)
  have bM6 : Box (w5.setCell ⟨G, 4, none⟩ (.slice (some ⟨G + 1 + 1, 0, none⟩) 4 4)) G 30 (bareM (G + 1 + 1) gb).cells := bM.set 4 _
  have z6 : (w5.setCell ⟨G, 4, none⟩ (.slice (some ⟨G + 1 + 1, 0, none⟩) 4 4)).heap.size = G + 1 + 1 := by simp [World.setCell, z5]
  have xq : Ext (w5.setCell ⟨G, 4, none⟩ (.slice (some ⟨G + 1 + 1, 0, none⟩) 4 4)) ((w5.setCell ⟨G, 4, none⟩ (.slice (some ⟨G + 1 + 1, 0, none⟩) 4 4)).alloc (.cells #[.string (str (zs 128)), .string (str (zs 128)), .string (str (zs 128)), .string (str (zs 128))] 9)) := (Ext.refl _).alloc _
  have bF7 := Box.new (w5.setCell ⟨G, 4, none⟩ (.slice (some ⟨G + 1 + 1, 0, none⟩) 4 4)) 9 #[.string (str (zs 128)), .string (str (zs 128)), .string (str (zs 128)), .string (str (zs 128))]
  rw [z6] at bF7
  have bF8 : Box ((w5.setCell ⟨G, 4, none⟩ (.slice (some ⟨G + 1 + 1, 0, none⟩) 4 4)).alloc (.cells #[.string (str (zs 128)), .string (str (zs 128)), .string (str (zs 128)), .string (str (zs 128))] 9)) (G + 1 + 1) 9 (strVals (List.replicate 4 (zs 128))) := bF7
  have bM7 := bM6.ext xq
  have b07 := b06.ext xq
  have b28 := b27.ext xq
  have x7 := x6.trans xq
  clear bM6 b06 b27 bF7 xq x6 z6
  go_wp2_with (first
    | (refine wp_ld_mac (.tmp 6) rfl rfl G _ _ rfl bM7 rfl ?_)
    | (refine wp_st_mac (.tmp 0) (.tmp 30) rfl rfl w.heap.size (bareM (G + 1 + 1) gb) _ 30 rfl rfl b07 rfl ?_; intro w9 b9 g9))
  refine bodyPost_ret (results_cell2 rfl _ _ w.heap.size _ _ _ (.bool true) rfl rfl b9 Tryz.underlying30 rfl macSize) rfl ⟨G + 1 + 1, gb, rfl, x7.grown g9 (fun j e => by cases e; exact Nat.le_refl _), bare_in (bF8.grown g9 (fun e => by injection e with e; omega)) (b28.grown g9 (fun e => by injection e with e; exact b28.ne b07 (by decide) e))⟩
end Go.Proofs.YtkokmnaicfdjaaaGreatDoor
