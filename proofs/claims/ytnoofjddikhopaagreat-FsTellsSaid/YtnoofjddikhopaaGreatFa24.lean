/- dir.Find, dir.Add on a volume that is one; extent.Write of too many bytes. -/
import Derived.Test.YtnoofjddikhopaaGreatFa21
import Derived.Test.YtnoofjddikhopaaGreatFa23
import Derived.Test.YtnoofjddikhopaaGreatFa14
import Derived.Test.YtnoofjddikhopaaGreatFa18
import Derived.Test.YtnoofjddikhopaaGreatFa19
import Derived.Test.YtnoofjddikhopaaGreatFa11
import Derived.Test.YtnoofjddikhopaaGreatFa15
namespace Go.Proofs.YtnoofjddikhopaaGreat
set_option linter.unusedVariables false
set_option linter.unusedSimpArgs false
open Go.RowKit
set_option maxHeartbeats 1000000 in
set_option maxRecDepth 100000 in
theorem fwrite_big (A : Option Addr) (n c : Nat) (v : List (List UInt8)) (I k : Int) (d : List UInt8) (w : World) (hv : Strs w A n v) (hg : Good v I) (hk1 : 1 ≤ k) (hk2 : k ≤ I) (hd : 8960 < d.length) :
    Calls Tryz.prog 82 #[.slice A n c, .int .i64 k, .int .i64 0, .string (str d)] w fun e w' => e = .returned (.tuple #[.slice none 0 0, .int .i64 6]) ∧ Ext w w' := by
  have HO := Lib.hid (fun w h => opened_yes A n c v I k w h hg hk1 hk2)
  have HFO := Lib.hid (fun (B g : Nat) (w : World) (s : Sl) hB hs hbx own => FileIn.of_opened (B := B) (w := w) (g := g) (s := s) hg hk1 hk2 hB hs hbx own)
  have HV := Lib.hid hv
  have hz := str_size
  have d3 : decide ((8960 : Int) < (d.length : Int)) = true := by simp; omega
  clear hv hg hk1 hk2
  generalize hG : w.heap.size = G at *
  go_enter Tryz.func82, Tryz.ntmps82
  go_upto_region 2 with (first
    | (go_at_call 49; refine (HO.out _ HV.out).mono ?_; rintro e w2 ⟨⟨s, rfl, hsn, own2⟩, x2⟩)
    | (refine wp_st_file (.tmp 10) (.tmp 23) rfl rfl w2.heap.size s (fileOf v I k) _ 83 rfl rfl (Box.new _ _ _) rfl ?_; intro w3 b3 g3))
  have xa : Ext w2 (w2.alloc (.cells fileZ 83)) := (Ext.refl w2).alloc _
  have x23 : Ext w2 w3 := xa.grown g3 (fun j e => by cases e; exact Nat.le_refl _)
  have HX := Lib.hid (x2.trans x23)
  clear hG xa x23 x2 g3 b3 own2 hsn HO HFO HV
  go_wp2_with fail
  go_ret2
  exact ⟨rfl, HX.out⟩
/-- bytes written from the beginning on -/
def writeZ (v : List (List UInt8)) (I k : Int) (d : List UInt8) : List (List UInt8) × Int := if 8960 < d.length then ([], 6) else writeP v I k 0 d
theorem fwrite_any (A : Option Addr) (n c : Nat) (v : List (List UInt8)) (I k : Int) (d : List UInt8) (w : World) (hv : Strs w A n v) (hg : Good v I) (hk1 : 1 ≤ k) (hk2 : k ≤ I) :
    Calls Tryz.prog 82 #[.slice A n c, .int .i64 k, .int .i64 0, .string (str d)] w fun e w' => WriteR w.heap.size (writeZ v I k d) e w' ∧ Ext w w' := by
  unfold writeZ
  by_cases h : 8960 < d.length
  · rw [if_pos h]
    refine (fwrite_big A n c v I k d w hv hg hk1 hk2 h).mono ?_
    rintro e w' ⟨rfl, x⟩
    exact ⟨.inl ⟨by simp, rfl⟩, x⟩
  · rw [if_neg h]
    exact fwrite_yes A n c v I k 0 d w hv hg hk1 hk2 (by omega) (by omega)
/-- the inode of a directory's name, and the error -/
def dfindP (v : List (List UInt8)) (I k : Int) (name : List UInt8) : Int × Int :=
  if mayD name = false then (0, 7) else if (dlistP v I k).2 ≠ 0 then (0, (dlistP v I k).2)
  else if hasE (dlistP v I k).1 name = true then (((dlistP v I k).1.getD (posE (dlistP v I k).1 name) ([], 0)).2, 0) else (0, 9)
theorem OwnE.old {w : World} {B : Nat} {u : Value} {l : List Ent} (h : OwnE w B u l) : ∀ b o n c, u = .slice (some ⟨b, o, none⟩) n c → b < w.heap.size := by
  rintro b o n c rfl
  rcases h.2 with ⟨e, _⟩ | ⟨g, cap, cur, e, _, hh, _⟩
  · cases e
  · injection e with e1 _ _
    injection e1 with e1
    injection e1 with e1 _ _
    subst e1
    exact (Array.getElem?_eq_some_iff.1 hh).1
set_option maxHeartbeats 2000000 in
set_option maxRecDepth 100000 in
theorem dfind_any (A : Option Addr) (n c : Nat) (v : List (List UInt8)) (I k : Int) (name : List UInt8) (w : World) (hv : Strs w A n v) (hg : Good v I) (hnl : name.length ≤ 1000000000) :
    Calls Tryz.prog 19 #[.slice A n c, .int .i64 k, .string (str name)] w fun e w' => e = .returned (.tuple #[.int .i64 (dfindP v I k name).1, .int .i64 (dfindP v I k name).2]) ∧ Ext w w' := by
  have HM := Lib.hid (fun w => dmay_any name w hnl)
  have HL := Lib.hid (fun w h => dlist_any A n c v I k w h hg)
  have hll := dlist_len v I k
  have hle := dlist_ents v I k
  cases hm : mayD name with
  | false =>
    have HP := Lib.hid (show dfindP v I k name = (0, 7) from by unfold dfindP; rw [if_pos hm])
    rw [hm] at HM
    go_enter Tryz.func19, Tryz.ntmps19
    go_wp2_with (go_at_call 42; refine (HM.out _).mono ?_; rintro e w1 ⟨rfl, x1⟩)
    go_ret2
    rw [HP.out]
    exact ⟨rfl, x1⟩
  | true =>
  by_cases he : (dlistP v I k).2 = 0
  case neg =>
    have HP := Lib.hid (show dfindP v I k name = (0, (dlistP v I k).2) from by unfold dfindP; rw [if_neg (by rw [hm]; simp), if_pos he])
    have de : ((dlistP v I k).2 != 0) = true := by simpa using he
    rw [hm] at HM
    clear he hm hle
    generalize dlistP v I k = R at *
    go_enter Tryz.func19, Tryz.ntmps19
    go_wp2_with (first
      | (go_at_call 42; refine (HM.out _).mono ?_; rintro e w1 ⟨rfl, x1⟩)
      | (go_at_call 36; refine (HL.out _ (hv.ext x1)).mono ?_; rintro e w2 ⟨u, rfl, x2, own2⟩))
    go_ret2
    rw [HP.out]
    exact ⟨rfl, x1.trans x2⟩
  have HP0 := Lib.hid (show dfindP v I k name = if hasE (dlistP v I k).1 name = true then (((dlistP v I k).1.getD (posE (dlistP v I k).1 name) ([], 0)).2, 0) else (0, 9) from by unfold dfindP; rw [if_neg (by rw [hm]; simp), if_neg (by rw [he]; simp)])
  rw [he] at HL
  generalize dfindP v I k name = D at *
  clear he
  generalize (dlistP v I k).1 = l at *
  have HSr := Lib.hid (fun A c w h hA => dsearch_any A l.length c l name w h (by omega) hle.2 hA)
  rw [hm] at HM
  have HH : Hid (hasE l name = true → posE l name < l.length) := fun h => by
    unfold hasE at h; simp only [Bool.and_eq_true, decide_eq_true_eq] at h; exact h.1
  clear hm hle
  cases hh : hasE l name with
  | false =>
    rw [hh] at HP0 HSr
    clear hh HH
    generalize posE l name = p at *
    go_enter Tryz.func19, Tryz.ntmps19
    go_wp2_with (first
      | (go_at_call 42; refine (HM.out _).mono ?_; rintro e w1 ⟨rfl, x1⟩)
      | (go_at_call 36; refine (HL.out _ (hv.ext x1)).mono ?_; rintro e w2 ⟨u, rfl, x2, own2⟩; obtain ⟨A2, cap2, rfl, st2⟩ := own2.form; have hA2 := fun b o (h : A2 = some ⟨b, o, none⟩) (_ : 0 < l.length) => own2.old b o l.length cap2 (by rw [h]))
      | (go_at_call 46; refine (HSr.out A2 cap2 _ st2 hA2).mono ?_; rintro e w3 ⟨rfl, x3⟩))
    go_ret2
    rw [HP0.out]
    exact ⟨rfl, x1.trans (x2.trans x3)⟩
  | true =>
    have hp := HH.out hh
    rw [hh] at HP0 HSr
    clear hh HH
    generalize posE l name = p at *
    have hgd : l.getD p ([], 0) = l[p] := by rw [List.getD_eq_getElem?_getD, List.getElem?_eq_getElem hp]; rfl
    have hpi : (p : Int) < (l.length : Int) := by omega
    have HP1 := Lib.hid (show D = (l[p].2, 0) from by rw [HP0.out, if_pos rfl, hgd])
    clear HP0
    have HLp := Lib.hid hgd
    have Hp := Lib.hid hp
    clear hgd
    go_enter Tryz.func19, Tryz.ntmps19
    go_wp2_with (first
      | (go_at_call 42; refine (HM.out _).mono ?_; rintro e w1 ⟨rfl, x1⟩)
      | (go_at_call 36; refine (HL.out _ (hv.ext x1)).mono ?_; rintro e w2 ⟨u, rfl, x2, own2⟩; obtain ⟨A2, cap2, rfl, st2⟩ := own2.form; have hA2 := fun b o (h : A2 = some ⟨b, o, none⟩) (_ : 0 < l.length) => own2.old b o l.length cap2 (by rw [h]); have st0 := st2; obtain ⟨b2, o2, rfl, hc2⟩ := st0.2 (by omega))
      | (go_at_call 46; refine (HSr.out _ cap2 _ st2 hA2).mono ?_; rintro e w3 ⟨rfl, x3⟩; have hc3 := x3.keep (hc2 p Hp.out).2))
    go_ret2
    rw [HP1.out]
    exact ⟨rfl, x1.trans (x2.trans x3)⟩
end Go.Proofs.YtnoofjddikhopaaGreat
/- dir.Add on a volume that is one. -/
namespace Go.Proofs.YtnoofjddikhopaaGreat
set_option linter.unusedVariables false
set_option linter.unusedSimpArgs false
open Go.RowKit
/-- append(l, l2...) of entries to a row of the call's own -/
theorem wp_app_ents {ops : Array Oper} {rest : List Oper} {o : Oper} {a : Act} {w : World} {Q : Exit → Act → World → Prop} {B n m c : Nat} {u : Value} {l l2 : List Ent} {A : Option Addr} (hgd : o.guard = none) (sl x : Operand)
    (ho : o.op = .call { callee := .builtin .append, args := #[sl, x], argTypes := #[64, 64] }) (hs : a.eval sl = u) (hx : a.eval x = .slice A m c)
    (h0 : w.ownsRow B 79 2 u n (entL l)) (h2 : Ents w A m l2) (hA : A = none → m = 0 ∧ c = 0) (hn : n + m ≤ 1000000) (hB : B ≤ w.heap.size)
    (hK : ∀ u' w', w'.ownsRow B 79 2 u' (n + m) (entL (l ++ l2)) → w.grownBy w' u.ownBlock → wpList Tryz.prog ops Q rest (a.put o.dst u') w') : wpList Tryz.prog ops Q (o :: rest) a w := by
  obtain ⟨i, hi, hz, h1', h2'⟩ := info_parts entInfo
  cases A with
  | none =>
    obtain ⟨rfl, rfl⟩ := hA rfl
    have hl : l2 = [] := List.eq_nil_of_length_eq_zero h2.1.symm
    subst hl
    refine wpList_plain hgd fun K hK' => ?_
    have hr := run_append_owned_none (P := Tryz.prog) (w := w) B 64 o.type 79 i 2 Tryz.underlying64 hi u n (entL l) h0
    have hK2 := hK u w (by rw [List.append_nil]; exact h0) ⟨rfl, rfl, rfl, Nat.le_refl _, fun k _ _ => rfl⟩
    unfold Oper.wp execOp
    simp only [ho, resolve, invoke, builtin, Sem.run_bind, Sem.run_pure, Result.andThen_ok, List.map_toArray, List.map_cons, List.map_nil, hs, hx, hr]
    exact hK' _ _ hK2
  | some p =>
    have hp : ∀ j u, (entL l2)[j]? = some u → w.cell? (p.add j) = some u := fun j u hj => by
      have hjl := (List.getElem?_eq_some_iff.1 hj).1
      rw [entL_len] at hjl
      obtain ⟨b, o, e, hc⟩ := h2.2 (by rw [h2.1]; omega)
      have ep : p = ⟨b, o, none⟩ := Option.some.inj e
      have ha : (⟨b, o, none⟩ : Addr).add j = ⟨b, o + j, none⟩ := by unfold Addr.add; split <;> simp_all
      rw [ep, ha]
      have hq := hc (j / 2) (by omega)
      have he := entL_at l2 (j / 2) (by omega)
      rcases Nat.mod_two_eq_zero_or_one j with hm | hm
      · have : j / 2 * 2 = j := by omega
        rw [this] at hq he
        rw [hj] at he
        rw [hq.1]; exact he.1.symm
      · have : j / 2 * 2 + 1 = j := by omega
        rw [Nat.add_assoc, this] at hq
        rw [this, hj] at he
        rw [hq.2]; exact he.2.symm
    refine wpList_plain hgd fun K hK' => ?_
    obtain ⟨v', w', hr, ho2, hg, _, _⟩ := run_append_own_at (P := Tryz.prog) w B 64 o.type 79 i _ 2 24 Tryz.underlying64 hi hz h1' h2' rfl (by decide) u n (entL l) h0 p m c (entL l2) (by rw [entL_len, h2.1]) hp (entL_one l2) (by unfold maxLen; omega) (by omega) hB
    unfold Oper.wp execOp
    simp only [ho, resolve, invoke, builtin, Sem.run_bind, Sem.run_pure, Result.andThen_ok, List.map_toArray, List.map_cons, List.map_nil, hs, hx, hr]
    refine hK' _ _ (hK v' w' ?_ hg)
    rw [entL_append]
    exact ho2
theorem ents_drop {w : World} {b o n : Nat} {l : List Ent} (h : Ents w (some ⟨b, o, none⟩) n l) (m : Nat) (hm : m ≤ n) : Ents w (some ⟨b, o + m * 2, none⟩) (n - m) (l.drop m) := by
  have h1 := h.1
  refine ⟨by rw [List.length_drop]; omega, fun hn => ?_⟩
  obtain ⟨b', o', e, hc⟩ := h.2 (by omega)
  cases e
  refine ⟨b, _, rfl, fun j hj => ?_⟩
  have hj' : m + j < l.length := by rw [List.length_drop] at hj; omega
  rw [List.getElem_drop]
  have := hc (m + j) hj'
  rw [show o + m * 2 + j * 2 = o + (m + j) * 2 by omega]
  exact this
/-- a volume with a name more in a directory, or the error -/
def daddP (v : List (List UInt8)) (I k : Int) (name : List UInt8) (ino : Int) : List (List UInt8) × Int :=
  if mayD name = false then ([], 7) else if ino < 1 ∨ 64 < ino then ([], 2) else if (dlistP v I k).2 ≠ 0 then ([], (dlistP v I k).2)
  else if hasE (dlistP v I k).1 name = true then ([], 8) else writeZ v I k (bytesE (insE (dlistP v I k).1 name ino))
theorem WriteR.form {B : Nat} {R : List (List UInt8) × Int} {e : Ending} {w : World} (h : WriteR B R e w) : ∃ u, e = .returned (.tuple #[u, .int .i64 R.2]) ∧ WriteR B R (.returned (.tuple #[u, .int .i64 R.2])) w := by
  have h' := h
  rcases h with ⟨_, rfl⟩ | ⟨h0, b, cap, rfl, _⟩
  · exact ⟨_, rfl, h'⟩
  · rw [h0]
    rw [← h0] at h'
    exact ⟨_, rfl, by rw [h0] at h'; exact h'⟩
theorem WriteR.base {B B' : Nat} {R : List (List UInt8) × Int} {e : Ending} {w : World} (h : WriteR B R e w) (hB : B' ≤ B) : WriteR B' R e w := by
  rcases h with h | ⟨h0, b, cap, rfl, own⟩
  · exact .inl h
  · exact .inr ⟨h0, b, cap, rfl, own_base own hB⟩
theorem WriteR.err {B : Nat} {n : Int} (h : n ≠ 0) {w : World} : WriteR B ([], n) (.returned (.tuple #[.slice none 0 0, .int .i64 n])) w := .inl ⟨h, rfl⟩
set_option maxHeartbeats 4000000 in
set_option maxRecDepth 100000 in
theorem dadd_any (A : Option Addr) (n c : Nat) (v : List (List UInt8)) (I k : Int) (name : List UInt8) (ino : Int) (w : World) (hv : Strs w A n v) (hg : Good v I) (hnl : name.length ≤ 1000000000) :
    Calls Tryz.prog 76 #[.slice A n c, .int .i64 k, .string (str name), .int .i64 ino] w fun e w' => WriteR w.heap.size (daddP v I k name ino) e w' ∧ Ext w w' := by
  have HM := Lib.hid (fun w => dmay_any name w hnl)
  have HL := Lib.hid (fun w h => dlist_any A n c v I k w h hg)
  have hll := dlist_len v I k
  have hle := dlist_ents v I k
  cases hm : mayD name with
  | false =>
    have HP := Lib.hid (show daddP v I k name ino = ([], 7) from by unfold daddP; rw [if_pos hm])
    rw [hm] at HM
    go_enter Tryz.func76, Tryz.ntmps76
    go_wp2_with (go_at_call 42; refine (HM.out _).mono ?_; rintro e w1 ⟨rfl, x1⟩)
    go_ret2
    rw [HP.out]
    exact ⟨WriteR.err (by decide), x1⟩
  | true =>
  have hn24 := mayD_len hm
  by_cases hi : ino < 1 ∨ 64 < ino
  · have HP := Lib.hid (show daddP v I k name ino = ([], 2) from by unfold daddP; rw [if_neg (by rw [hm]; simp), if_pos hi])
    rw [hm] at HM
    clear hm hle
    by_cases h1 : ino < 1
    · have d1 : decide (ino < 1) = true := decide_eq_true h1
      clear hi
      go_enter Tryz.func76, Tryz.ntmps76
      go_wp2_with (go_at_call 42; refine (HM.out _).mono ?_; rintro e w1 ⟨rfl, x1⟩)
      go_ret2
      rw [HP.out]
      exact ⟨WriteR.err (by decide), x1⟩
    · have h2 : 64 < ino := by omega
      have d1 : decide (ino < 1) = false := decide_eq_false h1
      have d2 : decide (64 < ino) = true := decide_eq_true h2
      clear hi
      go_enter Tryz.func76, Tryz.ntmps76
      go_wp2_with (go_at_call 42; refine (HM.out _).mono ?_; rintro e w1 ⟨rfl, x1⟩)
      go_ret2
      rw [HP.out]
      exact ⟨WriteR.err (by decide), x1⟩
  have d1 : decide (ino < 1) = false := decide_eq_false (by omega)
  have d2 : decide (64 < ino) = false := decide_eq_false (by omega)
  have n1 : ¬ ino < 1 := by omega
  have n2 : ¬ 64 < ino := by omega
  by_cases he : (dlistP v I k).2 = 0
  case neg =>
    have HP := Lib.hid (show daddP v I k name ino = ([], (dlistP v I k).2) from by unfold daddP; rw [if_neg (by rw [hm]; simp), if_neg hi, if_pos he])
    have HNe := Lib.hid he
    have de : ((dlistP v I k).2 != 0) = true := by simpa using he
    rw [hm] at HM
    clear he hm hle hi
    generalize dlistP v I k = R at *
    go_enter Tryz.func76, Tryz.ntmps76
    go_wp2_with (first
      | (go_at_call 42; refine (HM.out _).mono ?_; rintro e w1 ⟨rfl, x1⟩)
      | (go_at_call 36; refine (HL.out _ (hv.ext x1)).mono ?_; rintro e w2 ⟨u, rfl, x2, own2⟩))
    go_ret2
    rw [HP.out]
    exact ⟨WriteR.err HNe.out, x1.trans x2⟩
  have hkk := dlist_ok he
  have HP0 := Lib.hid (show daddP v I k name ino = if hasE (dlistP v I k).1 name = true then ([], 8) else writeZ v I k (bytesE (insE (dlistP v I k).1 name ino)) from by unfold daddP; rw [if_neg (by rw [hm]; simp), if_neg hi, if_neg (by rw [he]; simp)])
  have HWr := Lib.hid (fun d w h => fwrite_any A n c v I k d w h hg hkk.1 hkk.2.1)
  rw [he] at HL
  clear hkk he hi
  generalize daddP v I k name ino = D at *
  generalize (dlistP v I k).1 = l at *
  have HSr := Lib.hid (fun A c w h hA => dsearch_any A l.length c l name w h (by omega) hle.2 hA)
  rw [hm] at HM
  clear hm
  cases hh : hasE l name with
  | true =>
    have HP1 := Lib.hid (show D = ([], 8) from by rw [HP0.out, if_pos hh])
    rw [hh] at HSr
    clear hh HP0 hle
    generalize posE l name = p at *
    go_enter Tryz.func76, Tryz.ntmps76
    go_wp2_with (first
      | (go_at_call 42; refine (HM.out _).mono ?_; rintro e w1 ⟨rfl, x1⟩)
      | (go_at_call 36; refine (HL.out _ (hv.ext x1)).mono ?_; rintro e w2 ⟨u, rfl, x2, own2⟩; obtain ⟨A2, cap2, rfl, st2⟩ := own2.form; have hA2 := fun b o (h : A2 = some ⟨b, o, none⟩) (_ : 0 < l.length) => own2.old b o l.length cap2 (by rw [h]))
      | (go_at_call 46; refine (HSr.out A2 cap2 _ st2 hA2).mono ?_; rintro e w3 ⟨rfl, x3⟩))
    go_ret2
    rw [HP1.out]
    exact ⟨WriteR.err (by decide), x1.trans (x2.trans x3)⟩
  | false =>
    have HP1 := Lib.hid (show D = writeZ v I k (bytesE (insE l name ino)) from by rw [HP0.out, if_neg (by rw [hh]; simp)])
    rw [hh] at HSr
    have hple := posE_le l name
    have HIn := Lib.hid (show insE l name ino = l.take (posE l name) ++ [(name, ino)] ++ l.drop (posE l name) from by unfold insE; simp)
    have HBl := Lib.hid (show ∀ x ∈ insE l name ino, x.1.length ≤ 24 ∧ 0 ≤ x.2 ∧ x.2 < 65536 from fun x hx => by
      unfold insE at hx
      rcases List.mem_append.1 hx with h | h
      · have := hle.1 x (List.mem_of_mem_take h)
        exact ⟨(mayD_len this.1).2, by omega, by omega⟩
      · rcases List.mem_cons.1 h with rfl | h
        · exact ⟨hn24.2, by simp; omega, by simp; omega⟩
        · have := hle.1 x (List.mem_of_mem_drop h)
          exact ⟨(mayD_len this.1).2, by omega, by omega⟩)
    have hil := insE_len l name ino
    clear hh HP0 hle hn24
    generalize insE l name ino = ins at *
    generalize posE l name = p at *
    have HBy := Lib.hid (fun A c w h => dbytes_any A ins.length c ins w h (by omega) HBl.out)
    clear hil
    have hpi : (p : Int) ≤ (l.length : Int) := by omega
    go_enter Tryz.func76, Tryz.ntmps76
    go_upto_region 11 with (first
      | (go_at_call 42; refine (HM.out _).mono ?_; rintro e w1 ⟨rfl, x1⟩)
      | (go_at_call 36; refine (HL.out _ (hv.ext x1)).mono ?_; rintro e w2 ⟨u, rfl, x2, own2⟩; obtain ⟨A2, cap2, rfl, st2⟩ := own2.form; have hA2 := fun b o (h : A2 = some ⟨b, o, none⟩) (_ : 0 < l.length) => own2.old b o l.length cap2 (by rw [h]); have hO2 := Lib.hid own2)
      | (go_at_call 46; refine (HSr.out A2 cap2 _ st2 hA2).mono ?_; rintro e w3 ⟨rfl, x3⟩))
    have X3 := x1.trans (x2.trans x3)
    have st3 := st2.ext x3
    have hv3 := hv.ext X3
    rcases hO2.out.2 with ⟨e2, h0⟩ | ⟨g, cap, cur, e2, _, _, hcc, hcm, _⟩
    · obtain ⟨rfl, _, rfl⟩ : A2 = none ∧ True ∧ cap2 = 0 := by injection e2 with q1 q2 q3; exact ⟨q1, trivial, q3⟩
      obtain rfl := List.eq_nil_of_length_eq_zero h0
      obtain rfl : p = 0 := by simpa using hple
      clear hO2 own2 e2 h0 hA2
      simp only [List.length_nil]
      go_upto_region 13 with (first
        | (refine wp_app_ents (B := w3.heap.size) (l := []) (l2 := ([] : List Ent)) rfl _ (.tmp 42) rfl rfl rfl (World.ownsRow_nil w3 _ _ _) ⟨rfl, fun h => absurd h (Nat.lt_irrefl 0)⟩ (fun _ => ⟨rfl, rfl⟩) (by omega) (Nat.le_refl _) ?_; intro u4 w4 o4 g4; have x4 : Ext w3 w4 := (Ext.refl w3).grown g4 (fun _ e => by cases e))
        | (refine wp_app_ent (y := (name, ino)) rfl (.tmp 44) (.tmp 48) rfl rfl rfl (own_ext o4 ((Ext.refl w4).alloc _)) (Box.new _ _ _) (by omega) (by simp; have := x4.size; omega) ?_; intro u5 w5 o5 g5; have hlo5 := Lib.hid (show ∀ j, u4.ownBlock = some j → w3.heap.size ≤ j from fun j e => own_low o4 e); have x5 : Ext w3 w5 := (x4.alloc _).grown g5 (fun j e => hlo5.out j e)))
      clear HM HL HSr g4 g5 o4 hlo5
      go_wp2_with (first
        | (refine wp_app_ents (l2 := ([] : List Ent)) rfl (.tmp 52) (.tmp 55) rfl rfl rfl o5 ⟨rfl, fun h => absurd h (Nat.lt_irrefl 0)⟩ (fun _ => ⟨rfl, rfl⟩) (by omega) x5.size ?_; intro u6 w6 o6 g6; have hlo6 := Lib.hid (show ∀ j, u5.ownBlock = some j → w3.heap.size ≤ j from fun j e => own_low o5 e); have x6 : Ext w3 w6 := x5.grown g6 (fun j e => hlo6.out j e); have o7 : OwnE w6 w3.heap.size u6 ins := (by unfold OwnE; rw [HIn.out]; exact o6); obtain ⟨A6, cap6, rfl, st6⟩ := o7.form)
        | (go_at_call 81; refine (HBy.out A6 cap6 _ st6).mono ?_; rintro e w7 ⟨rfl, x7⟩)
        | (go_at_call 82; refine (HWr.out (bytesE ins) _ ((hv3.ext x6).ext x7)).mono ?_; rintro e w8 ⟨hW, x8⟩; obtain ⟨u8, rfl, hW8⟩ := hW.form; clear hW))
      go_ret2
      rw [HP1.out]
      exact ⟨hW8.base (by have := X3.size; have := x6.size; have := x7.size; omega), X3.trans (x6.trans (x7.trans x8))⟩
    · obtain ⟨rfl, _, rfl⟩ : A2 = some ⟨g, 0, none⟩ ∧ True ∧ cap2 = cap := by injection e2 with q1 q2 q3; exact ⟨q1, trivial, q3⟩
      clear hO2 own2 e2 hA2
      go_upto_region 13 with (first
        | (refine wp_app_ents (B := w3.heap.size) (l := []) (l2 := (l.take p)) rfl _ (.tmp 42) rfl rfl rfl (World.ownsRow_nil w3 _ _ _) (ents_take st3 p hple) (fun h => by cases h) (by omega) (Nat.le_refl _) ?_; intro u4 w4 o4 g4; have x4 : Ext w3 w4 := (Ext.refl w3).grown g4 (fun _ e => by cases e))
        | (refine wp_app_ent (y := (name, ino)) rfl (.tmp 44) (.tmp 48) rfl rfl rfl (own_ext o4 ((Ext.refl w4).alloc _)) (Box.new _ _ _) (by omega) (by simp; have := x4.size; omega) ?_; intro u5 w5 o5 g5; have hlo5 := Lib.hid (show ∀ j, u4.ownBlock = some j → w3.heap.size ≤ j from fun j e => own_low o4 e); have x5 : Ext w3 w5 := (x4.alloc _).grown g5 (fun j e => hlo5.out j e)))
      clear HM HL HSr g4 g5 o4 hlo5
      by_cases hpc : cap2 = p
      · obtain rfl : cap2 = l.length := by omega
        subst hpc
        go_wp2_with (first
          | (refine wp_app_ents (l2 := ([] : List Ent)) rfl (.tmp 52) (.tmp 55) rfl rfl rfl o5 ⟨by simp, fun h => by omega⟩ (fun h => by cases h) (by omega) x5.size ?_; intro u6 w6 o6 g6; have hlo6 := Lib.hid (show ∀ j, u5.ownBlock = some j → w3.heap.size ≤ j from fun j e => own_low o5 e); have x6 : Ext w3 w6 := x5.grown g6 (fun j e => hlo6.out j e); have o7 : OwnE w6 w3.heap.size u6 ins := (by unfold OwnE; rw [HIn.out]; have e1 := o6; rw [show (l.take l.length ++ [(name, ino)] ++ l.drop l.length).length = l.length + 1 + (l.length - l.length) by simp]; simpa using e1); obtain ⟨A6, cap6, rfl, st6⟩ := o7.form)
          | (go_at_call 81; refine (HBy.out A6 cap6 _ st6).mono ?_; rintro e w7 ⟨rfl, x7⟩)
          | (go_at_call 82; refine (HWr.out (bytesE ins) _ ((hv3.ext x6).ext x7)).mono ?_; rintro e w8 ⟨hW, x8⟩; obtain ⟨u8, rfl, hW8⟩ := hW.form; clear hW))
        go_ret2
        rw [HP1.out]
        exact ⟨hW8.base (by have := X3.size; have := x6.size; have := x7.size; omega), X3.trans (x6.trans (x7.trans x8))⟩
      · have hcp : p < cap2 := by omega
        have STd : Ents w5 (some ⟨g, p * 2, none⟩) (l.length - p) (l.drop p) := by have := (ents_drop st3 p hple).ext x5; rwa [Nat.zero_add] at this
        go_wp2_with (first
          | (refine wp_app_ents (l2 := (l.drop p)) rfl (.tmp 52) (.tmp 55) rfl rfl rfl o5 STd (fun h => by cases h) (by omega) x5.size ?_; intro u6 w6 o6 g6; have hlo6 := Lib.hid (show ∀ j, u5.ownBlock = some j → w3.heap.size ≤ j from fun j e => own_low o5 e); have x6 : Ext w3 w6 := x5.grown g6 (fun j e => hlo6.out j e); have o7 : OwnE w6 w3.heap.size u6 ins := (by unfold OwnE; rw [HIn.out]; have e1 := o6; rw [show (l.take p ++ [(name, ino)] ++ l.drop p).length = p + 1 + (l.length - p) by simp; omega]; simpa using e1); obtain ⟨A6, cap6, rfl, st6⟩ := o7.form)
          | (go_at_call 81; refine (HBy.out A6 cap6 _ st6).mono ?_; rintro e w7 ⟨rfl, x7⟩)
          | (go_at_call 82; refine (HWr.out (bytesE ins) _ ((hv3.ext x6).ext x7)).mono ?_; rintro e w8 ⟨hW, x8⟩; obtain ⟨u8, rfl, hW8⟩ := hW.form; clear hW))
        go_ret2
        rw [HP1.out]
        exact ⟨hW8.base (by have := X3.size; have := x6.size; have := x7.size; omega), X3.trans (x6.trans (x7.trans x8))⟩
end Go.Proofs.YtnoofjddikhopaaGreat
/- Paths, what is made: plain. -/
namespace Go.Proofs.YtnoofjddikhopaaGreat
set_option linter.unusedVariables false
set_option linter.unusedSimpArgs false
/-- may this be a path? -/
def mayP (p : List UInt8) : Bool := decide (p.head? = some 47) && decide (p.length ≤ 200) && ((pathP p).all mayD && decide ((pathP p).length ≤ 8))
/-- down these names -/
def stepsP (v : List (List UInt8)) (I : Int) : Int → List (List UInt8) → Int × Int
  | n, [] => (n, 0)
  | n, x :: l => if (dfindP v I n x).2 ≠ 0 then (0, (dfindP v I n x).2) else stepsP v I (dfindP v I n x).1 l
/-- the inode at a path -/
def findP (v : List (List UInt8)) (I : Int) (p : List UInt8) : Int × Int := if mayP p = false then (0, 7) else stepsP v I 1 (pathP p)
def aboveP (p : List UInt8) : List UInt8 := p.take (max (slashP p) 1)
/-- the directory and the name for what is not yet at a path -/
def vacantP (v : List (List UInt8)) (I : Int) (p : List UInt8) : Int × List UInt8 × Int :=
  if mayP p = false then (0, [], 7) else if p = [47] then (0, [], 8)
  else if (findP v I (aboveP p)).2 ≠ 0 then (0, [], (findP v I (aboveP p)).2)
  else if (dfindP v I (findP v I (aboveP p)).1 (baseP p)).2 = 9 then ((findP v I (aboveP p)).1, baseP p, 0)
  else if (dfindP v I (findP v I (aboveP p)).1 (baseP p)).2 = 0 then (0, [], 8)
  else (0, [], (dfindP v I (findP v I (aboveP p)).1 (baseP p)).2)
/-- has an owner too many blocks, and more than it had? -/
def overP (v r : List (List UInt8)) (I : Int) (o : Nat) : Bool := decide (limitP r o ≠ 0) && decide (limitP r o < usedP r I o) && decide (usedP v I o < usedP r I o)
def beyondP (v r : List (List UInt8)) (I : Int) : Bool := (List.range 16).any (overP v r I)
def weighP (v : List (List UInt8)) (I : Int) (R : List (List UInt8) × Int) : List (List UInt8) × Int :=
  if R.2 ≠ 0 then ([], R.2) else if beyondP v R.1 I then ([], 13) else R
/-- a volume with a thing at a path, ahead of the weighing; the inode -/
def makeP (v : List (List UInt8)) (I : Int) (p : List UInt8) (kd o : Int) : List (List UInt8) × Int × Int :=
  if (vacantP v I p).2.2 ≠ 0 then ([], 0, (vacantP v I p).2.2)
  else if (newP v I kd o).2.2 ≠ 0 then ([], 0, (newP v I kd o).2.2)
  else ((daddP (newP v I kd o).1 I (vacantP v I p).1 (vacantP v I p).2.1 (newP v I kd o).2.1).1, (newP v I kd o).2.1, (daddP (newP v I kd o).1 I (vacantP v I p).1 (vacantP v I p).2.1 (newP v I kd o).2.1).2)
def madeP (v : List (List UInt8)) (I : Int) (p : List UInt8) (kd o : Int) : List (List UInt8) × Int × Int :=
  if (weighP v I ((makeP v I p kd o).1, (makeP v I p kd o).2.2)).2 ≠ 0 then ([], 0, (weighP v I ((makeP v I p kd o).1, (makeP v I p kd o).2.2)).2)
  else ((makeP v I p kd o).1, (makeP v I p kd o).2.1, 0)
theorem mayP_head {p : List UInt8} (h : mayP p = true) : ∃ q, p = 47 :: q := by
  unfold mayP at h
  simp only [Bool.and_eq_true, decide_eq_true_eq] at h
  cases p with
  | nil => simp at h
  | cons c q => exact ⟨q, by have := h.1.1; simp at this; rw [this]⟩
theorem mayP_len {p : List UInt8} (h : mayP p = true) : p.length ≤ 200 := by
  unfold mayP at h
  simp only [Bool.and_eq_true, decide_eq_true_eq] at h
  exact h.1.2
theorem mayP_slash {p : List UInt8} (h : mayP p = true) : 47 ∈ p := by
  obtain ⟨q, rfl⟩ := mayP_head h
  exact List.mem_cons_self
theorem newP_good {v : List (List UInt8)} {I kd o : Int} (hg : Good v I) (h : (newP v I kd o).2.2 = 0) : Good (newP v I kd o).1 I ∧ (newP v I kd o).1.length = v.length ∧ ∃ i : Nat, (i : Int) < I ∧ (newP v I kd o).2.1 = ((i + 1 : Nat) : Int) ∧ (newP v I kd o).1 = putAt v ((i + 1 : Nat) : Int) [kd, 1, o, 0, 0, 0, 0, 0, 0, 0, 0, 0] := by
  unfold newP at h ⊢
  cases hf : freeI v I with
  | none => rw [hf] at h; simp at h
  | some i =>
    have h1 := freeI_some hf
    exact ⟨hg.putAt (by omega) (by omega) _, putAt_len _ _ _, i, h1.1, rfl, rfl⟩
theorem writeZ_ok {v : List (List UInt8)} {I k : Int} (hg : Good v I) (h1 : 1 ≤ k) (h2 : k ≤ I) {d : List UInt8} (h0 : (writeZ v I k d).2 = 0) :
    Good (writeZ v I k d).1 I ∧ (writeZ v I k d).1.length = v.length ∧ ∀ m, 1 ≤ m → m ≤ I → m ≠ k → inoAt (writeZ v I k d).1 m = inoAt v m := by
  unfold writeZ at h0 ⊢
  split
  · rename_i c; rw [if_pos c] at h0; simp at h0
  · rename_i c
    rw [if_neg c] at h0
    exact write_ok hg h1 h2 (by omega) h0
/-- a name added leaves a volume, and all inodes but the directory's -/
theorem dadd_ok {v : List (List UInt8)} {I k ino : Int} {name : List UInt8} (hg : Good v I) (h0 : (daddP v I k name ino).2 = 0) :
    (1 ≤ k ∧ k ≤ I ∧ (inoAt v k).getD 0 0 = 2) ∧ Good (daddP v I k name ino).1 I ∧ (daddP v I k name ino).1.length = v.length ∧ ∀ m, 1 ≤ m → m ≤ I → m ≠ k → inoAt (daddP v I k name ino).1 m = inoAt v m := by
  unfold daddP at h0 ⊢
  split
  · rename_i c; rw [if_pos c] at h0; simp at h0
  · rename_i c
    rw [if_neg c] at h0
    split
    · rename_i c2; rw [if_pos c2] at h0; simp at h0
    · rename_i c2
      rw [if_neg c2] at h0
      split
      · rename_i c3; rw [if_pos c3] at h0; exact absurd h0 c3
      · rename_i c3
        rw [if_neg c3] at h0
        split
        · rename_i c4; rw [if_pos c4] at h0; simp at h0
        · rename_i c4
          rw [if_neg c4] at h0
          obtain ⟨a1, a2, a3, _⟩ := dlist_ok (by simpa using c3 : (dlistP v I k).2 = 0)
          exact ⟨⟨a1, a2, a3⟩, writeZ_ok hg a1 a2 h0⟩
theorem makeP_good {v : List (List UInt8)} {I kd o : Int} {p : List UInt8} (hg : Good v I) (h : (makeP v I p kd o).2.2 = 0) : Good (makeP v I p kd o).1 I ∧ (makeP v I p kd o).1.length = v.length := by
  unfold makeP at h ⊢
  split
  · rename_i c; rw [if_pos c] at h; exact absurd h c
  · rename_i c
    rw [if_neg c] at h
    split
    · rename_i c2; rw [if_pos c2] at h; exact absurd h c2
    · rename_i c2
      rw [if_neg c2] at h
      obtain ⟨h1, h2, _⟩ := newP_good (kd := kd) (o := o) hg (by simpa using c2)
      obtain ⟨_, h3, h4, _⟩ := dadd_ok h1 h
      exact ⟨h3, h4.trans h2⟩
theorem weigh_ok {v : List (List UInt8)} {I : Int} {R : List (List UInt8) × Int} (h : (weighP v I R).2 = 0) : R.2 = 0 ∧ weighP v I R = R := by
  unfold weighP at h ⊢
  split
  · rename_i c; rw [if_pos c] at h; exact absurd h c
  · rename_i c
    rw [if_neg c] at h
    split
    · rename_i c2; rw [if_pos c2] at h; simp at h
    · exact ⟨by simpa using c, rfl⟩
theorem madeP_ok {v : List (List UInt8)} {I kd o : Int} {p : List UInt8} (h : (madeP v I p kd o).2.2 = 0) : (makeP v I p kd o).2.2 = 0 ∧ madeP v I p kd o = ((makeP v I p kd o).1, (makeP v I p kd o).2.1, 0) := by
  unfold madeP at h ⊢
  split
  · rename_i c; rw [if_pos c] at h; exact absurd h c
  · rename_i c
    have := weigh_ok (v := v) (I := I) (R := ((makeP v I p kd o).1, (makeP v I p kd o).2.2)) (by simpa using c)
    exact ⟨this.1, rfl⟩
end Go.Proofs.YtnoofjddikhopaaGreat
/- The walk through a volume's directories: plain. -/
namespace Go.Proofs.YtnoofjddikhopaaGreat
set_option linter.unusedVariables false
set_option linter.unusedSimpArgs false
/-- the paths that were met, and the directories that were gone into -/
structure WalkS where
  paths : List (List UInt8)
  gone : List Int
def isDirP (v : List (List UInt8)) (I n : Int) : Bool := decide (1 ≤ n ∧ n ≤ I) && decide ((inoAt v n).getD 0 0 = 2)
/-- one entry of a directory; k: how its directories are gone into, if they are -/
def stepW (v : List (List UInt8)) (I : Int) (path : List UInt8) (k : Option (WalkS → Int → List UInt8 → WalkS)) (s : WalkS) (x : Ent) : WalkS :=
  match k with
  | none => ⟨s.paths ++ [path ++ 47 :: x.1], s.gone⟩
  | some f => if isDirP v I x.2 && !s.gone.contains x.2 then f ⟨s.paths ++ [path ++ 47 :: x.1], s.gone⟩ x.2 (path ++ 47 :: x.1) else ⟨s.paths ++ [path ++ 47 :: x.1], s.gone⟩
/-- into a directory; r more levels -/
def intoP (v : List (List UInt8)) (I : Int) : Nat → WalkS → Int → List UInt8 → WalkS
  | 0, s, n, path => (dlistP v I n).1.foldl (stepW v I path none) ⟨s.paths, s.gone ++ [n]⟩
  | r + 1, s, n, path => (dlistP v I n).1.foldl (stepW v I path (some (intoP v I r))) ⟨s.paths, s.gone ++ [n]⟩
def walkP (v : List (List UInt8)) (I : Int) : List (List UInt8) := (intoP v I 7 ⟨[], []⟩ 1 []).paths
/-- how many inodes were not gone into -/
def leftW (g : List Int) : Nat := (List.range 65).countP fun i : Nat => !g.contains (i : Int)
def potW (s : WalkS) : Nat := s.paths.length + 280 * leftW s.gone
theorem count_lt {α : Type} {p q : α → Bool} {l : List α} (h : ∀ x ∈ l, q x = true → p x = true) {a : α} (ha : a ∈ l) (h1 : p a = true) (h2 : q a = false) : l.countP q + 1 ≤ l.countP p := by
  induction l with
  | nil => exact absurd ha List.not_mem_nil
  | cons y l ih =>
    have hle : l.countP q ≤ l.countP p := List.countP_mono_left fun x hx => h x (List.mem_cons_of_mem _ hx)
    rcases List.mem_cons.1 ha with rfl | ha
    · rw [List.countP_cons_of_pos h1, List.countP_cons_of_neg (by rw [h2]; simp)]; omega
    · have ih := ih (fun x hx => h x (List.mem_cons_of_mem _ hx)) ha
      by_cases hq : q y = true
      · rw [List.countP_cons_of_pos hq, List.countP_cons_of_pos (h y List.mem_cons_self hq)]; omega
      · rw [List.countP_cons_of_neg hq, List.countP_cons]; omega
theorem left_in {g : List Int} {n : Int} (hn : n ∉ g) (h0 : 0 ≤ n) (h1 : n ≤ 64) : leftW (g ++ [n]) + 1 ≤ leftW g := by
  unfold leftW
  refine count_lt (a := n.toNat) (fun i _ hq => ?_) (List.mem_range.2 (by omega)) ?_ ?_
  · simp at hq ⊢; exact hq.1
  · rw [show ((n.toNat : Nat) : Int) = n by omega]; simpa using hn
  · rw [show ((n.toNat : Nat) : Int) = n by omega]; simp
theorem pot_in {s : WalkS} {n : Int} (hn : n ∉ s.gone) (h0 : 0 ≤ n) (h1 : n ≤ 64) : potW ⟨s.paths, s.gone ++ [n]⟩ + 280 ≤ potW s := by
  have := left_in hn h0 h1
  unfold potW
  simp only
  omega
theorem pot_step {v : List (List UInt8)} {I : Int} {path : List UInt8} {k : Option (WalkS → Int → List UInt8 → WalkS)}
    (hk : ∀ f, k = some f → ∀ s n p, n ∉ s.gone → 0 ≤ n → n ≤ 64 → potW (f s n p) ≤ potW s) {s : WalkS} {x : Ent} (hI : I ≤ 64) : potW (stepW v I path k s x) ≤ potW s + 1 := by
  have h1 : potW ⟨s.paths ++ [path ++ 47 :: x.1], s.gone⟩ = potW s + 1 := by unfold potW; simp; omega
  unfold stepW
  cases k with
  | none => exact Nat.le_of_eq h1
  | some f =>
    simp only
    split
    · rename_i c
      rw [Bool.and_eq_true] at c
      have c1 := c.1
      unfold isDirP at c1
      simp at c1
      refine Nat.le_trans (hk f rfl _ _ _ ?_ (by omega) (by omega)) (Nat.le_of_eq h1)
      simpa using c.2
    · exact Nat.le_of_eq h1
theorem pot_fold {v : List (List UInt8)} {I : Int} {path : List UInt8} {k : Option (WalkS → Int → List UInt8 → WalkS)}
    (hk : ∀ f, k = some f → ∀ s n p, n ∉ s.gone → 0 ≤ n → n ≤ 64 → potW (f s n p) ≤ potW s) (hI : I ≤ 64) (l : List Ent) : ∀ s, potW (l.foldl (stepW v I path k) s) ≤ potW s + l.length := by
  induction l with
  | nil => intro s; exact Nat.le_refl _
  | cons x l ih =>
    intro s
    rw [List.foldl_cons, List.length_cons]
    have := ih (stepW v I path k s x)
    have := pot_step (v := v) (path := path) hk (s := s) (x := x) hI
    omega
theorem pot_into {v : List (List UInt8)} {I : Int} (hI : I ≤ 64) (r : Nat) : ∀ s n p, n ∉ s.gone → 0 ≤ n → n ≤ 64 → potW (intoP v I r s n p) ≤ potW s := by
  induction r with
  | zero =>
    intro s n p hn h0 h1
    have e1 := pot_in hn h0 h1
    have e2 := pot_fold (v := v) (I := I) (path := p) (k := none) (fun f e => by cases e) hI (dlistP v I n).1 ⟨s.paths, s.gone ++ [n]⟩
    have e3 := dlist_len v I n
    unfold intoP
    omega
  | succ r ih =>
    intro s n p hn h0 h1
    have e1 := pot_in hn h0 h1
    have e2 := pot_fold (v := v) (I := I) (path := p) (k := some (intoP v I r)) (fun f e => by cases e; exact ih) hI (dlistP v I n).1 ⟨s.paths, s.gone ++ [n]⟩
    have e3 := dlist_len v I n
    unfold intoP
    omega
/-- how many directories were gone into, and how many were not -/
def potG (s : WalkS) : Nat := s.gone.length + leftW s.gone
theorem potG_in {s : WalkS} {n : Int} (hn : n ∉ s.gone) (h0 : 0 ≤ n) (h1 : n ≤ 64) (q : List (List UInt8)) : potG ⟨q, s.gone ++ [n]⟩ ≤ potG s := by
  have := left_in hn h0 h1
  unfold potG
  simp only [List.length_append, List.length_singleton]
  omega
theorem potG_step {v : List (List UInt8)} {I : Int} {path : List UInt8} {k : Option (WalkS → Int → List UInt8 → WalkS)}
    (hk : ∀ f, k = some f → ∀ s n p, n ∉ s.gone → 0 ≤ n → n ≤ 64 → potG (f s n p) ≤ potG s) {s : WalkS} {x : Ent} (hI : I ≤ 64) : potG (stepW v I path k s x) ≤ potG s := by
  have h1 : potG ⟨s.paths ++ [path ++ 47 :: x.1], s.gone⟩ = potG s := rfl
  unfold stepW
  cases k with
  | none => exact Nat.le_of_eq h1
  | some f =>
    simp only
    split
    · rename_i c
      rw [Bool.and_eq_true] at c
      have c1 := c.1
      unfold isDirP at c1
      simp at c1
      refine Nat.le_trans (hk f rfl _ _ _ ?_ (by omega) (by omega)) (Nat.le_of_eq h1)
      simpa using c.2
    · exact Nat.le_of_eq h1
theorem potG_fold {v : List (List UInt8)} {I : Int} {path : List UInt8} {k : Option (WalkS → Int → List UInt8 → WalkS)}
    (hk : ∀ f, k = some f → ∀ s n p, n ∉ s.gone → 0 ≤ n → n ≤ 64 → potG (f s n p) ≤ potG s) (hI : I ≤ 64) (l : List Ent) : ∀ s, potG (l.foldl (stepW v I path k) s) ≤ potG s := by
  induction l with
  | nil => intro s; exact Nat.le_refl _
  | cons x l ih =>
    intro s
    rw [List.foldl_cons]
    exact Nat.le_trans (ih _) (potG_step hk hI)
theorem potG_into {v : List (List UInt8)} {I : Int} (hI : I ≤ 64) (r : Nat) : ∀ s n p, n ∉ s.gone → 0 ≤ n → n ≤ 64 → potG (intoP v I r s n p) ≤ potG s := by
  induction r with
  | zero =>
    intro s n p hn h0 h1
    exact Nat.le_trans (potG_fold (v := v) (I := I) (path := p) (k := none) (fun f e => by cases e) hI (dlistP v I n).1 ⟨s.paths, s.gone ++ [n]⟩) (potG_in hn h0 h1 _)
  | succ r ih =>
    intro s n p hn h0 h1
    exact Nat.le_trans (potG_fold (v := v) (I := I) (path := p) (k := some (intoP v I r)) (fun f e => by cases e; exact ih) hI (dlistP v I n).1 ⟨s.paths, s.gone ++ [n]⟩) (potG_in hn h0 h1 _)
theorem potG_nil : potG ⟨[], []⟩ = 65 := rfl
theorem pot_nil : potW ⟨[], []⟩ = 18200 := rfl
end Go.Proofs.YtnoofjddikhopaaGreat
/- Plain: a name taken out of a directory, an inode let go, fs.Remove. -/
namespace Go.Proofs.YtnoofjddikhopaaGreat
set_option linter.unusedVariables false
set_option linter.unusedSimpArgs false
/-- entries without the one of a name -/
def delE (l : List Ent) (name : List UInt8) : List Ent := l.take (posE l name) ++ l.drop (posE l name + 1)
/-- a volume with a name less in a directory, or the error -/
def ddropP (v : List (List UInt8)) (I k : Int) (name : List UInt8) : List (List UInt8) × Int :=
  if mayD name = false then ([], 7) else if (dlistP v I k).2 ≠ 0 then ([], (dlistP v I k).2)
  else if hasE (dlistP v I k).1 name = false then ([], 9)
  else if delE (dlistP v I k).1 name = [] then cutP v I k 0
  else if (writeZ v I k (bytesE (delE (dlistP v I k).1 name))).2 ≠ 0 then ([], (writeZ v I k (bytesE (delE (dlistP v I k).1 name))).2)
  else cutP (writeZ v I k (bytesE (delE (dlistP v I k).1 name))).1 I k (bytesE (delE (dlistP v I k).1 name)).length
theorem ddrop_ok {v : List (List UInt8)} {I k : Int} {name : List UInt8} (hg : Good v I) (h0 : (ddropP v I k name).2 = 0) :
    (1 ≤ k ∧ k ≤ I ∧ (inoAt v k).getD 0 0 = 2) ∧ Good (ddropP v I k name).1 I ∧ (ddropP v I k name).1.length = v.length ∧ ∀ m, 1 ≤ m → m ≤ I → m ≠ k → inoAt (ddropP v I k name).1 m = inoAt v m := by
  unfold ddropP at h0 ⊢
  split
  · rename_i c; rw [if_pos c] at h0; simp at h0
  rename_i c; rw [if_neg c] at h0
  split
  · rename_i c2; rw [if_pos c2] at h0; exact absurd h0 c2
  rename_i c2; rw [if_neg c2] at h0
  split
  · rename_i c3; rw [if_pos c3] at h0; simp at h0
  rename_i c3; rw [if_neg c3] at h0
  obtain ⟨a1, a2, a3, _⟩ := dlist_ok (by simpa using c2 : (dlistP v I k).2 = 0)
  refine ⟨⟨a1, a2, a3⟩, ?_⟩
  split
  · rename_i c4
    rw [if_pos c4] at h0
    obtain ⟨b1, b2, b3, _⟩ := cutP_ok hg a1 a2 h0
    exact ⟨b1, b2, b3⟩
  rename_i c4; rw [if_neg c4] at h0
  split
  · rename_i c5; rw [if_pos c5] at h0; exact absurd h0 c5
  rename_i c5; rw [if_neg c5] at h0
  obtain ⟨d1, d2, d3⟩ := writeZ_ok hg a1 a2 (d := bytesE (delE (dlistP v I k).1 name)) (by simpa using c5)
  obtain ⟨b1, b2, b3, _⟩ := cutP_ok d1 a1 a2 h0
  exact ⟨b1, b2.trans d2, fun m m1 m2 m3 => (b3 m m1 m2 m3).trans (d3 m m1 m2 m3)⟩
theorem zero_fits : fitsB zero12 = true := by kernel_rfl
set_option maxRecDepth 100000 in
theorem gone_ok {v : List (List UInt8)} {I k : Int} (hg : Good v I) (h1 : 1 ≤ k) (h2 : k ≤ I) :
    (cutP v I k 0).2 = 0 ∧ Good (goneP v I k) I ∧ (goneP v I k).length = v.length ∧ (∀ m, 1 ≤ m → m ≤ I → m ≠ k → inoAt (goneP v I k) m = inoAt v m) ∧ inoAt (goneP v I k) k = zero12 := by
  have h0 : (cutP v I k 0).2 = 0 := rfl
  obtain ⟨a1, a2, a3, _⟩ := cutP_ok hg h1 h2 h0
  have a4 : inoAt (cutP v I k 0).1 k = inoAt (cutP v I k 0).1 k := rfl
  refine ⟨h0, ?_⟩
  unfold goneP
  generalize (cutP v I k 0).1 = w at *
  generalize (inoAt w k).getD 11 0 = b at *
  have e : FrmOk ⟨w, I, k, inoAt w k⟩ (FileT.gave ⟨w, I, k, inoAt w k⟩ b) := gave_fo (F := ⟨w, I, k, inoAt w k⟩) (FileOk.of a1 h1 h2) b
  have ev : (FileT.gave ⟨w, I, k, inoAt w k⟩ b).v = if canGive w I b then givenV w b.toNat else w := by
    unfold FileT.gave
    split <;> rfl
  have eI := e.2.I
  have g := e.1.good
  rw [eI] at g
  have l := e.2.len
  have i := e.2.ino
  rw [ev] at g l i
  generalize (if canGive w I b then givenV w b.toNat else w) = r at *
  refine ⟨g.putAt h1 h2 _, (putAt_len _ _ _).trans (l.trans a2), fun m m1 m2 m3 => ?_, inoAt_put_eq g h1 h2 rfl zero_fits⟩
  rw [inoAt_put_ne g h1 h2 m1 m3, i m m1 m2 m3, a3 m m1 m2 m3]
/-- what fs.Remove makes, ahead of the weighing -/
def remP (v : List (List UInt8)) (I : Int) (p : List UInt8) : List (List UInt8) × Int :=
  if (findP v I p).2 ≠ 0 then ([], (findP v I p).2)
  else if p = [47] then ([], 12)
  else if isDirP v I (findP v I p).1 = true ∧ ((dlistP v I (findP v I p).1).2 ≠ 0 ∨ (dlistP v I (findP v I p).1).1 ≠ []) then ([], 12)
  else if (findP v I (aboveP p)).2 ≠ 0 then ([], (findP v I (aboveP p)).2)
  else if (ddropP v I (findP v I (aboveP p)).1 (baseP p)).2 ≠ 0 then ([], (ddropP v I (findP v I (aboveP p)).1 (baseP p)).2)
  else if (findP v I p).1 < 1 ∨ I < (findP v I p).1 then ((ddropP v I (findP v I (aboveP p)).1 (baseP p)).1, 0)
  else if (inoAt v (findP v I p).1).getD 1 0 ≤ 1 ∨ (inoAt v (findP v I p).1).getD 0 0 = 2 then (goneP (ddropP v I (findP v I (aboveP p)).1 (baseP p)).1 I (findP v I p).1, 0)
  else (putAt (ddropP v I (findP v I (aboveP p)).1 (baseP p)).1 (findP v I p).1 ((inoAt v (findP v I p).1).set 1 ((inoAt v (findP v I p).1).getD 1 0 - 1)), 0)
theorem remP_good {v : List (List UInt8)} {I : Int} {p : List UInt8} (hg : Good v I) (h0 : (remP v I p).2 = 0) : Good (remP v I p).1 I ∧ (remP v I p).1.length = v.length := by
  unfold remP at h0 ⊢
  split
  · rename_i c; rw [if_pos c] at h0; exact absurd h0 c
  rename_i c; rw [if_neg c] at h0
  split
  · rename_i c; rw [if_pos c] at h0; simp at h0
  rename_i c; rw [if_neg c] at h0
  split
  · rename_i c; rw [if_pos c] at h0; simp at h0
  rename_i c; rw [if_neg c] at h0
  split
  · rename_i c; rw [if_pos c] at h0; exact absurd h0 c
  rename_i c; rw [if_neg c] at h0
  split
  · rename_i c; rw [if_pos c] at h0; exact absurd h0 c
  rename_i c
  obtain ⟨_, d1, d2, d3⟩ := ddrop_ok hg (by simpa using c : (ddropP v I (findP v I (aboveP p)).1 (baseP p)).2 = 0)
  clear c h0
  split
  · exact ⟨d1, d2⟩
  rename_i c
  split
  · obtain ⟨_, g1, g2, _⟩ := gone_ok d1 (k := (findP v I p).1) (by omega) (by omega)
    exact ⟨g1, g2.trans d2⟩
  · exact ⟨d1.putAt (by omega) (by omega) _, (putAt_len _ _ _).trans d2⟩
end Go.Proofs.YtnoofjddikhopaaGreat
/- fs.beyond, weighed, Read, Write on a volume that is one. -/
namespace Go.Proofs.YtnoofjddikhopaaGreat
set_option linter.unusedVariables false
set_option linter.unusedSimpArgs false
open Go.RowKit
set_option maxHeartbeats 1000000 in
set_option maxRecDepth 100000 in
theorem beyond_any (A A2 : Option Addr) (n c n2 c2 : Nat) (v r : List (List UInt8)) (I : Int) (w : World) (hv : Strs w A n v) (hr : Strs w A2 n2 r) (hg : Good v I) (hgr : Good r I) :
    Calls Tryz.prog 77 #[.slice A n c, .slice A2 n2 c2] w fun e w' => e = .returned (.bool (beyondP v r I)) ∧ Ext w w' := by
  have HL := Lib.hid (fun (o : Nat) w h ho => qLimit_any A2 n2 c2 o r I w h hgr ho)
  have HU2 := Lib.hid (fun o w h => qused_any A2 n2 c2 r I o w h hgr)
  have HU1 := Lib.hid (fun o w h => qused_any A n c v I o w h hg)
  have HV := Lib.hid hv
  have HR := Lib.hid hr
  have HOv : Hid (∀ o : Nat, overP v r I o = (decide (limitP r o ≠ 0) && decide (limitP r o < usedP r I o) && decide (usedP v I o < usedP r I o))) := fun o => rfl
  have HB : Hid (beyondP v r I = (List.range 16).any (overP v r I)) := rfl
  clear hv hr hg hgr
  generalize limitP r = lim at *
  generalize usedP r I = ur at *
  generalize usedP v I = uv at *
  generalize overP v r I = ov at *
  generalize beyondP v r I = bb at *
  go_enter Tryz.func77, Tryz.ntmps77
  go_upto_region 2 with fail
  go_loopw [5, 6, 7, 8, 9] (fun _ _ _ _ t wx => ∃ o : Nat, o ≤ 16 ∧ t = .int .i64 o ∧ Ext w wx ∧ ∀ j, j < o → ov j = false) (fun _ _ _ _ t _ => 16 - (intOf t).toNat)
  case atStart => exact ⟨0, by omega, rfl, Ext.refl w, fun j hj => absurd hj (Nat.not_lt_zero _)⟩
  case round =>
    obtain ⟨o, ho, rfl, xo, hall⟩ := hrel
    have HAl := Lib.hid hall
    clear hall
    by_cases hlt : o < 16
    · have hoi : (o : Int) < 16 := by omega
      have HLo := Lib.hid (fun w h => HL.out o w h hlt)
      have HOo := Lib.hid (HOv.out o)
      have H2o := Lib.hid (HU2.out (o : Int))
      have H1o := Lib.hid (HU1.out (o : Int))
      generalize lim o = z at *
      generalize ur (o : Int) = a at *
      generalize uv (o : Int) = b at *
      by_cases hz : z = 0
      · have dz : (z == 0) = true := by simpa using hz
        have hf : ov o = false := by rw [HOo.out, decide_eq_false (fun h => h hz)]; rfl
        go_wp2_with (go_at_call 112; refine (HLo.out _ (HR.out.ext xo)).mono ?_; rintro e w1 ⟨rfl, x1⟩)
        go_roundw
        case rel => exact ⟨o + 1, by omega, by go_num, xo.trans x1, fun j hj => by
          by_cases e : j = o
          · rw [e]; exact hf
          · exact HAl.out j (by omega)⟩
        case measure => simp [intOf]; omega
      · have dz : (z == 0) = false := by simpa using hz
        by_cases ha : z < a
        · have da : decide (z < a) = true := by simpa using ha
          rcases Bool.eq_false_or_eq_true (decide (b < a)) with db | db
          · have hf : ov o = true := by rw [HOo.out, decide_eq_true hz, da, db]; rfl
            go_wp2_with (first
              | (go_at_call 112; refine (HLo.out _ (HR.out.ext xo)).mono ?_; rintro e w1 ⟨rfl, x1⟩)
              | (go_at_call 113; (have hq := H2o.out _ ((HR.out.ext xo).ext x1); with_reducible (refine hq.mono ?_)); clear hq; rintro e w2 ⟨rfl, x2⟩)
              | (go_at_call 113; (have hq := H1o.out _ (((HV.out.ext xo).ext x1).ext x2); with_reducible (refine hq.mono ?_)); clear hq; rintro e w3 ⟨rfl, x3⟩))
            go_ret
            refine ⟨?_, ((xo.trans x1).trans x2).trans x3⟩
            rw [HB.out, show (List.range 16).any ov = true from List.any_eq_true.2 ⟨o, List.mem_range.2 hlt, hf⟩]; rfl
          · have hf : ov o = false := by rw [HOo.out, db]; simp
            go_wp2_with (first
              | (go_at_call 112; refine (HLo.out _ (HR.out.ext xo)).mono ?_; rintro e w1 ⟨rfl, x1⟩)
              | (go_at_call 113; (have hq := H2o.out _ ((HR.out.ext xo).ext x1); with_reducible (refine hq.mono ?_)); clear hq; rintro e w2 ⟨rfl, x2⟩)
              | (go_at_call 113; (have hq := H1o.out _ (((HV.out.ext xo).ext x1).ext x2); with_reducible (refine hq.mono ?_)); clear hq; rintro e w3 ⟨rfl, x3⟩))
            go_roundw
            case rel => exact ⟨o + 1, by omega, by go_num, ((xo.trans x1).trans x2).trans x3, fun j hj => by
              by_cases e : j = o
              · rw [e]; exact hf
              · exact HAl.out j (by omega)⟩
            case measure => simp [intOf]; omega
        · have da : decide (z < a) = false := by simpa using ha
          have hf : ov o = false := by rw [HOo.out, da]; simp
          go_wp2_with (first
            | (go_at_call 112; refine (HLo.out _ (HR.out.ext xo)).mono ?_; rintro e w1 ⟨rfl, x1⟩)
            | (go_at_call 113; (have hq := H2o.out _ ((HR.out.ext xo).ext x1); with_reducible (refine hq.mono ?_)); clear hq; rintro e w2 ⟨rfl, x2⟩))
          go_roundw
          case rel => exact ⟨o + 1, by omega, by go_num, (xo.trans x1).trans x2, fun j hj => by
            by_cases e : j = o
            · rw [e]; exact hf
            · exact HAl.out j (by omega)⟩
          case measure => simp [intOf]; omega
    · obtain rfl : o = 16 := by omega
      go_wp2_with fail
      go_ret
      refine ⟨?_, xo⟩
      rw [HB.out, show (List.range 16).any ov = false from List.any_eq_false.2 (fun j hj => by rw [HAl.out j (List.mem_range.1 hj)]; simp)]; rfl
theorem WriteR.strs {B : Nat} {R : List (List UInt8) × Int} {u : Value} {w : World} (h : WriteR B R (.returned (.tuple #[u, .int .i64 R.2])) w) (h0 : R.2 = 0) : ∃ b cap, u = .slice (some ⟨b, 0, none⟩) R.1.length cap ∧ w.ownsRow B 9 1 (.slice (some ⟨b, 0, none⟩) R.1.length cap) R.1.length (strL R.1) := by
  rcases h with ⟨h, _⟩ | ⟨_, b, cap, e, own⟩
  · exact absurd h0 h
  · refine ⟨b, cap, ?_, own⟩
    injection e with e
    injection e with e
    injection e with e
    injection e with e e2
theorem WriteR.nils {B : Nat} {R : List (List UInt8) × Int} {u : Value} {w : World} (h : WriteR B R (.returned (.tuple #[u, .int .i64 R.2])) w) (h0 : R.2 ≠ 0) : u = .slice none 0 0 := by
  rcases h with ⟨_, e⟩ | ⟨h, _⟩
  · injection e with e
    injection e with e
    injection e with e
    injection e with e e2
  · exact absurd h h0
set_option maxHeartbeats 1000000 in
set_option maxRecDepth 100000 in
theorem weighed_any (N : Nat) (A : Option Addr) (n c : Nat) (v : List (List UInt8)) (I : Int) (g : Nat) (lb : Array Value) (R : List (List UInt8) × Int) (P : World → Prop) (w : World) (eg : ∀ args w, (callFunc g args).run Tryz.prog w = .ok (.enter g args) w)
    (hV : ∀ W, Below N w W → Strs W A n v) (hN : N ≤ w.heap.size) (hg : Good v I) (hR : R.2 = 0 → Good R.1 I) (hP : ∀ W W', P W → Ext W W' → P W')
    (hch : Calls Tryz.prog g lb w fun e W' => WriteR w.heap.size R e W' ∧ Below N w W' ∧ P W') :
    Calls Tryz.prog 33 #[.slice A n c, .func (.func g) #[] lb] w fun e w' => WriteR w.heap.size (weighP v I R) e w' ∧ Below N w w' ∧ P w' := by
  have HW : Hid (weighP v I R = if R.2 ≠ 0 then ([], R.2) else if beyondP v R.1 I then ([], 13) else R) := rfl
  have HC := Lib.hid hch
  have HV := Lib.hid hV
  have HP := Lib.hid hP
  have HB := Lib.hid (fun A2 n2 c2 w h1 h2 h3 => beyond_any A A2 n c n2 c2 v R.1 I w h1 h2 hg h3)
  have HR := Lib.hid hR
  clear hch hV hP hg hR
  generalize weighP v I R = Q at *
  generalize beyondP v R.1 I = bb at *
  by_cases h0 : R.2 = 0
  · rw [if_neg (fun h => h h0)] at HW
    have HG := Lib.hid (HR.out h0)
    have e0 : (Value.int .i64 R.2) = .int .i64 0 := by rw [h0]
    cases bb with
    | true =>
      go_enter Tryz.func33, Tryz.ntmps33
      go_wp2_with (first
        | (go_at_fn g; refine HC.out.mono ?_; rintro e w1 ⟨hW, x1, p1⟩; obtain ⟨u, rfl, hW1⟩ := hW.form; obtain ⟨b1, cap1, rfl, own1⟩ := hW1.strs h0; rw [e0]; clear hW hW1)
        | (go_at_call 77; refine (HB.out _ _ _ _ (HV.out _ x1) (Strs.own own1) HG.out).mono ?_; rintro e w2 ⟨rfl, x2⟩))
      go_ret2
      rw [HW.out]
      exact ⟨.inl ⟨(by show (13 : Int) ≠ 0; decide), rfl⟩, x1.trans (Below.mono x2 (by have := x1.size; omega)), HP.out _ _ p1 x2⟩
    | false =>
      go_enter Tryz.func33, Tryz.ntmps33
      go_wp2_with (first
        | (go_at_fn g; refine HC.out.mono ?_; rintro e w1 ⟨hW, x1, p1⟩; obtain ⟨u, rfl, hW1⟩ := hW.form; obtain ⟨b1, cap1, rfl, own1⟩ := hW1.strs h0; rw [e0]; clear hW hW1)
        | (go_at_call 77; refine (HB.out _ _ _ _ (HV.out _ x1) (Strs.own own1) HG.out).mono ?_; rintro e w2 ⟨rfl, x2⟩))
      go_ret2
      rw [HW.out]
      exact ⟨.inr ⟨h0, b1, cap1, rfl, own_ext own1 x2⟩, x1.trans (Below.mono x2 (by have := x1.size; omega)), HP.out _ _ p1 x2⟩
  · rw [if_pos h0] at HW
    have d0 : (R.2 != 0) = true := by simpa using h0
    have e0 : ∀ u W, WriteR w.heap.size R (.returned (.tuple #[u, .int .i64 R.2])) W → u = .slice none 0 0 := fun u W h => h.nils h0
    go_enter Tryz.func33, Tryz.ntmps33
    go_wp2_with (first
      | (go_at_fn g; refine HC.out.mono ?_; rintro e w1 ⟨hW, x1, p1⟩; obtain ⟨u, rfl, hW1⟩ := hW.form; obtain rfl := e0 u w1 hW1; clear hW hW1))
    go_ret2
    rw [HW.out]
    exact ⟨.inl ⟨h0, rfl⟩, x1, p1⟩
theorem file_in {v : List (List UInt8)} {I k : Int} (h : fileE v I k = 0) : 1 ≤ k ∧ k ≤ I := by
  unfold fileE at h
  split at h
  · cases h
  · omega
end Go.Proofs.YtnoofjddikhopaaGreat
/- dir.Drop on a volume that is one. -/
namespace Go.Proofs.YtnoofjddikhopaaGreat
set_option linter.unusedVariables false
set_option linter.unusedSimpArgs false
open Go.RowKit
def ownEV (B : Nat) (l : List Ent) : World → Value → Prop := fun w u => w.ownsRow B 79 2 u l.length (entL l)
theorem lasts_ownE (B : Nat) (l : List Ent) : Lasts (ownEV B l) := fun _ _ _ hx h => own_ext h hx
def entsV (l : List Ent) : World → Value → Prop := fun w u => ∃ A m c, u = .slice A m c ∧ Ents w A m l ∧ (A = none → m = 0 ∧ c = 0)
theorem lasts_ents (l : List Ent) : Lasts (entsV l) := fun _ _ _ hx ⟨A, m, c, e, h, h2⟩ => ⟨A, m, c, e, h.ext hx, h2⟩
set_option maxHeartbeats 4000000 in
set_option maxRecDepth 100000 in
theorem ddrop_any (A : Option Addr) (n c : Nat) (v : List (List UInt8)) (I k : Int) (name : List UInt8) (w : World) (hv : Strs w A n v) (hg : Good v I) (hnl : name.length ≤ 1000000000) :
    Calls Tryz.prog 38 #[.slice A n c, .int .i64 k, .string (str name)] w fun e w' => WriteR w.heap.size (ddropP v I k name) e w' ∧ Ext w w' := by
  have HM := Lib.hid (fun w => dmay_any name w hnl)
  have HL := Lib.hid (fun w h => dlist_any A n c v I k w h hg)
  have hll := dlist_len v I k
  have hle := dlist_ents v I k
  cases hm : mayD name with
  | false =>
    have HP := Lib.hid (show ddropP v I k name = ([], 7) from by unfold ddropP; rw [if_pos hm])
    rw [hm] at HM
    go_enter Tryz.func38, Tryz.ntmps38
    go_wp2_with (go_at_call 42; refine (HM.out _).mono ?_; rintro e w1 ⟨rfl, x1⟩)
    go_ret2
    rw [HP.out]
    exact ⟨WriteR.err (by decide), x1⟩
  | true =>
  by_cases he : (dlistP v I k).2 = 0
  case neg =>
    have HP := Lib.hid (show ddropP v I k name = ([], (dlistP v I k).2) from by unfold ddropP; rw [if_neg (by rw [hm]; simp), if_pos he])
    have HNe := Lib.hid he
    have de : ((dlistP v I k).2 != 0) = true := by simpa using he
    rw [hm] at HM
    clear he hm hle
    generalize dlistP v I k = R at *
    go_enter Tryz.func38, Tryz.ntmps38
    go_wp2_with (first
      | (go_at_call 42; refine (HM.out _).mono ?_; rintro e w1 ⟨rfl, x1⟩)
      | (go_at_call 36; refine (HL.out _ (hv.ext x1)).mono ?_; rintro e w2 ⟨u, rfl, x2, own2⟩))
    go_ret2
    rw [HP.out]
    exact ⟨WriteR.err HNe.out, x1.trans x2⟩
  have hkk := dlist_ok he
  have HWr := Lib.hid (fun d w h => fwrite_any A n c v I k d w h hg hkk.1 hkk.2.1)
  have HWk := Lib.hid (fun d (h : (writeZ v I k d).2 = 0) => (writeZ_ok hg hkk.1 hkk.2.1 h).1)
  have HCt := Lib.hid (fun A n c u z w h (hg : Good u I) => fcut_any A n c u I k z w h hg hkk.1 hkk.2.1)
  have HGd := Lib.hid hg
  have HV := Lib.hid hv
  have HP0 := Lib.hid (show ddropP v I k name = if hasE (dlistP v I k).1 name = false then ([], 9)
    else if delE (dlistP v I k).1 name = [] then cutP v I k 0
    else if (writeZ v I k (bytesE (delE (dlistP v I k).1 name))).2 ≠ 0 then ([], (writeZ v I k (bytesE (delE (dlistP v I k).1 name))).2)
    else cutP (writeZ v I k (bytesE (delE (dlistP v I k).1 name))).1 I k (bytesE (delE (dlistP v I k).1 name)).length from by unfold ddropP; rw [if_neg (by rw [hm]; simp), if_neg (by rw [he]; simp)])
  rw [he] at HL
  clear hkk he hv hg
  generalize ddropP v I k name = D at *
  generalize (dlistP v I k).1 = l at *
  have HSr := Lib.hid (fun A c w h hA => dsearch_any A l.length c l name w h (by omega) hle.2 hA)
  rw [hm] at HM
  clear hm
  cases hh : hasE l name with
  | false =>
    have HP1 := Lib.hid (show D = ([], 9) from by rw [HP0.out, if_pos hh])
    rw [hh] at HSr
    clear hh HP0 hle
    generalize posE l name = p at *
    go_enter Tryz.func38, Tryz.ntmps38
    go_wp2_with (first
      | (go_at_call 42; refine (HM.out _).mono ?_; rintro e w1 ⟨rfl, x1⟩)
      | (go_at_call 36; refine (HL.out _ (HV.out.ext x1)).mono ?_; rintro e w2 ⟨u, rfl, x2, own2⟩; obtain ⟨A2, cap2, rfl, st2⟩ := own2.form; have hA2 := fun b o (h : A2 = some ⟨b, o, none⟩) (_ : 0 < l.length) => own2.old b o l.length cap2 (by rw [h]))
      | (go_at_call 46; refine (HSr.out A2 cap2 _ st2 hA2).mono ?_; rintro e w3 ⟨rfl, x3⟩))
    go_ret2
    rw [HP1.out]
    exact ⟨WriteR.err (by decide), x1.trans (x2.trans x3)⟩
  | true =>
    rw [if_neg (by rw [hh]; simp)] at HP0
    have hpl : posE l name < l.length := by unfold hasE at hh; simp only [Bool.and_eq_true, decide_eq_true_eq] at hh; exact hh.1
    have hple : posE l name ≤ l.length := by omega
    rw [hh] at HSr
    have HDl := Lib.hid (show delE l name = l.take (posE l name) ++ l.drop (posE l name + 1) from rfl)
    have HBl := Lib.hid (show ∀ x ∈ delE l name, x.1.length ≤ 24 ∧ 0 ≤ x.2 ∧ x.2 < 65536 from fun x hx => by
      have hm : x ∈ l := by
        rcases List.mem_append.1 hx with h | h
        · exact List.mem_of_mem_take h
        · exact List.mem_of_mem_drop h
      have := hle.1 x hm
      exact ⟨(mayD_len this.1).2, by omega, by omega⟩)
    have hdl : (delE l name).length ≤ 280 := by unfold delE; rw [List.length_append, List.length_take, List.length_drop]; omega
    have HNil := Lib.hid (show delE l name = [] ↔ bytesE (delE l name) = [] from ⟨fun h => by rw [h]; rfl, fun h => by
      have := bytesE_len (l := delE l name) (fun x hx => by have := (HBl.out x hx).1; omega)
      rw [h] at this
      exact List.eq_nil_of_length_eq_zero (by simp at this; omega)⟩)
    clear hh hle
    generalize delE l name = dl at *
    generalize posE l name = p at *
    have HBy := Lib.hid (fun A c w h => dbytes_any A dl.length c dl w h (by omega) HBl.out)
    clear hdl
    have hpi : (p : Int) ≤ (l.length : Int) := by omega
    have hp1 : ((p + 1 : Nat) : Int) ≤ (l.length : Int) := by omega
    have wp1 : IntKind.i64.wrap ((p : Int) + 1) = ((p + 1 : Nat) : Int) := by rw [IntKind.wrap_i64]; omega
    go_enter Tryz.func38, Tryz.ntmps38
    go_upto_region 9 with (first
      | (go_at_call 42; refine (HM.out _).mono ?_; rintro e w1 ⟨rfl, x1⟩)
      | (go_at_call 36; refine (HL.out _ (HV.out.ext x1)).mono ?_; rintro e w2 ⟨u, rfl, x2, own2⟩; obtain ⟨A2, cap2, rfl, st2⟩ := own2.form; have hA2 := fun b o (h : A2 = some ⟨b, o, none⟩) (_ : 0 < l.length) => own2.old b o l.length cap2 (by rw [h]); have hO2 := Lib.hid own2)
      | (go_at_call 46; refine (HSr.out A2 cap2 _ st2 hA2).mono ?_; rintro e w3 ⟨rfl, x3⟩))
    have X3 := x1.trans (x2.trans x3)
    have st3 := st2.ext x3
    have hv3 := HV.out.ext X3
    obtain ⟨g, cap, hgA, hgB, hcc⟩ : ∃ g, ∃ cap : Nat, A2 = some ⟨g, 0, none⟩ ∧ cap2 = cap ∧ l.length ≤ cap2 := by
      rcases hO2.out.2 with ⟨e2, h0⟩ | ⟨g, cap, cur, e2, _, _, hcc, hcm, _⟩
      · omega
      · injection e2 with q1 q2 q3
        exact ⟨g, cap, q1, q3, by omega⟩
    subst hgA
    clear hO2 own2 hA2 hgB st2 x1 x2 x3
    have ST3 := Lib.hid st3
    refine wp_region_web' 8 [[], [], [0, 1], [2], [], [], [5], [4, 6]] (listV [isV (.slice (some ⟨g, 0, none⟩) l.length cap2), isV (.int .i64 (p : Int)), isV (.slice (some ⟨g, 0, none⟩) p cap2), ownEV w3.heap.size (l.take p), isV (.slice (some ⟨g, 0, none⟩) l.length cap2), isV (.int .i64 (p : Int)), isV (.int .i64 ((p + 1 : Nat) : Int)), entsV (l.drop (p + 1))]) (by kernel_rfl) (by kernel_rfl) (listV_ext (fun p hp => by simp only [List.mem_cons, List.not_mem_nil, or_false] at hp; rcases hp with rfl | rfl | rfl | rfl | rfl | rfl | rfl | rfl <;> first | exact lasts_ents _ | exact lasts_is _ | exact lasts_ownE _ _)) (fun us => ?_)
    simp only [List.take_succ_cons, List.take_zero, List.drop_succ_cons, List.drop_zero]
    rw [webWalk]
    refine And.intro (fun w' hx hd => ?_) ?_
    · clear hd
      refine web_of_list 33 rfl (by simp) rfl ?_
      go_wp2_with fail
      exact ⟨Ext.refl _, rfl⟩
    simp only [Act.put, List.setIfInBounds_toArray, List.set_cons_zero, List.set_cons_succ]
    rw [webWalk]
    refine And.intro (fun w' hx hd => ?_) ?_
    · clear hd
      refine web_of_list 34 rfl (by simp [Act.put]) rfl ?_
      go_wp2_with fail
      exact ⟨Ext.refl _, rfl⟩
    simp only [Act.put, List.setIfInBounds_toArray, List.set_cons_zero, List.set_cons_succ]
    rw [webWalk]
    refine And.intro (fun w' hx hd => ?_) ?_
    · have h0 := hd 0 (by simp)
      have h1 := hd 1 (by simp)
      clear hd
      generalize us 0 = u0 at *
      generalize us 1 = u1 at *
      obtain rfl : u0 = .slice (some ⟨g, 0, none⟩) l.length cap2 := h0
      obtain rfl : u1 = .int .i64 (p : Int) := h1
      refine web_of_list 35 rfl (by simp [Act.put]) rfl ?_
      go_wp2_with fail
      exact ⟨Ext.refl _, rfl⟩
    simp only [Act.put, List.setIfInBounds_toArray, List.set_cons_zero, List.set_cons_succ]
    rw [webWalk]
    refine And.intro (fun w' hx hd => ?_) ?_
    · have h2 := hd 2 (by simp)
      clear hd
      generalize us 2 = u2 at *
      obtain rfl : u2 = .slice (some ⟨g, 0, none⟩) p cap2 := h2
      refine web_of_list 36 rfl (by simp [Act.put]) rfl ?_
      go_wp2_with (refine wp_app_ents (B := w3.heap.size) (l := []) (l2 := (l.take p)) rfl _ (.tmp 35) rfl rfl rfl (World.ownsRow_nil w' _ _ _) (ents_take (ST3.out.ext hx) p hple) (fun h => by cases h) (by omega) hx.size ?_; intro u4 w4 o4 g4)
      have hl4 : (l.take p).length = p := by rw [List.length_take]; omega
      exact ⟨(Ext.refl w').grown g4 (fun _ e => by cases e), (show ownEV w3.heap.size (l.take p) w4 u4 from (by unfold ownEV; rw [hl4]; simpa using o4))⟩
    simp only [Act.put, List.setIfInBounds_toArray, List.set_cons_zero, List.set_cons_succ]
    rw [webWalk]
    refine And.intro (fun w' hx hd => ?_) ?_
    · clear hd
      refine web_of_list 37 rfl (by simp [Act.put]) rfl ?_
      go_wp2_with fail
      exact ⟨Ext.refl _, rfl⟩
    simp only [Act.put, List.setIfInBounds_toArray, List.set_cons_zero, List.set_cons_succ]
    rw [webWalk]
    refine And.intro (fun w' hx hd => ?_) ?_
    · clear hd
      refine web_of_list 38 rfl (by simp [Act.put]) rfl ?_
      go_wp2_with fail
      exact ⟨Ext.refl _, rfl⟩
    simp only [Act.put, List.setIfInBounds_toArray, List.set_cons_zero, List.set_cons_succ]
    rw [webWalk]
    refine And.intro (fun w' hx hd => ?_) ?_
    · have h5 := hd 5 (by simp)
      clear hd
      generalize us 5 = u5 at *
      obtain rfl : u5 = .int .i64 (p : Int) := h5
      refine web_of_list 39 rfl (by simp [Act.put]) rfl ?_
      go_wp2_with fail
      exact ⟨Ext.refl _, rfl⟩
    simp only [Act.put, List.setIfInBounds_toArray, List.set_cons_zero, List.set_cons_succ]
    rw [webWalk]
    refine And.intro (fun w' hx hd => ?_) ?_
    · have h4 := hd 4 (by simp)
      have h6 := hd 6 (by simp)
      clear hd
      generalize us 4 = u4 at *
      generalize us 6 = u6 at *
      obtain rfl : u4 = .slice (some ⟨g, 0, none⟩) l.length cap2 := h4
      obtain rfl : u6 = .int .i64 ((p + 1 : Nat) : Int) := h6
      refine web_of_list 40 rfl (by simp [Act.put]) rfl ?_
      go_wp2_with fail
      all_goals refine ⟨Ext.refl _, (show entsV (l.drop (p + 1)) w' _ from ?_)⟩
      · exact ⟨_, _, _, rfl, ⟨by rw [List.length_drop], fun h => by omega⟩, fun h => by cases h⟩
      · exact ⟨_, _, _, rfl, (by have := ents_drop (ST3.out.ext hx) (p + 1) (by omega); rwa [Nat.zero_add] at this), fun h => by cases h⟩
    simp only [Act.put, List.setIfInBounds_toArray, List.set_cons_zero, List.set_cons_succ]
    rw [webWalk]
    intro w' hx hv
    have h3 := hv 3 (by omega)
    have h7 := hv 7 (by omega)
    clear hv
    generalize us 0 = u0 at *
    generalize us 1 = u1 at *
    generalize us 2 = u2 at *
    generalize us 3 = u3 at *
    generalize us 4 = u4 at *
    generalize us 5 = u5 at *
    generalize us 6 = u6 at *
    generalize us 7 = u7 at *
    skip
    skip
    have o3 : w'.ownsRow w3.heap.size 79 2 u3 p (entL (l.take p)) := by
      have := h3
      unfold listV ownEV at this
      simpa [List.length_take, Nat.min_eq_left hple] using this
    obtain ⟨A7, m7, c7, rfl, st7, hA7⟩ : entsV (l.drop (p + 1)) w' u7 := h7
    have hm7 : m7 = l.length - (p + 1) := by have := st7.1; rw [List.length_drop] at this; exact this
    have hlo := Lib.hid (show ∀ j, u3.ownBlock = some j → w3.heap.size ≤ j from fun j e => own_low o3 e)
    have HX3 := Lib.hid X3
    clear h3 HM HL HSr st3 hv3 X3
    go_upto_region 10 with (first
      | (refine wp_app_ents (l2 := (l.drop (p + 1))) rfl (.tmp 36) (.tmp 40) rfl rfl rfl o3 st7 hA7 (by omega) hx.size ?_; intro u6 w6 o6 g6; have x6 : Ext w3 w6 := hx.grown g6 (fun j e => hlo.out j e); have o7 : OwnE w6 w3.heap.size u6 dl := (by unfold OwnE; rw [HDl.out, show (l.take p ++ l.drop (p + 1)).length = p + m7 by simp; omega]; exact o6); obtain ⟨A6, cap6, rfl, st6⟩ := o7.form)
      | (go_at_call 81; refine (HBy.out A6 cap6 _ st6).mono ?_; rintro e w7 ⟨rfl, x7⟩))
    have X7 := Lib.hid (HX3.out.trans (x6.trans x7))
    have hv7 := Lib.hid (HV.out.ext X7.out)
    clear x6 x7 o6 o7 st6 g6 hlo o3 st7 hA7 hx
    clear HBy HDl ST3 HV HX3
    generalize bytesE dl = by_ at *
    have hz := str_size
    by_cases hnil : by_ = []
    · have HD := Lib.hid (show D = cutP v I k 0 by rw [HP0.out, if_pos (HNil.out.2 hnil)])
      have HC := Lib.hid (HCt.out A n c v 0 w7 hv7.out HGd.out)
      subst hnil
      have h1 : (str ([] : List UInt8)).toList = [] := by rw [str_toList]
      have h0 : (str ([] : List UInt8)).size = 0 := by rw [str_size]; rfl
      clear HP0 HNil HCt HWr HWk HGd hv7
      go_wp2_with (first
        | (go_at_call 83; refine HC.out.mono ?_; rintro e w8 ⟨hW, x8⟩; obtain ⟨u8, rfl, hW8⟩ := hW.form; clear hW))
      go_ret2
      rw [HD.out]
      exact ⟨hW8.base X7.out.size, X7.out.trans x8⟩
    have h1 : ¬ (str by_).toList = [] := by rw [str_toList]; exact hnil
    have h2 : (str by_).toList.isEmpty = false := by rw [str_toList]; simpa using hnil
    rw [if_neg (fun h => hnil (HNil.out.1 h))] at HP0
    have HW := Lib.hid (HWr.out by_ w7 hv7.out)
    have HGW := Lib.hid (HWk.out by_)
    clear HWr HWk HNil hnil hv7
    generalize writeZ v I k by_ = W at *
    by_cases hW0 : W.2 = 0
    · rw [if_neg (fun h => h hW0)] at HP0
      have HGW2 := Lib.hid (HGW.out hW0)
      have HE0 := Lib.hid hW0
      have e0 : (Value.int .i64 W.2) = .int .i64 0 := by rw [hW0]
      clear hW0 HGW
      go_upto_region 14 with (first
        | (go_at_call 82; refine HW.out.mono ?_; rintro e w8 ⟨hW, x8⟩; obtain ⟨u8, rfl, hW8⟩ := hW.form; obtain ⟨b1, cap1, rfl, own1⟩ := hW8.strs HE0.out; rw [e0]; have st8 := Strs.own own1; have HX8 := Lib.hid (X7.out.trans x8); clear hW hW8 own1 x8))
      have HC := Lib.hid (HCt.out _ _ cap1 W.1 (by_.length : Int) _ st8 HGW2.out)
      clear HCt HW st8 e0
      go_wp2_with (first
        | (go_at_call 83; refine HC.out.mono ?_; rintro e w9 ⟨hW9, x9⟩; obtain ⟨u9, rfl, hW9'⟩ := hW9.form; clear hW9))
      go_ret2
      rw [HP0.out]
      exact ⟨hW9'.base HX8.out.size, HX8.out.trans x9⟩
    · rw [if_pos hW0] at HP0
      have d0 : (W.2 != 0) = true := by simpa using hW0
      have HE0 := Lib.hid hW0
      clear hW0 HGW HCt
      go_wp2_with (first
        | (go_at_call 82; refine HW.out.mono ?_; rintro e w8 ⟨hW, x8⟩; obtain ⟨u8, rfl, hW8⟩ := hW.form; clear hW))
      go_ret2
      rw [HP0.out]
      exact ⟨WriteR.err HE0.out, X7.out.trans x8⟩
end Go.Proofs.YtnoofjddikhopaaGreat
/- The walk of fs.may. -/
namespace Go.Proofs.YtnoofjddikhopaaGreat
set_option linter.unusedVariables false
set_option linter.unusedSimpArgs false
open Go.RowKit Go.Shelf
attribute [local go_sem] Oper.semAt_some
theorem take_all {l : List (List UInt8)} (k : Nat) : (∀ j, j < k → mayD (l.getD j []) = true) → l.length ≤ k → l.all mayD = true := fun h hk => by
  rw [List.all_eq_true]
  intro x hx
  obtain ⟨j, hj, rfl⟩ := List.getElem_of_mem hx
  have := h j (by omega)
  rwa [List.getD_eq_getElem?_getD, List.getElem?_eq_getElem hj] at this
theorem path_name (p : List UInt8) (x : Nat) : ((pathP p).getD x []).length ≤ p.length := by
  rw [List.getD_eq_getElem?_getD]
  cases h : (pathP p)[x]? with
  | none => simp
  | some y => exact (pathP_len p).2 y (List.mem_of_getElem? h)
set_option maxHeartbeats 4000000 in
set_option maxRecDepth 100000 in
theorem may_any (p : List UInt8) (w : World) (hp : p.length ≤ 100000000) :
    Calls Tryz.prog 17 #[.string (str p)] w fun e w' => e = .returned (.bool (mayP p)) ∧ Ext w w' := by
  have hz := str_size p
  have HH := Lib.hid (fun w => hasPrefix_any p w)
  have HN := Lib.hid (fun w => names_any (str p) w)
  have HMD := Lib.hid (fun x w => dmay_any ((pathP p).getD x []) w (by have := path_name p x; omega))
  have hpl := (pathP_len p).1
  have x0 : Ext w (w.alloc (.cells #[.bool false] 4)) := (Ext.refl w).alloc _
  have b2 := Box.new w 4 #[.bool false]
  have z0 : (w.alloc (.cells #[.bool false] 4)).heap.size = w.heap.size + 1 := World.size_alloc _ _
  by_cases h47 : p.head? = some 47
  case neg =>
    have d1 : decide (p.head? = some 47) = false := decide_eq_false h47
    rw [show mayP p = false by unfold mayP; rw [d1]; rfl]
    go_enter Tryz.func17, Tryz.ntmps17
    go_wp2_with (go_at_call 41; refine (HH.out _).mono ?_; rintro e w1 ⟨rfl, rfl⟩)
    refine bodyPost_ret (v := .bool false) ?_ rfl ⟨rfl, x0⟩
    have hc := b2.cell 0
    simp [results, Tryz.results17, go_sem, hc]
  case pos =>
    have d1 : decide (p.head? = some 47) = true := decide_eq_true h47
    by_cases hlen : 200 < p.length
    · have hli : (200 : Int) < (p.length : Int) := by omega
      rw [show mayP p = false by unfold mayP; rw [decide_eq_false (show ¬ p.length ≤ 200 by omega)]; simp]
      go_enter Tryz.func17, Tryz.ntmps17
      go_wp2_with (go_at_call 41; refine (HH.out _).mono ?_; rintro e w1 ⟨rfl, rfl⟩)
      refine bodyPost_ret (v := .bool false) ?_ rfl ⟨rfl, x0⟩
      have hc := b2.cell 0
      simp [results, Tryz.results17, go_sem, hc]
    · have hli : ¬ (200 : Int) < (p.length : Int) := by omega
      have b3 := Box.new (w.alloc (.cells #[.bool false] 4)) 3 #[.int .i64 0]
      have b4 := Box.new ((w.alloc (.cells #[.bool false] 4)).alloc (.cells #[.int .i64 0] 3)) 9 #[.string (str p)]
      have b2' := (b2.ext ((Ext.refl _).alloc (.cells #[.int .i64 0] 3))).ext ((Ext.refl _).alloc (.cells #[.string (str p)] 9))
      have b3' := b3.ext ((Ext.refl _).alloc (.cells #[.string (str p)] 9))
      have X := ((x0.alloc (.cells #[.int .i64 0] 3)).alloc (.cells #[.string (str p)] 9))
      clear b2 b3
      simp only [World.size_alloc] at b3' b4
      refine (callsIn_wide (n := 6)).1 ?_
      refine callsIn_of_wp_marks Tryz.func17 rfl trivial ?_ rfl
      simp only [Tryz.ntmps17, List.size_toArray, List.length_cons, List.length_nil, Nat.reduceAdd, Nat.reduceSub, Array.replicate_succ, Array.replicate_zero, List.push_toArray, List.append_toArray, List.nil_append, List.cons_append]
      refine wpIn_wide.2 ?_
      go_upto_region 4 with (go_at_call 41; refine (HH.out _).mono ?_; rintro e w1 ⟨rfl, rfl⟩)
      go_wp2_with (go_at_call 18; refine (HN.out _).mono ?_; rintro e w1 ⟨rfl, rfl⟩)
      refine (wpIn_wide (n := 6)).1 ?_
      gi_wp2_with fail
      generalize ((w.alloc (.cells #[.bool false] 4)).alloc (.cells #[.int .i64 0] 3)).alloc (.cells #[.string (str p)] 9) = w5 at *
      have hNS := names_stops 5 (by decide) (w.heap.size + 1 + 1) p w5 b4 h47
      have hMP := Lib.hid (show mayP p = ((pathP p).all mayD && decide ((pathP p).length ≤ 8)) by unfold mayP; rw [d1, decide_eq_true (show p.length ≤ 200 by omega)]; simp)
      have hAll := Lib.hid (fun h => take_all (l := pathP p) (pathP p).length h (Nat.le_refl _))
      have hNo : Hid (∀ y, y < (pathP p).length → mayD ((pathP p).getD y []) = false → (pathP p).all mayD = false) := fun y hy h => by
        rw [List.getD_eq_getElem?_getD, List.getElem?_eq_getElem hy] at h
        exact List.all_eq_false.2 ⟨_, List.getElem_mem hy, by simp only [Option.getD_some] at h; rw [h]; simp⟩
      clear x0 z0 HN HH
      have hN200 : (pathP p).length ≤ 200 := by omega
      have hlt5 : w.heap.size + 1 + 1 < w5.heap.size := b4.lt
      unfold nenc at hNS
      generalize (pathP p).all mayD = al at *
      generalize hf : (fun y => (pathP p).getD y []) = f at *
      have hf' : ∀ y, (pathP p).getD y [] = f y := fun y => by rw [← hf]
      simp only [hf'] at *
      generalize (pathP p).length = N at *
      clear hf hf'
      generalize hG : w.heap.size = G at *
      refine wpIn_rangeFunc_ownH rfl (by decide) (gf := 43) (lb := #[.pointer (some ⟨G + 1 + 1, 0, none⟩)]) rfl trivial (enters_of Tryz.func43 (by kernel_rfl) rfl)
        hNS KpB.trans KpB.book (Below.refl _ _) (fun _ => rfl)
        (fun pre W => Ext w W ∧ Box W G 4 #[.bool false] ∧ Box W (G + 1) 3 #[.int .i64 (pre.length : Int)] ∧ (∀ y ∈ pre, mayD (f y) = true) ∧ pre.length ≤ N)
        (fun c pre W => c = .ret ∧ Ext w W ∧ Box W G 4 #[.bool false] ∧ ∃ y ∈ pre, mayD (f y) = false)
        (OwnFrom.and (ext_own (by rw [hG]; omega)) (OwnFrom.and (Own.from (box_own _ _ _) _) (OwnFrom.and (Own.from (box_own _ _ _) _) (ownFrom_pure _ _))))
        (fun c => OwnFrom.and (ownFrom_pure _ _) (OwnFrom.and (ext_own (by rw [hG]; omega)) (OwnFrom.and (Own.from (box_own _ _ _) _) (ownFrom_pure _ _)))) ⟨X, b2', b3', by simp, Nat.zero_le _⟩
        (fun x a' W => a' = { tmps := #[.string (str p), undef, .pointer (some ⟨G, 0, none⟩), .pointer (some ⟨G + 1, 0, none⟩), .string (str (f x)), .string (str p), .bool true, .bool false, .bool false, .string (str p), .int .i64 (p.length : Int), .bool (decide ((200 : Int) < (p.length : Int))), .bool (decide ((200 : Int) < (p.length : Int))), .string (str p), .func (.func 43) #[] #[.pointer (some ⟨G + 1 + 1, 0, none⟩)], .string (str (f x)), undef, undef, undef, undef, undef, undef, undef], defers := [] })
        (fun x a' _ X Y row hs hg hr => hs) ?assign ?body ?done ?stop
      case assign =>
        rintro l pre x W K hi hK
        gi_wp2
        exact hK _ _ (keeps_ext (Ext.refl W)) (KpB.ext (Ext.refl W)) hi rfl
      case body =>
        rintro l pre x a' W hl0 ⟨r, hr⟩ ⟨i1, i2, i3, i4, i5⟩ rfl hltN
        have HD := Lib.hid (HMD.out x W)
        have hlen2 : pre.length ≤ 200 := by omega
        cases hm : mayD (f x) with
        | true =>
          rw [hm] at HD
          gi_wp2_with (first
            | (refine ⟨trivial, ?_⟩; gi_at_call 42; refine (CallsIn.inRound l (callsIn_wide.2 HD.out)).mono ?_; rintro e W2 ⟨rfl, x2⟩; have j3 := i3.ext x2; have c3 : W2.cell? ⟨G + 1, 0, none⟩ = some (.int .i64 (pre.length : Int)) := j3.cell 0; have c3f := j3.frozen 0))
          refine ⟨(keeps_ext x2).trans ((KeepsOthers.setCell _ _ _).from _), (KpB.ext x2).set ⟨G + 1, 0, none⟩ (by show G + 1 + 1 ≠ G + 1; omega) (by show G + 1 + 1 ≠ G + 1; omega) _, (i1.trans x2).setCell (p := ⟨G + 1, 0, none⟩) (by show w.heap.size ≤ G + 1; omega) _, (i2.ext x2).far (p := ⟨G + 1, 0, none⟩) (by show G ≠ G + 1; omega) _, ?_, ?_, by simp; omega⟩
          · rw [show ((pre ++ [x]).length : Int) = (pre.length : Int) + 1 by simp]
            exact j3.set 0 _
          · intro y hy
            rcases List.mem_append.1 hy with h | h
            · exact i4 y h
            · rw [List.mem_singleton.1 h]; exact hm
        | false =>
          rw [hm] at HD
          gi_wp2_with (first
            | (refine ⟨trivial, ?_⟩; gi_at_call 42; refine (CallsIn.inRound l (callsIn_wide.2 HD.out)).mono ?_; rintro e W2 ⟨rfl, x2⟩; have j2 := i2.ext x2; have c2 : W2.cell? ⟨G, 0, none⟩ = some (.bool false) := j2.cell 0; have c2f := j2.frozen 0))
          exact ⟨(keeps_ext x2).trans ((KeepsOthers.setCell _ _ _).from _), rfl, (i1.trans x2).setCell (p := ⟨G, 0, none⟩) (by show w.heap.size ≤ G; omega) _, j2.set 0 _, x, by simp, hm⟩
      case done =>
        rintro D ys W hD rfl ⟨i1, i2, i3, i4, i5⟩ hK
        rw [List.length_range] at i3
        have c3 : W.cell? ⟨G + 1, 0, none⟩ = some (.int .i64 (N : Int)) := i3.cell 0
        have c2 : W.cell? ⟨G, 0, none⟩ = some (.bool false) := i2.cell 0
        have c2f := i2.frozen 0
        gi_wp2_with fail
        have hle8 := Lib.hid (show decide ((N : Int) ≤ 8) = decide (N ≤ 8) from decide_eq_decide.2 (by omega))
        have hK' := (KeepsOthers.setCell W ⟨G, 0, none⟩ (.bool (decide ((N : Int) ≤ 8)))).same D _ hK rfl
        have k2 := (i2.set 0 (.bool (decide ((N : Int) ≤ 8)))).grown (grownBy_putObj' _ D (.deferred none)) (fun e => by injection e with e; omega)
        have hc5 := k2.cell 0
        go_wp2_with fail
        refine ⟨by simp, .inl ⟨_, _, rfl, run_takeDeferred hK', ?_⟩⟩
        refine ⟨.bool (decide ((N : Int) ≤ 8)), ?_, ?_, (i1.setCell (p := ⟨G, 0, none⟩) (by show w.heap.size ≤ G; omega) _).putObj (.deferred none) hK' (by omega)⟩
        · simp at hc5
          simp [results, Tryz.results17, go_sem, hc5]
        · rw [hMP.out, hAll.out (fun j hj => i4 j (List.mem_range.2 hj)), hle8.out]; rfl
      case stop =>
        rintro D c pre W hD ⟨k, hk, rfl⟩ ⟨rfl, h1, h2, y, hy, hm⟩ hK
        gi_wp2
        have k2 := h2.grown (grownBy_putObj' _ D (.deferred none)) (fun e => by injection e with e; omega)
        have hc5 := k2.cell 0
        refine ⟨by simp, .inl ⟨_, _, rfl, run_takeDeferred hK, ?_⟩⟩
        refine ⟨.bool false, ?_, ?_, h1.putObj (.deferred none) hK (by omega)⟩
        · simp at hc5
          simp [results, Tryz.results17, go_sem, hc5]
        · rw [hMP.out, hNo.out y (by have := List.mem_range.1 hy; omega) hm]; rfl
end Go.Proofs.YtnoofjddikhopaaGreat
/- The walk of fs.Find. -/
namespace Go.Proofs.YtnoofjddikhopaaGreat
set_option linter.unusedVariables false
set_option linter.unusedSimpArgs false
open Go.RowKit Go.Shelf
attribute [local go_sem] Oper.semAt_some
theorem steps_snoc (v : List (List UInt8)) (I : Int) (l : List (List UInt8)) : ∀ (n m : Int) (x : List UInt8), stepsP v I n l = (m, 0) → stepsP v I n (l ++ [x]) = if (dfindP v I m x).2 ≠ 0 then (0, (dfindP v I m x).2) else ((dfindP v I m x).1, 0) := by
  induction l with
  | nil =>
    intro n m x h
    obtain rfl : n = m := by injection h
    simp only [List.nil_append, stepsP]
  | cons y l ih =>
    intro n m x h
    simp only [List.cons_append, stepsP] at h ⊢
    by_cases h0 : (dfindP v I n y).2 ≠ 0
    · rw [if_pos h0] at h
      injection h with h1 h2
      exact absurd h2 h0
    · rw [if_neg h0] at h ⊢
      exact ih _ _ _ h
theorem steps_stop (v : List (List UInt8)) (I : Int) (l b : List (List UInt8)) : ∀ (n : Int) (R : Int × Int), stepsP v I n l = R → R.2 ≠ 0 → stepsP v I n (l ++ b) = R := by
  induction l with
  | nil =>
    intro n R h hR
    exact absurd (by rw [← h]; rfl) hR
  | cons y l ih =>
    intro n R h hR
    simp only [List.cons_append, stepsP] at h ⊢
    by_cases h0 : (dfindP v I n y).2 ≠ 0
    · rw [if_pos h0] at h ⊢; exact h
    · rw [if_neg h0] at h ⊢
      exact ih _ _ h hR
theorem box_ex {β γ : Type} (b : Nat) (t : TypeId) (g : γ → Array Value) (P : β → γ → Prop) : Own (fun (s : β) W => ∃ m, Box W b t (g m) ∧ P s m) := fun s X Y row hs hg hr => by
  obtain ⟨m, hb, hm⟩ := hs
  refine ⟨m, Box.grown hb hg (fun e => ?_), hm⟩
  obtain ⟨o, ho, hc⟩ := hr b e.symm
  rw [show X.heap[b]? = _ from hb] at ho
  cases ho; cases hc
theorem range_names (l : List (List UInt8)) (k : Nat) (h : k ≤ l.length) : (List.range k).map (fun y => l.getD y []) = l.take k := by
  apply List.ext_getElem
  · simp; omega
  · intro i h1 h2
    simp only [List.getElem_map, List.getElem_range, List.getElem_take]
    rw [List.getD_eq_getElem?_getD, List.getElem?_eq_getElem (by simp at h1; omega)]; rfl
set_option maxHeartbeats 4000000 in
set_option maxRecDepth 100000 in
theorem find_any (A : Option Addr) (n c : Nat) (v : List (List UInt8)) (I : Int) (p : List UInt8) (w : World) (hv : Strs w A n v) (hg : Good v I) (hp : p.length ≤ 100000000) :
    Calls Tryz.prog 6 #[.slice A n c, .string (str p)] w fun e w' => e = .returned (.tuple #[.int .i64 (findP v I p).1, .int .i64 (findP v I p).2]) ∧ Ext w w' := by
  have HMy := Lib.hid (fun w => may_any p w hp)
  have HN := Lib.hid (fun w => names_any (str p) w)
  have HV := Lib.hid hv
  have HD := Lib.hid (fun k x w h => dfind_any A n c v I k ((pathP p).getD x []) w h hg (by have := path_name p x; omega))
  have hpl := (pathP_len p).1
  have b0 := Box.new w 22 #[.slice A n c]
  have b1 := Box.new (w.alloc (.cells #[.slice A n c] 22)) 3 #[.int .i64 0]
  have b2 := Box.new ((w.alloc (.cells #[.slice A n c] 22)).alloc (.cells #[.int .i64 0] 3)) 26 #[.int .i64 0]
  have b0' := (b0.ext ((Ext.refl _).alloc (.cells #[.int .i64 0] 3))).ext ((Ext.refl _).alloc (.cells #[.int .i64 0] 26))
  have b1' := b1.ext ((Ext.refl _).alloc (.cells #[.int .i64 0] 26))
  have X := ((((Ext.refl w).alloc (.cells #[.slice A n c] 22)).alloc (.cells #[.int .i64 0] 3)).alloc (.cells #[.int .i64 0] 26))
  clear b0 b1 hv hg
  simp only [World.size_alloc] at b1' b2
  cases hm : mayP p with
  | false =>
    rw [hm] at HMy
    have HP := Lib.hid (show findP v I p = (0, 7) by unfold findP; rw [hm]; rfl)
    go_enter Tryz.func6, Tryz.ntmps6
    go_upto_region 1 with fail
    generalize ((w.alloc (.cells #[.slice A n c] 22)).alloc (.cells #[.int .i64 0] 3)).alloc (.cells #[.int .i64 0] 26) = w3 at *
    go_wp2_with (go_at_call 17; refine (HMy.out _).mono ?_; rintro e w4 ⟨rfl, x4⟩; have d1 := b1'.ext x4; have d2 := b2.ext x4; have e1 : w4.cell? ⟨w.heap.size + 1, 0, none⟩ = some (.int .i64 0) := d1.cell 0; have e2 : w4.cell? ⟨w.heap.size + 1 + 1, 0, none⟩ = some (.int .i64 0) := d2.cell 0; have f1 := d1.frozen 0; have f2 := d2.frozen 0)
    have k1 := (d1.set 0 (.int .i64 0)).far (p := ⟨w.heap.size + 1 + 1, 0, none⟩) (by show w.heap.size + 1 ≠ w.heap.size + 1 + 1; omega) (.int .i64 7)
    have k2 := (d2.far (p := ⟨w.heap.size + 1, 0, none⟩) (by show w.heap.size + 1 + 1 ≠ w.heap.size + 1; omega) (.int .i64 0)).set 0 (.int .i64 7)
    have hc1 := k1.cell 0
    have hc2 := k2.cell 0
    refine bodyPost_ret (v := .tuple #[.int .i64 0, .int .i64 7]) ?_ rfl ⟨by rw [HP.out], ((X.trans x4).setCell (p := ⟨w.heap.size + 1, 0, none⟩) (by show w.heap.size ≤ w.heap.size + 1; omega) _).setCell (p := ⟨w.heap.size + 1 + 1, 0, none⟩) (by show w.heap.size ≤ w.heap.size + 1 + 1; omega) _⟩
    simp at hc1 hc2
    simp [results, Tryz.results6, go_sem, hc1, hc2]
  | true =>
    rw [hm] at HMy
    have h47 : p.head? = some 47 := by obtain ⟨q, rfl⟩ := mayP_head hm; rfl
    have HP := Lib.hid (show findP v I p = stepsP v I 1 (pathP p) by unfold findP; rw [hm]; rfl)
    refine (callsIn_wide (n := 6)).1 ?_
    refine callsIn_of_wp_marks Tryz.func6 rfl trivial ?_ rfl
    simp only [Tryz.ntmps6, List.size_toArray, List.length_cons, List.length_nil, Nat.reduceAdd, Nat.reduceSub, Array.replicate_succ, Array.replicate_zero, List.push_toArray, List.append_toArray, List.nil_append, List.cons_append]
    refine wpIn_wide.2 ?_
    go_upto_region 1 with fail
    generalize ((w.alloc (.cells #[.slice A n c] 22)).alloc (.cells #[.int .i64 0] 3)).alloc (.cells #[.int .i64 0] 26) = w3 at *
    go_upto_region 3 with (go_at_call 17; refine (HMy.out _).mono ?_; rintro e w4 ⟨rfl, x4⟩)
    have d0 := b0'.ext x4
    have d1 := b1'.ext x4
    have d2 := b2.ext x4
    have X4 := X.trans x4
    have b3 := Box.new w4 3 #[.int .i64 1]
    have b4 := Box.new (w4.alloc (.cells #[.int .i64 1] 3)) 9 #[.string (str p)]
    have b3' := b3.ext ((Ext.refl _).alloc (.cells #[.string (str p)] 9))
    have x5 : Ext w4 ((w4.alloc (.cells #[.int .i64 1] 3)).alloc (.cells #[.string (str p)] 9)) := ((Ext.refl w4).alloc _).alloc _
    have e0 := d0.ext x5
    have e1 := d1.ext x5
    have e2 := d2.ext x5
    have X5 := X4.trans x5
    have h24 := d2.lt
    clear b0' b1' b2 d0 d1 d2 b3 X X4 x4 HMy
    simp only [World.size_alloc] at b4
    go_upto_region 4 with fail
    go_wp2_with (go_at_call 18; refine (HN.out _).mono ?_; rintro e w1 ⟨rfl, rfl⟩)
    refine (wpIn_wide (n := 6)).1 ?_
    gi_wp2_with fail
    generalize hw5 : (w4.alloc (.cells #[.int .i64 1] 3)).alloc (.cells #[.string (str p)] 9) = w5 at *
    have hz5 : w5.heap.size = w4.heap.size + 1 + 1 := by rw [← hw5, World.size_alloc, World.size_alloc]
    clear hw5 x5 HN
    have hNS := names_stops 5 (by decide) (w4.heap.size + 1) p w5 b4 h47
    have hRN := Lib.hid (range_names (pathP p))
    have hTk := Lib.hid (fun k => List.take_append_drop k (pathP p))
    have hSt := Lib.hid (fun k (R : Int × Int) (h : stepsP v I 1 ((pathP p).take k) = R) (h0 : R.2 ≠ 0) => steps_stop v I ((pathP p).take k) ((pathP p).drop k) 1 R h h0)
    have hSn := Lib.hid (fun l m x => steps_snoc v I l 1 m x)
    unfold nenc at hNS
    generalize hf : (fun y => (pathP p).getD y []) = f at *
    have hf' : ∀ y, (pathP p).getD y [] = f y := fun y => by rw [← hf]
    simp only [hf'] at *
    generalize hLp : pathP p = L at *
    clear hf hf' hLp
    have hG4 : w.heap.size + 1 + 1 < w4.heap.size := h24
    have hGG : w.heap.size ≤ w5.heap.size := X5.size
    generalize hG : w.heap.size = G at *
    generalize w4.heap.size = E at *
    refine wpIn_rangeFunc_ownH rfl (by decide) (gf := 43) (lb := #[.pointer (some ⟨E + 1, 0, none⟩)]) rfl trivial (enters_of Tryz.func43 (by kernel_rfl) rfl)
      hNS KpB.trans KpB.book (Below.refl _ _) (fun _ => rfl)
      (fun pre W => Ext w W ∧ Box W G 22 #[.slice A n c] ∧ Box W (G + 1) 3 #[.int .i64 0] ∧ Box W (G + 1 + 1) 26 #[.int .i64 0] ∧ ∃ m, Box W E 3 #[.int .i64 m] ∧ stepsP v I 1 (pre.map f) = (m, 0))
      (fun cc pre W => cc = .ret ∧ Ext w W ∧ Box W (G + 1) 3 #[.int .i64 0] ∧ ∃ r, Box W (G + 1 + 1) 26 #[.int .i64 r] ∧ r ≠ 0 ∧ stepsP v I 1 (pre.map f) = (0, r))
      (OwnFrom.and (ext_own (by rw [hG]; omega)) (OwnFrom.and (Own.from (box_own _ _ _) _) (OwnFrom.and (Own.from (box_own _ _ _) _) (OwnFrom.and (Own.from (box_own _ _ _) _) (Own.from (box_ex _ _ (fun m => #[.int .i64 m]) (fun (pre : List Nat) (m : Int) => stepsP v I 1 (pre.map f) = (m, 0))) _)))))
      (fun cc => OwnFrom.and (ownFrom_pure _ _) (OwnFrom.and (ext_own (by rw [hG]; omega)) (OwnFrom.and (Own.from (box_own _ _ _) _) (Own.from (box_ex _ _ (fun r => #[.int .i64 r]) (fun (pre : List Nat) (r : Int) => r ≠ 0 ∧ stepsP v I 1 (pre.map f) = (0, r))) _)))) ⟨X5, e0, e1, e2, 1, b3', rfl⟩
      (fun x a' W => a' = { tmps := #[.slice A n c, .string (str p), .pointer (some ⟨G, 0, none⟩), undef, .pointer (some ⟨G + 1, 0, none⟩), .pointer (some ⟨G + 1 + 1, 0, none⟩), .pointer (some ⟨E, 0, none⟩), .string (str (f x)), undef, undef, .string (str p), .bool true, .bool false, .string (str p), .func (.func 43) #[] #[.pointer (some ⟨E + 1, 0, none⟩)], .string (str (f x)), undef, undef, undef, undef, undef, undef, undef, undef, undef, undef, undef, undef], defers := [] })
      (fun x a' _ X Y row hs hg hr => hs) ?assign ?body ?done ?stop
    case assign =>
      rintro l pre x W K hi hK
      gi_wp2
      exact hK _ _ (keeps_ext (Ext.refl W)) (KpB.ext (Ext.refl W)) hi rfl
    case body =>
      rintro l pre x a' W hl0 ⟨r, hr⟩ ⟨i1, i2, i3, i4, m, i5, hst⟩ rfl hltN
      have HDx := Lib.hid (HD.out m x W (HV.out.ext i1))
      have hsn := Lib.hid (hSn.out (pre.map f) m (f x) hst)
      have c0 : W.cell? ⟨G, 0, none⟩ = some (.slice A n c) := i2.cell 0
      have c6 : W.cell? ⟨E, 0, none⟩ = some (.int .i64 m) := i5.cell 0
      generalize dfindP v I m (f x) = R at *
      by_cases h0 : R.2 = 0
      · rw [if_neg (fun h => h h0)] at hsn
        rw [h0] at HDx
        gi_wp2_with (first
          | (refine ⟨trivial, ?_⟩; gi_at_call 19; refine (CallsIn.inRound l (callsIn_wide.2 HDx.out)).mono ?_; rintro e W2 ⟨rfl, x2⟩; have j5 := i5.ext x2; have c5 : W2.cell? ⟨E, 0, none⟩ = some (.int .i64 m) := j5.cell 0; have c5f := j5.frozen 0))
        refine ⟨(keeps_ext x2).trans ((KeepsOthers.setCell _ _ _).from _), (KpB.ext x2).set ⟨E, 0, none⟩ (by show E + 1 ≠ E; omega) (by show E + 1 ≠ E; omega) _, (i1.trans x2).setCell (p := ⟨E, 0, none⟩) (by show w.heap.size ≤ E; omega) _, (i2.ext x2).far (p := ⟨E, 0, none⟩) (by show G ≠ E; omega) _, (i3.ext x2).far (p := ⟨E, 0, none⟩) (by show G + 1 ≠ E; omega) _, (i4.ext x2).far (p := ⟨E, 0, none⟩) (by show G + 1 + 1 ≠ E; omega) _, R.1, j5.set 0 _, ?_⟩
        rw [List.map_append]
        exact hsn.out
      · have d0 : (R.2 != 0) = true := by simpa using h0
        rw [if_pos h0] at hsn
        gi_wp2_with (first
          | (refine ⟨trivial, ?_⟩; gi_at_call 19; refine (CallsIn.inRound l (callsIn_wide.2 HDx.out)).mono ?_; rintro e W2 ⟨rfl, x2⟩; have j3 := i3.ext x2; have j4 := i4.ext x2; have c3 : W2.cell? ⟨G + 1, 0, none⟩ = some (.int .i64 0) := j3.cell 0; have c3f := j3.frozen 0; have c4 : W2.cell? ⟨G + 1 + 1, 0, none⟩ = some (.int .i64 0) := j4.cell 0; have c4f := j4.frozen 0))
        refine ⟨((keeps_ext x2).trans ((KeepsOthers.setCell _ _ _).from _)).trans ((KeepsOthers.setCell _ _ _).from _), rfl, ((i1.trans x2).setCell (p := ⟨G + 1, 0, none⟩) (by show w.heap.size ≤ G + 1; omega) _).setCell (p := ⟨G + 1 + 1, 0, none⟩) (by show w.heap.size ≤ G + 1 + 1; omega) _, (j3.set 0 _).far (p := ⟨G + 1 + 1, 0, none⟩) (by show G + 1 ≠ G + 1 + 1; omega) _, R.2, (j4.far (p := ⟨G + 1, 0, none⟩) (by show G + 1 + 1 ≠ G + 1; omega) _).set 0 _, h0, ?_⟩
        rw [List.map_append]
        exact hsn.out
    case done =>
      rintro D ys W hD rfl ⟨i1, i2, i3, i4, m, i5, hst⟩ hK
      have c5 : W.cell? ⟨E, 0, none⟩ = some (.int .i64 m) := i5.cell 0
      have c3 : W.cell? ⟨G + 1, 0, none⟩ = some (.int .i64 0) := i3.cell 0
      have c3f := i3.frozen 0
      have c4 : W.cell? ⟨G + 1 + 1, 0, none⟩ = some (.int .i64 0) := i4.cell 0
      have c4f := i4.frozen 0
      gi_wp2_with fail
      go_wp2_with fail
      have hK1 := (KeepsOthers.setCell W ⟨G + 1, 0, none⟩ (.int .i64 m)).same D _ hK rfl
      have hK' := (KeepsOthers.setCell (W.setCell ⟨G + 1, 0, none⟩ (.int .i64 m)) ⟨G + 1 + 1, 0, none⟩ (.int .i64 0)).same D _ hK1 rfl
      have k1 := ((i3.set 0 (.int .i64 m)).far (p := ⟨G + 1 + 1, 0, none⟩) (by show G + 1 ≠ G + 1 + 1; omega) (.int .i64 0)).grown (grownBy_putObj' _ D (.deferred none)) (fun e => by injection e with e; omega)
      have k2 := ((i4.far (p := ⟨G + 1, 0, none⟩) (by show G + 1 + 1 ≠ G + 1; omega) (.int .i64 m)).set 0 (.int .i64 0)).grown (grownBy_putObj' _ D (.deferred none)) (fun e => by injection e with e; omega)
      have hc1 := k1.cell 0
      have hc2 := k2.cell 0
      refine ⟨by simp, .inl ⟨_, _, rfl, run_takeDeferred hK', ?_⟩⟩
      refine ⟨.tuple #[.int .i64 m, .int .i64 0], ?_, ?_, ((i1.setCell (p := ⟨G + 1, 0, none⟩) (by show w.heap.size ≤ G + 1; omega) _).setCell (p := ⟨G + 1 + 1, 0, none⟩) (by show w.heap.size ≤ G + 1 + 1; omega) _).putObj (.deferred none) hK' (by omega)⟩
      · simp at hc1 hc2
        simp [results, Tryz.results6, go_sem, hc1, hc2]
      · rw [hRN.out _ (Nat.le_refl _), List.take_length] at hst
        rw [HP.out, hst]
    case stop =>
      rintro D cc pre W hD ⟨k, hk, rfl⟩ ⟨rfl, h1, h2, r, h3, h4, h5⟩ hK
      gi_wp2
      have k1 := h2.grown (grownBy_putObj' _ D (.deferred none)) (fun e => by injection e with e; omega)
      have k2 := h3.grown (grownBy_putObj' _ D (.deferred none)) (fun e => by injection e with e; omega)
      have hc1 := k1.cell 0
      have hc2 := k2.cell 0
      refine ⟨by simp, .inl ⟨_, _, rfl, run_takeDeferred hK, ?_⟩⟩
      refine ⟨.tuple #[.int .i64 0, .int .i64 r], ?_, ?_, h1.putObj (.deferred none) hK (by omega)⟩
      · simp at hc1 hc2
        simp [results, Tryz.results6, go_sem, hc1, hc2]
      · rw [hRN.out _ hk] at h5
        have := hSt.out k _ h5 h4
        rw [hTk.out] at this
        rw [HP.out, this]
end Go.Proofs.YtnoofjddikhopaaGreat
/- The walk of fs.vacant. -/
namespace Go.Proofs.YtnoofjddikhopaaGreat
set_option linter.unusedVariables false
set_option linter.unusedSimpArgs false
open Go.RowKit
theorem above_len (p : List UInt8) : (aboveP p).length ≤ p.length := by unfold aboveP; rw [List.length_take]; omega
theorem base_len (p : List UInt8) : (baseP p).length ≤ p.length := by
  unfold baseP
  rw [List.length_reverse]
  have := congrArg List.length (List.takeWhile_append_dropWhile (p := fun c : UInt8 => c != 47) (l := p.reverse))
  rw [List.length_append, List.length_reverse] at this
  omega
set_option maxHeartbeats 2000000 in
set_option maxRecDepth 100000 in
theorem vacant_any (A : Option Addr) (n c : Nat) (v : List (List UInt8)) (I : Int) (p : List UInt8) (w : World) (hv : Strs w A n v) (hg : Good v I) (hp : p.length ≤ 100000000) :
    Calls Tryz.prog 75 #[.slice A n c, .string (str p)] w fun e w' => e = .returned (.tuple #[.int .i64 (vacantP v I p).1, .string (str (vacantP v I p).2.1), .int .i64 (vacantP v I p).2.2]) ∧ Ext w w' := by
  have HMy := Lib.hid (fun w => may_any p w hp)
  have HV := Lib.hid hv
  cases hm : mayP p with
  | false =>
    rw [hm] at HMy
    rw [show vacantP v I p = (0, [], 7) by unfold vacantP; rw [if_pos hm]]
    go_enter Tryz.func75, Tryz.ntmps75
    go_wp2_with (go_at_call 17; refine (HMy.out _).mono ?_; rintro e w1 ⟨rfl, x1⟩)
    go_ret3
    exact ⟨rfl, x1⟩
  | true =>
    rw [hm] at HMy
    have hpt := str_toList p
    by_cases h1 : p = [47]
    · have hs2 : (p == [47]) = true := by simpa using h1
      rw [show vacantP v I p = (0, [], 8) by unfold vacantP; rw [if_neg (by rw [hm]; simp), if_pos h1]]
      clear h1
      go_enter Tryz.func75, Tryz.ntmps75
      go_wp2_with (go_at_call 17; refine (HMy.out _).mono ?_; rintro e w1 ⟨rfl, x1⟩)
      go_ret3
      exact ⟨rfl, x1⟩
    · have hs2 : (p == [47]) = false := by simpa using h1
      have h200 := mayP_len hm
      have HSp := Lib.hid (fun w => split_any p w ⟨mayP_slash hm, by omega⟩)
      rw [show p.take (max (slashP p) 1) = aboveP p from rfl] at HSp
      have HF := Lib.hid (fun w h => find_any A n c v I (aboveP p) w h hg (by have := above_len p; omega))
      have HD := Lib.hid (fun k w h => dfind_any A n c v I k (baseP p) w h hg (by have := base_len p; omega))
      have HP := Lib.hid (show vacantP v I p = if (findP v I (aboveP p)).2 ≠ 0 then (0, [], (findP v I (aboveP p)).2)
        else if (dfindP v I (findP v I (aboveP p)).1 (baseP p)).2 = 9 then ((findP v I (aboveP p)).1, baseP p, 0)
        else if (dfindP v I (findP v I (aboveP p)).1 (baseP p)).2 = 0 then (0, [], 8)
        else (0, [], (dfindP v I (findP v I (aboveP p)).1 (baseP p)).2) from by unfold vacantP; rw [if_neg (by rw [hm]; simp), if_neg h1])
      clear h1 hv hg
      generalize vacantP v I p = Q at *
      generalize findP v I (aboveP p) = F at *
      by_cases hF0 : F.2 = 0
      · rw [if_neg (fun h => h hF0)] at HP
        rw [hF0] at HF
        have HDx := Lib.hid (HD.out F.1)
        clear HD
        generalize dfindP v I F.1 (baseP p) = D at *
        generalize aboveP p = ab at *
        generalize baseP p = ba at *
        by_cases h9 : D.2 = 9
        · rw [if_pos h9] at HP
          rw [h9] at HDx
          rw [HP.out]
          go_enter Tryz.func75, Tryz.ntmps75
          go_wp2_with (first
            | (go_at_call 17; refine (HMy.out _).mono ?_; rintro e w1 ⟨rfl, x1⟩)
            | (go_at_call 37; refine (HSp.out _).mono ?_; rintro e w2 ⟨rfl, x2⟩)
            | (go_at_call 6; refine (HF.out _ ((HV.out.ext x1).ext x2)).mono ?_; rintro e w3 ⟨rfl, x3⟩)
            | (go_at_call 19; refine (HDx.out _ (((HV.out.ext x1).ext x2).ext x3)).mono ?_; rintro e w4 ⟨rfl, x4⟩))
          go_ret3
          exact ⟨rfl, ((x1.trans x2).trans x3).trans x4⟩
        · rw [if_neg h9] at HP
          have d9 : (D.2 == 9) = false := by simpa using h9
          by_cases h0 : D.2 = 0
          · rw [if_pos h0] at HP
            rw [h0] at HDx
            rw [HP.out]
            go_enter Tryz.func75, Tryz.ntmps75
            go_wp2_with (first
              | (go_at_call 17; refine (HMy.out _).mono ?_; rintro e w1 ⟨rfl, x1⟩)
              | (go_at_call 37; refine (HSp.out _).mono ?_; rintro e w2 ⟨rfl, x2⟩)
              | (go_at_call 6; refine (HF.out _ ((HV.out.ext x1).ext x2)).mono ?_; rintro e w3 ⟨rfl, x3⟩)
              | (go_at_call 19; refine (HDx.out _ (((HV.out.ext x1).ext x2).ext x3)).mono ?_; rintro e w4 ⟨rfl, x4⟩))
            go_ret3
            exact ⟨rfl, ((x1.trans x2).trans x3).trans x4⟩
          · rw [if_neg h0] at HP
            have d0 : (D.2 == 0) = false := by simpa using h0
            rw [HP.out]
            go_enter Tryz.func75, Tryz.ntmps75
            go_wp2_with (first
              | (go_at_call 17; refine (HMy.out _).mono ?_; rintro e w1 ⟨rfl, x1⟩)
              | (go_at_call 37; refine (HSp.out _).mono ?_; rintro e w2 ⟨rfl, x2⟩)
              | (go_at_call 6; refine (HF.out _ ((HV.out.ext x1).ext x2)).mono ?_; rintro e w3 ⟨rfl, x3⟩)
              | (go_at_call 19; refine (HDx.out _ (((HV.out.ext x1).ext x2).ext x3)).mono ?_; rintro e w4 ⟨rfl, x4⟩))
            go_ret3
            exact ⟨rfl, ((x1.trans x2).trans x3).trans x4⟩
      · have d0 : (F.2 != 0) = true := by simpa using hF0
        rw [if_pos hF0] at HP
        rw [HP.out]
        clear HD
        generalize aboveP p = ab at *
        generalize baseP p = ba at *
        go_enter Tryz.func75, Tryz.ntmps75
        go_wp2_with (first
          | (go_at_call 17; refine (HMy.out _).mono ?_; rintro e w1 ⟨rfl, x1⟩)
          | (go_at_call 37; refine (HSp.out _).mono ?_; rintro e w2 ⟨rfl, x2⟩)
          | (go_at_call 6; refine (HF.out _ ((HV.out.ext x1).ext x2)).mono ?_; rintro e w3 ⟨rfl, x3⟩))
        go_ret3
        exact ⟨rfl, (x1.trans x2).trans x3⟩
end Go.Proofs.YtnoofjddikhopaaGreat
