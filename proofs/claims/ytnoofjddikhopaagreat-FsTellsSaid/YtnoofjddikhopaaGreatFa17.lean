/- A directory's bytes and names: plain. -/
import Derived.Test.YtnoofjddikhopaaGreatFa4
import Derived.Test.YtnoofjddikhopaaGreatFa16
namespace Go.Proofs.YtnoofjddikhopaaGreat
set_option linter.unusedVariables false
set_option linter.unusedSimpArgs false
/-- a byte that a directory's name may have -/
def okD (c : UInt8) : Bool := decide (97 ≤ c.toNat ∧ c.toNat ≤ 122 ∨ 65 ≤ c.toNat ∧ c.toNat ≤ 90 ∨ 48 ≤ c.toNat ∧ c.toNat ≤ 57 ∨ c.toNat = 45 ∨ c.toNat = 95 ∨ c.toNat = 46)
def mayD (s : List UInt8) : Bool := decide (s ≠ []) && decide (s.length ≤ 24) && decide (s ≠ [46]) && decide (s ≠ [46, 46]) && s.all okD
theorem mayD_bad {s : List UInt8} {k : Nat} (hk : k < s.length) (h : okD s[k] = false) : mayD s = false := by
  unfold mayD
  rw [show s.all okD = false from List.all_eq_false.2 ⟨s[k], List.getElem_mem hk, by rw [h]; simp⟩]; simp
theorem mayD_len {s : List UInt8} (h : mayD s = true) : 1 ≤ s.length ∧ s.length ≤ 24 := by
  unfold mayD at h
  simp only [Bool.and_eq_true, decide_eq_true_eq] at h
  exact ⟨Nat.pos_of_ne_zero fun e => h.1.1.1.1 (List.eq_nil_of_length_eq_zero e), h.1.1.1.2⟩
/-- an entry: the name, the inode's number -/
abbrev Ent := List UInt8 × Int
def entP (x : Ent) : List UInt8 := fillP (two2 x.2 ++ [b8 x.1.length] ++ [0] ++ x.1) 32
theorem entP_len {x : Ent} (h : x.1.length ≤ 28) : (entP x).length = 32 := fillP_len (by simp [two2]; omega)
def bytesE (l : List Ent) : List UInt8 := l.flatMap entP
theorem bytesE_len {l : List Ent} (h : ∀ x ∈ l, x.1.length ≤ 28) : (bytesE l).length = 32 * l.length := by
  induction l with
  | nil => rfl
  | cons x l ih =>
    unfold bytesE at *
    rw [List.flatMap_cons, List.length_append, entP_len (h x List.mem_cons_self), ih (fun y hy => h y (List.mem_cons_of_mem _ hy)), List.length_cons]; omega
/-- the entry that 32 bytes say -/
def entOf (o : List UInt8) : Ent := ((o.drop 4).take (o.getD 2 0).toNat, (numL (o.take 2) : Int))
def okE (o : List UInt8) : Bool := decide ((o.getD 2 0).toNat ≤ 24) && decide (1 ≤ (entOf o).2) && decide ((entOf o).2 ≤ 64) && mayD (entOf o).1 && decide (entP (entOf o) = o)
/-- may it stand behind these? -/
def lessE (l : List Ent) (x : Ent) : Bool := match l.getLast? with
  | none => true
  | some y => ltB y.1 x.1
def pieceE (b : List UInt8) (k : Nat) : List UInt8 := (b.drop (32 * k)).take 32
/-- the first k entries of a directory's bytes, if they are such -/
def entsP (b : List UInt8) : Nat → Option (List Ent)
  | 0 => some []
  | k + 1 => match entsP b k with
    | none => none
    | some l => if okE (pieceE b k) && lessE l (entOf (pieceE b k)) then some (l ++ [entOf (pieceE b k)]) else none
def entriesP (b : List UInt8) : Option (List Ent) := if b.length % 32 = 0 then entsP b (b.length / 32) else none
theorem entsP_yes {b : List UInt8} {k : Nat} {l : List Ent} (h : entsP b k = some l) (h1 : okE (pieceE b k) = true) (h2 : lessE l (entOf (pieceE b k)) = true) : entsP b (k + 1) = some (l ++ [entOf (pieceE b k)]) := by
  simp only [entsP, h, h1, h2, Bool.and_self, if_true]
theorem entsP_no {b : List UInt8} {k : Nat} {l : List Ent} (h : entsP b k = some l) (h1 : okE (pieceE b k) = false ∨ lessE l (entOf (pieceE b k)) = false) : entsP b (k + 1) = none := by
  simp only [entsP, h]
  rcases h1 with h1 | h1 <;> simp [h1]
theorem entsP_none {b : List UInt8} {k : Nat} (h : entsP b k = none) : ∀ m, k ≤ m → entsP b m = none := by
  intro m hm
  induction m with
  | zero => obtain rfl : k = 0 := by omega
            exact h
  | succ m ih =>
    by_cases e : k = m + 1
    · subst e; exact h
    · simp only [entsP, ih (by omega)]
theorem entsP_len {b : List UInt8} : ∀ {k : Nat} {l : List Ent}, entsP b k = some l → l.length = k
  | 0, l, h => by cases h; rfl
  | k + 1, l, h => by
    simp only [entsP] at h
    cases h1 : entsP b k with
    | none => rw [h1] at h; cases h
    | some l1 =>
      rw [h1] at h
      simp only at h
      split at h
      · cases h
        rw [List.length_append, entsP_len h1]; rfl
      · cases h
/-- entries of a directory -/
def EntsOk (l : List Ent) : Prop := (∀ x ∈ l, mayD x.1 = true ∧ 1 ≤ x.2 ∧ x.2 ≤ 64) ∧ l.Pairwise fun a b => ltB a.1 b.1 = true
theorem entsP_ok {b : List UInt8} : ∀ {k : Nat} {l : List Ent}, entsP b k = some l → EntsOk l
  | 0, l, h => by cases h; exact ⟨fun x hx => absurd hx List.not_mem_nil, List.Pairwise.nil⟩
  | k + 1, l, h => by
    simp only [entsP] at h
    cases h1 : entsP b k with
    | none => rw [h1] at h; cases h
    | some l1 =>
      rw [h1] at h
      simp only at h
      split at h
      · rename_i hc
        cases h
        have ih := entsP_ok h1
        simp only [Bool.and_eq_true] at hc
        have ho := hc.1
        unfold okE at ho
        simp only [Bool.and_eq_true, decide_eq_true_eq] at ho
        refine ⟨fun x hx => ?_, ?_⟩
        · rcases List.mem_append.1 hx with hx | hx
          · exact ih.1 x hx
          · obtain rfl := List.mem_singleton.1 hx
            exact ⟨ho.1.2, ho.1.1.1.2, ho.1.1.2⟩
        · refine List.pairwise_append.2 ⟨ih.2, List.pairwise_singleton _ _, fun a ha c hcc => ?_⟩
          obtain rfl := List.mem_singleton.1 hcc
          have hl := hc.2
          unfold lessE at hl
          cases hq : l1.getLast? with
          | none => rw [List.getLast?_eq_none_iff] at hq; subst hq; exact absurd ha List.not_mem_nil
          | some y =>
            rw [hq] at hl
            simp only at hl
            obtain ⟨ys, rfl⟩ := List.getLast?_eq_some_iff.1 hq
            rcases List.mem_append.1 ha with ha | ha
            · exact ltB_trans _ _ _ ((List.pairwise_append.1 ih.2).2.2 a ha y List.mem_cons_self) hl
            · obtain rfl := List.mem_singleton.1 ha
              exact hl
      · cases h
theorem entriesP_ok {b : List UInt8} {l : List Ent} (h : entriesP b = some l) : EntsOk l ∧ 32 * l.length = b.length := by
  unfold entriesP at h
  split at h
  · exact ⟨entsP_ok h, by rw [entsP_len h]; omega⟩
  · cases h
/-- the place of a name -/
def posE (l : List Ent) (name : List UInt8) : Nat := (l.takeWhile fun x => ltB x.1 name).length
def hasE (l : List Ent) (name : List UInt8) : Bool := decide (posE l name < l.length) && decide ((l.getD (posE l name) ([], 0)).1 = name)
theorem posE_le (l : List Ent) (name : List UInt8) : posE l name ≤ l.length := by
  unfold posE
  have := congrArg List.length (List.takeWhile_append_dropWhile (p := fun x : Ent => ltB x.1 name) (l := l))
  rw [List.length_append] at this
  omega
theorem posE_lt {l : List Ent} {name : List UInt8} {j : Nat} (hj : j < posE l name) (hl : j < l.length) : ltB l[j].1 name = true := by
  unfold posE at hj
  have h1 : (l.takeWhile fun x => ltB x.1 name)[j] = l[j] := List.IsPrefix.getElem (List.takeWhile_prefix _) hj
  have h2 := List.all_takeWhile (p := fun x : Ent => ltB x.1 name) (l := l)
  rw [List.all_eq_true] at h2
  rw [← h1]
  exact h2 _ (List.getElem_mem hj)
theorem posE_ge {l : List Ent} (hl : l.Pairwise fun a b => ltB a.1 b.1 = true) {name : List UInt8} {j : Nat} (hj : posE l name ≤ j) (h : j < l.length) : ltB l[j].1 name = false := by
  induction l generalizing j with
  | nil => simp at h
  | cons x l ih =>
    rw [List.pairwise_cons] at hl
    unfold posE at hj
    rw [List.takeWhile_cons] at hj
    by_cases hx : ltB x.1 name = true
    · rw [if_pos hx] at hj
      simp only [List.length_cons] at hj
      obtain ⟨i, rfl⟩ : ∃ i, j = i + 1 := ⟨j - 1, by omega⟩
      simp only [List.getElem_cons_succ]
      exact ih hl.2 (by unfold posE; omega) (by simpa using h)
    · rw [Bool.not_eq_true] at hx
      cases j with
      | zero => exact hx
      | succ i =>
        have hil : i < l.length := by simpa using h
        simp only [List.getElem_cons_succ]
        have := hl.1 l[i] (List.getElem_mem hil)
        cases hc : ltB l[i].1 name with
        | false => rfl
        | true => rw [ltB_trans _ _ _ this hc] at hx; cases hx
/-- entries with one more -/
def insE (l : List Ent) (name : List UInt8) (ino : Int) : List Ent := l.take (posE l name) ++ (name, ino) :: l.drop (posE l name)
theorem insE_len (l : List Ent) (name : List UInt8) (ino : Int) : (insE l name ino).length = l.length + 1 := by
  unfold insE
  have := posE_le l name
  rw [List.length_append, List.length_cons, List.length_take, List.length_drop]; omega
end Go.Proofs.YtnoofjddikhopaaGreat
/- The walk of dir.entry. -/
namespace Go.Proofs.YtnoofjddikhopaaGreat
set_option linter.unusedVariables false
set_option linter.unusedSimpArgs false
open Go.RowKit
set_option maxHeartbeats 1000000 in
set_option maxRecDepth 100000 in
theorem dentry_any (x : Ent) (w : World) (h1 : x.1.length ≤ 24) (h2 : 0 ≤ x.2) (h3 : x.2 < 65536) :
    Calls Tryz.prog 114 #[.agg #[.string (str x.1), .int .i64 x.2]] w fun e w' => e = .returned (.string (str (entP x))) ∧ Ext w w' := by
  have hz := str_size
  have hap := str_app
  obtain ⟨name, ino⟩ := x
  simp only at h1 h2 h3
  obtain ⟨hd, hhd⟩ : ∃ hd : List UInt8, hd = b8 (ino % 256) :: b8 (ino / 256) :: b8 name.length :: 0 :: name := ⟨_, rfl⟩
  have hL : hd.length = 4 + name.length := by rw [hhd]; simp; omega
  have HE := Lib.hid (show entP (name, ino) = hd ++ zs (28 - name.length) from by
    unfold entP fillP
    rw [show two2 ino ++ [b8 name.length] ++ [0] ++ name = hd from by rw [hhd]; rfl, hL]
    congr 2; omega)
  have b1 := Box.new w 79 #[.string (str name), .int .i64 ino]
  have x1 : Ext w (w.alloc (.cells #[.string (str name), .int .i64 ino] 79)) := (Ext.refl w).alloc _
  have u1 : IntKind.u64.wrap ino = ino := by rw [IntKind.wrap_u64]; omega
  have u2 : IntKind.u64.wrap (name.length : Int) = name.length := by rw [IntKind.wrap_u64]; omega
  have HP2 := Lib.hid (fun w => put2 ino w h2 (by omega))
  have HP1 := Lib.hid (fun w => put1 (name.length : Int) w (by omega) (by omega))
  have c0 : ∀ y : Later (w.alloc (.cells #[.string (str name), .int .i64 ino] 79)), y.now.cell? ⟨w.heap.size, 0, none⟩ = some (.string (str name)) := fun y => y.ext.keep (b1.cell 0)
  have c1 : ∀ y : Later (w.alloc (.cells #[.string (str name), .int .i64 ino] 79)), y.now.cell? ⟨w.heap.size, 1, none⟩ = some (.int .i64 ino) := fun y => y.ext.keep (b1.cell 1)
  have hk : (⟨#[0]⟩ : ByteArray) = str [0] := rfl
  go_enter Tryz.func114, Tryz.ntmps114
  go_upto_region 1 with fail
  refine wp_region_later (by kernel_rfl) (by kernel_rfl) ?_
  repeat (go_big_quiet_step ((first | (with_reducible exact later_of (HP2.out _)) | (with_reducible exact later_of (HP1.out _)))))
  refine wpQuiet_nil ?_
  rintro w2 ⟨y, rfl⟩
  have hg2 := x1.trans y.ext
  clear c0 c1 b1
  generalize y.now = w2 at *
  rw [← hhd]
  clear hhd
  have hi : (32 : Int) - (hd.length : Int) = ((28 - name.length : Nat) : Int) := by omega
  have hi2 : (32 : Int) - (4 + (name.length : Int)) = ((28 - name.length : Nat) : Int) := by omega
  have HR := Lib.hid (fun w => repeat_any (28 - name.length) w (by omega))
  go_wp2_with (go_at_call 53; refine (HR.out _).mono ?_; rintro e w3 ⟨rfl, x3⟩)
  go_ret
  exact ⟨by rw [HE.out]; rfl, hg2.trans x3⟩
end Go.Proofs.YtnoofjddikhopaaGreat
