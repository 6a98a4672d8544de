/- Directories, files and paths where there is no volume; fs.Read at any place. -/
import Derived.Test.YtnoofjddikhopaaGreatFa25
import Derived.Test.YtnoofjddikhopaaGreatFa29
import Derived.Test.YtnoofjddikhopaaGreatFa24
namespace Go.Proofs.YtnoofjddikhopaaGreat
set_option linter.unusedVariables false
set_option linter.unusedSimpArgs false
open Go.RowKit Go.Shelf
set_option maxHeartbeats 1000000 in
set_option maxRecDepth 100000 in
theorem dlist_none (A : Option Addr) (n c : Nat) (v : List (List UInt8)) (k : Int) (w : World) (hv : Strs w A n v) (hn : n ≤ 9223372036854775807) (hb : ∀ I, ¬ Good v I) :
    Calls Tryz.prog 36 #[.slice A n c, .int .i64 k] w fun e w' => e = .returned (.tuple #[.slice none 0 0, .int .i64 3]) ∧ Ext w w' := by
  have HG := Lib.hid (fun w h => iget_bad A n c v k w h hn hb)
  go_enter Tryz.func36, Tryz.ntmps36
  go_wp2_with (first
    | (go_at_call 35; refine (HG.out _ hv).mono ?_; rintro e w1 ⟨rfl, x1⟩)
    | (refine wp_st_ino (.tmp 6) (.tmp 15) rfl rfl w1.heap.size _ zero12 61 rfl rfl (Box.new _ _ _) rfl rfl ?_; intro w2 b2 g2))
  go_ret2
  exact ⟨rfl, (x1.alloc _).grown g2 (fun k e => by cases e; exact x1.size)⟩
set_option maxHeartbeats 1000000 in
set_option maxRecDepth 100000 in
theorem dfind_none (A : Option Addr) (n c : Nat) (v : List (List UInt8)) (k : Int) (name : List UInt8) (w : World) (hv : Strs w A n v) (hn : n ≤ 9223372036854775807) (hb : ∀ I, ¬ Good v I) (hnl : name.length ≤ 1000000000) :
    Calls Tryz.prog 19 #[.slice A n c, .int .i64 k, .string (str name)] w fun e w' => e = .returned (.tuple #[.int .i64 (badD k name).1, .int .i64 (badD k name).2]) ∧ Ext w w' := by
  have HM := Lib.hid (fun w => dmay_any name w hnl)
  have HL := Lib.hid (fun w h => dlist_none A n c v k w h hn hb)
  unfold badD
  cases hm : mayD name with
  | false =>
    rw [hm] at HM
    go_enter Tryz.func19, Tryz.ntmps19
    go_wp2_with (go_at_call 42; refine (HM.out _).mono ?_; rintro e w1 ⟨rfl, x1⟩)
    go_ret2
    exact ⟨rfl, x1⟩
  | true =>
    rw [hm] at HM
    go_enter Tryz.func19, Tryz.ntmps19
    go_wp2_with (first
      | (go_at_call 42; refine (HM.out _).mono ?_; rintro e w1 ⟨rfl, x1⟩)
      | (go_at_call 36; refine (HL.out _ (hv.ext x1)).mono ?_; rintro e w2 ⟨rfl, x2⟩))
    go_ret2
    exact ⟨rfl, x1.trans x2⟩
/-- fs.Find, of any blocks -/
def findX (v : List (List UInt8)) (I : Option Int) (p : List UInt8) : Int × Int := match I with
  | some I => findD (dfindP v I) p
  | none => findD badD p
/-- these blocks are a volume of so many inodes, or none -/
def GoodX (v : List (List UInt8)) : Option Int → Prop
  | some I => Good v I
  | none => ∀ I, ¬ Good v I
theorem goodX (v : List (List UInt8)) : ∃ I, GoodX v I := by
  by_cases h : ∃ I, Good v I
  · obtain ⟨I, h⟩ := h; exact ⟨some I, h⟩
  · exact ⟨none, fun I hI => h ⟨I, hI⟩⟩
theorem findX_any (A : Option Addr) (n c : Nat) (v : List (List UInt8)) (I : Option Int) (p : List UInt8) (w : World) (hv : Strs w A n v) (hn : n ≤ 9223372036854775807) (hg : GoodX v I) (hp : p.length ≤ 100000000) :
    Calls Tryz.prog 6 #[.slice A n c, .string (str p)] w fun e w' => e = .returned (.tuple #[.int .i64 (findX v I p).1, .int .i64 (findX v I p).2]) ∧ Ext w w' := by
  cases I with
  | some I => exact find_gen (dfindP v I) A n c v p w hv (fun k x w h hx => dfind_any A n c v I k x w h hg hx) hp
  | none => exact find_gen badD A n c v p w hv (fun k x w h hx => dfind_none A n c v k x w h hn hg hx) hp
/-- fs.Read, of any blocks -/
def readX (v : List (List UInt8)) (I : Option Int) (k off size : Int) : List UInt8 × Int := match I with
  | some I => if fileE v I k ≠ 0 then ([], fileE v I k) else readE v I k off size
  | none => ([], 3)
set_option maxHeartbeats 1000000 in
set_option maxRecDepth 100000 in
theorem readX_any (A : Option Addr) (n c : Nat) (v : List (List UInt8)) (I : Option Int) (k off size : Int) (w : World) (hv : Strs w A n v) (hn : n ≤ 9223372036854775807) (hg : GoodX v I) (ho : off ≤ 9223372036854775807) (hs : size ≤ 9223372036854775807) :
    Calls Tryz.prog 8 #[.slice A n c, .int .i64 k, .int .i64 off, .int .i64 size] w fun e w' => e = .returned (.tuple #[.string (str (readX v I k off size).1), .int .i64 (readX v I k off size).2]) ∧ Ext w w' := by
  cases I with
  | none =>
    have HF := Lib.hid (fun w h => ffile_bad A n c v k w h hn hg)
    unfold readX
    go_enter Tryz.func8, Tryz.ntmps8
    go_wp2_with (first
      | (go_at_call 22; refine (HF.out _ hv).mono ?_; rintro e w1 ⟨rfl, x1⟩))
    go_ret2
    exact ⟨rfl, x1⟩
  | some I =>
  have HF := Lib.hid (fun w h => ffile_any A n c v I k w h hg)
  by_cases h0 : fileE v I k = 0
  · rw [h0] at HF
    rw [show readX v (some I) k off size = readE v I k off size by unfold readX; simp only; rw [if_neg (fun h => h h0)]]
    obtain ⟨k1, k2⟩ := file_in h0
    have HR := Lib.hid (fun w h => fread_any A n c v I k off size w h hg k1 k2 ho hs)
    generalize readE v I k off size = R at *
    go_enter Tryz.func8, Tryz.ntmps8
    go_wp2_with (first
      | (go_at_call 22; refine (HF.out _ hv).mono ?_; rintro e w1 ⟨rfl, x1⟩)
      | (go_at_call 23; refine (HR.out _ (hv.ext x1)).mono ?_; rintro e w2 ⟨rfl, x2⟩))
    go_ret2
    exact ⟨rfl, x1.trans x2⟩
  · rw [show readX v (some I) k off size = ([], fileE v I k) by unfold readX; simp only; rw [if_pos h0]]
    generalize fileE v I k = z at *
    have d0 : (z != 0) = true := by simpa using h0
    go_enter Tryz.func8, Tryz.ntmps8
    go_wp2_with (first
      | (go_at_call 22; refine (HF.out _ hv).mono ?_; rintro e w1 ⟨rfl, x1⟩))
    go_ret2
    exact ⟨rfl, x1⟩
end Go.Proofs.YtnoofjddikhopaaGreat
/- The walk of what fs.made does. -/
namespace Go.Proofs.YtnoofjddikhopaaGreat
set_option linter.unusedVariables false
set_option linter.unusedSimpArgs false
open Go.RowKit
theorem vac_name (v : List (List UInt8)) (I : Int) (p : List UInt8) : (vacantP v I p).2.1.length ≤ p.length := by
  have hb := base_len p
  unfold vacantP
  split
  · exact Nat.zero_le _
  · split
    · exact Nat.zero_le _
    · split
      · exact Nat.zero_le _
      · split
        · exact hb
        · split
          · exact Nat.zero_le _
          · exact Nat.zero_le _
/-- what made$1 makes -/
def makeR (v : List (List UInt8)) (I : Int) (p : List UInt8) (kd o : Int) : List (List UInt8) × Int := ((makeP v I p kd o).1, (makeP v I p kd o).2.2)
set_option maxHeartbeats 2000000 in
set_option maxRecDepth 100000 in
theorem made1_any (A : Option Addr) (n c : Nat) (v : List (List UInt8)) (I : Int) (p : List UInt8) (kd o : Int) (b0 b1 b2 b3 b4 : Nat) (z : Int) (w : World) (hv : Strs w A n v) (hg : Good v I) (hp : p.length ≤ 100000000) (hkd : kd = 1 ∨ kd = 2) (ho0 : 0 ≤ o) (ho1 : o ≤ 15)
    (c0 : w.cell? ⟨b0, 0, none⟩ = some (.slice A n c)) (c1 : w.cell? ⟨b1, 0, none⟩ = some (.string (str p))) (c2 : w.cell? ⟨b2, 0, none⟩ = some (.int .i64 kd)) (c3 : w.cell? ⟨b3, 0, none⟩ = some (.int .i64 o)) (hb4 : Box w b4 3 #[.int .i64 z]) :
    Calls Tryz.prog 74 #[.pointer (some ⟨b0, 0, none⟩), .pointer (some ⟨b1, 0, none⟩), .pointer (some ⟨b2, 0, none⟩), .pointer (some ⟨b3, 0, none⟩), .pointer (some ⟨b4, 0, none⟩)] w fun e w' => WriteR w.heap.size (makeR v I p kd o) e w' ∧ Below b4 w w' ∧ ∃ y, Box w' b4 3 #[.int .i64 y] ∧ ((makeR v I p kd o).2 = 0 → y = (makeP v I p kd o).2.1) := by
  have HVa := Lib.hid (fun w h => vacant_any A n c v I p w h hg hp)
  have HNw := Lib.hid (fun w h => inew_any A n c v I kd o w h hg hkd ho0 ho1)
  have HGd := Lib.hid (fun h => newP_good (v := v) (I := I) (kd := kd) (o := o) hg h)
  have HAd := Lib.hid (fun A c u k name ino w h (hg : Good u I) (hn : name.length ≤ 1000000000) => dadd_any A n c u I k name ino w h hg hn)
  have hvn := vac_name v I p
  have HP := Lib.hid (show makeP v I p kd o = if (vacantP v I p).2.2 ≠ 0 then ([], 0, (vacantP v I p).2.2)
    else if (newP v I kd o).2.2 ≠ 0 then ([], 0, (newP v I kd o).2.2)
    else ((daddP (newP v I kd o).1 I (vacantP v I p).1 (vacantP v I p).2.1 (newP v I kd o).2.1).1, (newP v I kd o).2.1, (daddP (newP v I kd o).1 I (vacantP v I p).1 (vacantP v I p).2.1 (newP v I kd o).2.1).2) from rfl)
  have hn16 := Lib.hid (show n = v.length ∧ 16 ≤ v.length from ⟨hv.1, by have := plan_bd hg.plan; omega⟩)
  have HR := Lib.hid (show makeR v I p kd o = ((makeP v I p kd o).1, (makeP v I p kd o).2.2) from rfl)
  have HV := Lib.hid hv
  have hlt4 := hb4.lt
  have B4 := Lib.hid hb4
  clear hv hg hb4
  generalize vacantP v I p = V at *
  generalize newP v I kd o = N at *
  obtain ⟨V1, V2, V3⟩ := V
  obtain ⟨N1, N2, N3⟩ := N
  simp only at HVa HNw HGd HP hvn
  by_cases hV0 : V3 = 0
  · subst hV0
    rw [if_neg (fun h => h rfl)] at HP
    by_cases hN0 : N3 = 0
    · subst hN0
      rw [if_neg (fun h => h rfl)] at HP
      obtain ⟨g1, g2, _⟩ := HGd.out rfl
      have HAx := Lib.hid (fun A c w h => HAd.out A c N1 V1 V2 N2 w h g1 (by omega))
      clear g2
      clear HGd HAd
      generalize daddP N1 I V1 V2 N2 = D at *
      rw [HP.out] at HR
      have HP2 := Lib.hid (show (makeP v I p kd o).2.1 = N2 by rw [HP.out])
      have HR2 := Lib.hid (show makeR v I p kd o = D by rw [HR.out])
      clear HP HR
      go_enter Tryz.func74, Tryz.ntmps74
      go_wp2_with (first
        | (go_at_call 75; refine (HVa.out _ HV.out).mono ?_; rintro e w1 ⟨rfl, x1⟩; have e0 := x1.keep c0; have e2 := x1.keep c2; have e3 := x1.keep c3)
        | (go_at_call 27; refine (HNw.out _ (HV.out.ext x1)).mono ?_; rintro e w2 ⟨u, rfl, x2, own2, _⟩; obtain ⟨g, cap, rfl, _, st2⟩ := Strs.own' (own2 (by first | rfl | trivial)) (by have := hn16.out; omega); have k4 := (B4.out.ext x1).ext x2; have k4c : w2.cell? ⟨b4, 0, none⟩ = some (.int .i64 z) := k4.cell 0; have k4f := k4.frozen 0; have st3 := Strs.own (own_setBox (i := 0) (own2 (by first | rfl | trivial)) k4 (by decide) (.int .i64 N2)); have k5 := k4.set 0 (.int .i64 N2))
        | (go_at_call 76; refine (HAx.out _ _ _ st3).mono ?_; rintro e w3 ⟨hW, x3⟩; obtain ⟨q, rfl, hW1⟩ := hW.form; clear hW))
      go_ret2
      rw [HR2.out, HP2.out]
      have x12 := x1.trans x2
      refine ⟨hW1.base (by have := x12.size; simp; omega), ((show Below b4 w w2 from Below.mono x12 (by omega)).setCell (p := ⟨b4, 0, none⟩) (Nat.le_refl _) _).trans (Below.mono x3 (by have := x12.size; simp; omega)), N2, k5.ext x3, fun _ => rfl⟩
    · have d0 : (N3 != 0) = true := by simpa using hN0
      rw [if_pos hN0] at HP
      rw [HP.out] at HR
      clear HGd HAd
      go_enter Tryz.func74, Tryz.ntmps74
      go_wp2_with (first
        | (go_at_call 75; refine (HVa.out _ HV.out).mono ?_; rintro e w1 ⟨rfl, x1⟩; have e0 := x1.keep c0; have e2 := x1.keep c2; have e3 := x1.keep c3)
        | (go_at_call 27; refine (HNw.out _ (HV.out.ext x1)).mono ?_; rintro e w2 ⟨u, rfl, x2, _, _⟩))
      go_ret2
      rw [HR.out]
      exact ⟨.inl ⟨hN0, rfl⟩, Below.mono (x1.trans x2) (by omega), z, (B4.out.ext x1).ext x2, fun h => absurd h hN0⟩
  · have d0 : (V3 != 0) = true := by simpa using hV0
    rw [if_pos hV0] at HP
    rw [HP.out] at HR
    clear HGd HAd HNw
    go_enter Tryz.func74, Tryz.ntmps74
    go_wp2_with (first
      | (go_at_call 75; refine (HVa.out _ HV.out).mono ?_; rintro e w1 ⟨rfl, x1⟩))
    go_ret2
    rw [HR.out]
    exact ⟨.inl ⟨hV0, rfl⟩, Below.mono x1 (by omega), z, B4.out.ext x1, fun h => absurd h hV0⟩
/-- what made hands back -/
def MadeR (B : Nat) (Q : List (List UInt8) × Int × Int) (e : Ending) (w' : World) : Prop :=
  (Q.2.2 ≠ 0 ∧ e = .returned (.tuple #[.slice none 0 0, .int .i64 0, .int .i64 Q.2.2])) ∨ (Q.2.2 = 0 ∧ ∃ b cap, e = .returned (.tuple #[.slice (some ⟨b, 0, none⟩) Q.1.length cap, .int .i64 Q.2.1, .int .i64 0]) ∧ w'.ownsRow B 9 1 (.slice (some ⟨b, 0, none⟩) Q.1.length cap) Q.1.length (strL Q.1))
set_option maxHeartbeats 2000000 in
set_option maxRecDepth 100000 in
theorem made_any (A : Option Addr) (n c : Nat) (v : List (List UInt8)) (I : Int) (p : List UInt8) (kd o : Int) (w : World) (hv : Strs w A n v) (hg : Good v I) (hp : p.length ≤ 100000000) (hkd : kd = 1 ∨ kd = 2) (ho0 : 0 ≤ o) (ho1 : o ≤ 15) :
    Calls Tryz.prog 32 #[.slice A n c, .string (str p), .int .i64 kd, .int .i64 o] w fun e w' => MadeR w.heap.size (madeP v I p kd o) e w' ∧ Ext w w' := by
  have HV := Lib.hid hv
  have HG := Lib.hid (fun h => (makeP_good (v := v) (I := I) (p := p) (kd := kd) (o := o) hg h).1)
  have H1 := Lib.hid (fun b0 b1 b2 b3 b4 z w h c0 c1 c2 c3 hb => made1_any A n c v I p kd o b0 b1 b2 b3 b4 z w h hg hp hkd ho0 ho1 c0 c1 c2 c3 hb)
  have HW := Lib.hid (fun N lb P w a b cc dd pp e => weighed_any N A n c v I 74 lb (makeR v I p kd o) P w a b cc hg dd pp e)
  have HP := Lib.hid (show madeP v I p kd o = if (weighP v I (makeR v I p kd o)).2 ≠ 0 then ([], 0, (weighP v I (makeR v I p kd o)).2) else ((makeR v I p kd o).1, (makeP v I p kd o).2.1, 0) from rfl)
  have HK := Lib.hid (fun h => weigh_ok (v := v) (I := I) (R := makeR v I p kd o) h)
  have HRG := Lib.hid (show (makeR v I p kd o).2 = 0 → Good (makeR v I p kd o).1 I from fun h => HG.out h)
  clear HG hv hg
  generalize makeR v I p kd o = R at *
  generalize (makeP v I p kd o).2.1 = j at *
  generalize hT : weighP v I R = T at *
  clear hT
  have x5 : Ext w (((((w.alloc (.cells #[.slice A n c] 22)).alloc (.cells #[.string (str p)] 9)).alloc (.cells #[.int .i64 kd] 3)).alloc (.cells #[.int .i64 o] 3)).alloc (.cells #[.int .i64 0] 3)) := ((((((Ext.refl w).alloc _).alloc _).alloc _).alloc _).alloc _)
  have y0 := Box.new w 22 #[.slice A n c]
  have y1 := Box.new (w.alloc (.cells #[.slice A n c] 22)) 9 #[.string (str p)]
  have y2 := Box.new ((w.alloc (.cells #[.slice A n c] 22)).alloc (.cells #[.string (str p)] 9)) 3 #[.int .i64 kd]
  have y3 := Box.new (((w.alloc (.cells #[.slice A n c] 22)).alloc (.cells #[.string (str p)] 9)).alloc (.cells #[.int .i64 kd] 3)) 3 #[.int .i64 o]
  have y4 := Box.new ((((w.alloc (.cells #[.slice A n c] 22)).alloc (.cells #[.string (str p)] 9)).alloc (.cells #[.int .i64 kd] 3)).alloc (.cells #[.int .i64 o] 3)) 3 #[.int .i64 0]
  have y0' := (((y0.ext ((Ext.refl _).alloc (.cells #[.string (str p)] 9))).ext ((Ext.refl _).alloc (.cells #[.int .i64 kd] 3))).ext ((Ext.refl _).alloc (.cells #[.int .i64 o] 3))).ext ((Ext.refl _).alloc (.cells #[.int .i64 0] 3))
  have y1' := ((y1.ext ((Ext.refl _).alloc (.cells #[.int .i64 kd] 3))).ext ((Ext.refl _).alloc (.cells #[.int .i64 o] 3))).ext ((Ext.refl _).alloc (.cells #[.int .i64 0] 3))
  have y2' := (y2.ext ((Ext.refl _).alloc (.cells #[.int .i64 o] 3))).ext ((Ext.refl _).alloc (.cells #[.int .i64 0] 3))
  have y3' := y3.ext ((Ext.refl _).alloc (.cells #[.int .i64 0] 3))
  clear y0 y1 y2 y3
  simp only [World.size_alloc] at y1' y2' y3' y4
  have hmf : ∀ (fn : Fn) (first cap : Array Value) (w : World), (Instr.makeFunc fn first cap).run Tryz.prog w = .ok (.func fn first cap) w := fun _ _ _ _ => rfl
  go_enter Tryz.func32, Tryz.ntmps32
  go_upto_region 2 with fail
  generalize ((((w.alloc (.cells #[.slice A n c] 22)).alloc (.cells #[.string (str p)] 9)).alloc (.cells #[.int .i64 kd] 3)).alloc (.cells #[.int .i64 o] 3)).alloc (.cells #[.int .i64 0] 3) = w5 at *
  have c0 : w5.cell? ⟨w.heap.size, 0, none⟩ = some (.slice A n c) := y0'.cell 0
  have c1 : w5.cell? ⟨w.heap.size + 1, 0, none⟩ = some (.string (str p)) := y1'.cell 0
  have c2 : w5.cell? ⟨w.heap.size + 1 + 1, 0, none⟩ = some (.int .i64 kd) := y2'.cell 0
  have c3 : w5.cell? ⟨w.heap.size + 1 + 1 + 1, 0, none⟩ = some (.int .i64 o) := y3'.cell 0
  have hl5 := y4.lt
  have HH := Lib.hid (H1.out (w.heap.size) (w.heap.size + 1) (w.heap.size + 1 + 1) (w.heap.size + 1 + 1 + 1) (w.heap.size + 1 + 1 + 1 + 1) 0 w5 (HV.out.ext x5) c0 c1 c2 c3 y4)
  have HWw := Lib.hid (HW.out (w.heap.size + 1 + 1 + 1 + 1) _ (fun W => ∃ y, Box W (w.heap.size + 1 + 1 + 1 + 1) 3 #[.int .i64 y] ∧ (R.2 = 0 → y = j)) w5 (enters_of Tryz.func74 (by kernel_rfl) rfl) (fun W hW => HV.out.ext (x5.under hW (by omega))) (by omega) HRG.out (fun W W' ⟨y, hb, hy⟩ x => ⟨y, hb.ext x, hy⟩) HH.out)
  have HX5 := Lib.hid x5
  clear H1 HW HH c1 c2 c3 y0' y1' y2' y3' y4 x5
  by_cases h0 : T.2 = 0
  · rw [if_neg (fun h => h h0)] at HP
    have hRT := HK.out h0
    have e0 : (Value.int .i64 T.2) = .int .i64 0 := by rw [h0]
    obtain ⟨hR0, rfl⟩ := hRT
    go_upto_region 5 with (first
      | (go_at_call 33; refine HWw.out.mono ?_; rintro e w6 ⟨hW, x6, y, hb, hy⟩; obtain ⟨u, rfl, hW1⟩ := hW.form; obtain ⟨b1, cap1, rfl, own1⟩ := hW1.strs h0; rw [e0]; obtain rfl := hy hR0; have k6 : w6.cell? ⟨w.heap.size + 1 + 1 + 1 + 1, 0, none⟩ = some (.int .i64 y) := hb.cell 0; clear hW hW1))
    have k7 : ∀ y' : Later w6, y'.now.cell? ⟨w.heap.size + 1 + 1 + 1 + 1, 0, none⟩ = some (.int .i64 y) := fun y' => y'.ext.keep k6
    clear HWw
    refine wp_region_later (by kernel_rfl) (by kernel_rfl) ?_
    repeat (go_big_quiet_step (fail))
    refine wpQuiet_nil ?_
    rintro w7 ⟨y7, rfl⟩
    go_wp2_with fail
    go_ret3
    rw [HP.out]
    exact ⟨.inr ⟨rfl, b1, cap1, rfl, own_base (own_ext own1 y7.ext) (by omega)⟩, (HX5.out.under x6 (by omega)).trans y7.ext⟩
  · have d0 : (T.2 != 0) = true := by simpa using h0
    rw [if_pos h0] at HP
    go_wp2_with (first
      | (go_at_call 33; refine HWw.out.mono ?_; rintro e w6 ⟨hW, x6, y, hb, hy⟩; obtain ⟨u, rfl, hW1⟩ := hW.form; obtain rfl := hW1.nils h0; clear hW hW1))
    go_ret3
    rw [HP.out]
    exact ⟨.inl ⟨h0, rfl⟩, HX5.out.under x6 (by omega)⟩
set_option maxHeartbeats 1000000 in
theorem create_any (A : Option Addr) (n c : Nat) (v : List (List UInt8)) (I : Int) (p : List UInt8) (o : Int) (w : World) (hv : Strs w A n v) (hg : Good v I) (hp : p.length ≤ 100000000) (ho0 : 0 ≤ o) (ho1 : o ≤ 15) :
    Calls Tryz.prog 15 #[.slice A n c, .string (str p), .int .i64 o] w fun e w' => MadeR w.heap.size (madeP v I p 1 o) e w' ∧ Ext w w' := by
  have HM := Lib.hid (fun w h => made_any A n c v I p 1 o w h hg hp (.inl rfl) ho0 ho1)
  generalize madeP v I p 1 o = Q at *
  have HF := Lib.hid (show ∀ e w', MadeR w.heap.size Q e w' → ∃ u, e = .returned (.tuple #[u, .int .i64 Q.2.1, .int .i64 Q.2.2]) ∨ (Q.2.2 ≠ 0 ∧ e = .returned (.tuple #[.slice none 0 0, .int .i64 0, .int .i64 Q.2.2])) from fun e w' h => by
    rcases h with ⟨h0, rfl⟩ | ⟨h0, b, cap, rfl, _⟩
    · exact ⟨.slice none 0 0, .inr ⟨h0, rfl⟩⟩
    · exact ⟨_, .inl (by rw [h0])⟩)
  go_enter Tryz.func15, Tryz.ntmps15
  go_wp2_with (go_at_call 32; refine (HM.out _ hv).mono ?_; rintro e w1 ⟨hM, x1⟩; have HM1 := Lib.hid hM; obtain ⟨u, rfl | ⟨_, rfl⟩⟩ := HF.out e w1 hM; clear hM)
  all_goals
    go_ret3
    exact ⟨HM1.out, x1⟩
end Go.Proofs.YtnoofjddikhopaaGreat
