/- single.file, single.File. -/
import Derived.Test.YtfaplefkakpgcaaGreatDoorVa24
import Derived.Test.YtfaplefkakpgcaaGreatDoorVa33
namespace Go.Proofs.YtfaplefkakpgcaaGreatDoor
set_option linter.unusedVariables false
set_option linter.unusedSimpArgs false
open Go.RowKit
/-- an inode of any blocks -/
def igX (v : List (List UInt8)) (I : Option Int) (k : Int) : List Int × Int := match I with
  | some J => if 1 ≤ k ∧ k ≤ J then (inoAt v k, 0) else (zero12, 2)
  | none => (zero12, 3)
theorem igX_any (A : Option Addr) (n c : Nat) (v : List (List UInt8)) (I : Option Int) (k : Int) (w : World) (hv : Strs w A n v) (hn : n ≤ 9223372036854775807) (hg : GoodX v I) :
    (igX v I k).1.length = 12 ∧ Calls Tryz.prog 69 #[.slice A n c, .int .i64 k] w fun e w' => e = .returned (.tuple #[.agg (intVals (igX v I k).1), .int .i64 (igX v I k).2]) ∧ Ext w w' := by
  cases I with
  | none => exact ⟨rfl, iget_bad A n c v k w hv hn hg⟩
  | some J =>
    by_cases h : 1 ≤ k ∧ k ≤ J
    · have e : igX v (some J) k = (inoAt v k, 0) := if_pos h
      rw [e]
      exact ⟨rfl, iget_yes A n c v J k w hv hg h.1 h.2⟩
    · have e : igX v (some J) k = (zero12, 2) := if_neg h
      rw [e]
      exact ⟨rfl, iget_no A n c v J k w hv hg (by omega)⟩
/-- the number of the file at a path -/
def fileX (v : List (List UInt8)) (I : Option Int) (p : List UInt8) : Int × Int :=
  if (findX v I p).2 ≠ 0 then (0, (findX v I p).2) else if (igX v I (findX v I p).1).2 = 0 ∧ (igX v I (findX v I p).1).1.getD 0 0 = 1 then ((findX v I p).1, 0) else (0, 11)
/-- the bytes of the file at a path -/
def sfileX (v : List (List UInt8)) (I : Option Int) (p : List UInt8) : List UInt8 × Int :=
  if (fileX v I p).2 ≠ 0 then ([], (fileX v I p).2) else readX v I (fileX v I p).1 0 8960
theorem intVals_zero {x : List Int} (h : x.length = 12) : (intVals x)[0]? = some (.int .i64 (x.getD 0 0)) := by
  match x, h with
  | a :: l, _ => rfl
set_option maxHeartbeats 4000000 in
set_option maxRecDepth 100000 in
theorem sgfile_any (A : Option Addr) (n c : Nat) (v : List (List UInt8)) (I : Option Int) (p : List UInt8) (w : World) (hv : Strs w A n v) (hn : n ≤ 9223372036854775807) (hg : GoodX v I) (hp : p.length ≤ 100000000) :
    Calls Tryz.prog 28 #[.slice A n c, .string (str p)] w fun e w' => e = .returned (.tuple #[.int .i64 (fileX v I p).1, .int .i64 (fileX v I p).2]) ∧ Ext w w' := by
  have HF := Lib.hid (fun w h => findX_any A n c v I p w h hn hg hp)
  have HG := Lib.hid (fun w h => (igX_any A n c v I (findX v I p).1 w h hn hg).2)
  have hl := (igX_any A n c v I (findX v I p).1 w hv hn hg).1
  have HV := Lib.hid hv
  unfold fileX
  clear hv hg hn hp
  generalize findX v I p = F at *
  obtain ⟨k, e⟩ := F
  simp only at HF HG hl ⊢
  generalize igX v I k = Y at *
  obtain ⟨x, e2⟩ := Y
  simp only at HG hl ⊢
  by_cases h1 : e = 0
  · subst h1
    have hx0 := intVals_zero hl
    have HL := Lib.hid hl
    clear hl
    rw [if_neg (by decide)]
    generalize hkd : x.getD 0 0 = kd at *
    by_cases h2 : e2 = 0
    · subst h2
      by_cases h3 : kd = 1
      · subst h3
        rw [if_pos ⟨rfl, rfl⟩]
        go_enter Tryz.func28, Tryz.ntmps28
        go_wp2_with (first
          | (go_at_call 23; refine (HF.out _ HV.out).mono ?_; rintro e w1 ⟨rfl, x1⟩)
          | (go_at_call 69; refine (HG.out _ (HV.out.ext x1)).mono ?_; rintro e w2 ⟨rfl, x2⟩)
          | (refine wp_st_ino (.tmp 8) (.tmp 22) rfl rfl w2.heap.size x zero12 _ rfl rfl (Box.new _ _ _) HL.out rfl ?_; intro w3 b3 g3; have q0 : w3.cell? ⟨w2.heap.size, 0, none⟩ = some (.int .i64 1) := (b3.cell 0).trans hx0))
        have x3 : Ext w2 w3 := ((Ext.refl w2).alloc _).grown g3 (fun j e => by cases e; exact Nat.le_refl _)
        go_ret2
        exact ⟨rfl, (x1.trans x2).trans x3⟩
      · rw [if_neg (fun h => h3 h.2)]
        have h4 : (kd != 1) = true := by simpa using h3
        go_enter Tryz.func28, Tryz.ntmps28
        go_wp2_with (first
          | (go_at_call 23; refine (HF.out _ HV.out).mono ?_; rintro e w1 ⟨rfl, x1⟩)
          | (go_at_call 69; refine (HG.out _ (HV.out.ext x1)).mono ?_; rintro e w2 ⟨rfl, x2⟩)
          | (refine wp_st_ino (.tmp 8) (.tmp 22) rfl rfl w2.heap.size x zero12 _ rfl rfl (Box.new _ _ _) HL.out rfl ?_; intro w3 b3 g3; have q0 : w3.cell? ⟨w2.heap.size, 0, none⟩ = some (.int .i64 kd) := (b3.cell 0).trans hx0))
        have x3 : Ext w2 w3 := ((Ext.refl w2).alloc _).grown g3 (fun j e => by cases e; exact Nat.le_refl _)
        go_ret2
        exact ⟨rfl, (x1.trans x2).trans x3⟩
    · rw [if_neg (fun h => h2 h.1)]
      have h4 : (e2 != 0) = true := by simpa using h2
      go_enter Tryz.func28, Tryz.ntmps28
      go_wp2_with (first
        | (go_at_call 23; refine (HF.out _ HV.out).mono ?_; rintro e w1 ⟨rfl, x1⟩)
        | (go_at_call 69; refine (HG.out _ (HV.out.ext x1)).mono ?_; rintro e w2 ⟨rfl, x2⟩)
        | (refine wp_st_ino (.tmp 8) (.tmp 22) rfl rfl w2.heap.size x zero12 _ rfl rfl (Box.new _ _ _) HL.out rfl ?_; intro w3 b3 g3))
      have x3 : Ext w2 w3 := ((Ext.refl w2).alloc _).grown g3 (fun j e => by cases e; exact Nat.le_refl _)
      go_ret2
      exact ⟨rfl, (x1.trans x2).trans x3⟩
  · rw [if_pos h1]
    have h4 : (e != 0) = true := by simpa using h1
    go_enter Tryz.func28, Tryz.ntmps28
    go_wp2_with (go_at_call 23; refine (HF.out _ HV.out).mono ?_; rintro e w1 ⟨rfl, x1⟩)
    go_ret2
    exact ⟨rfl, x1⟩
set_option maxHeartbeats 4000000 in
set_option maxRecDepth 100000 in
/-- single.File, where the image's machine is known -/
theorem sfile_of (FA B : Option Addr) (fn fc bn bc : Nat) (s : ByteArray) (d : MacD) (I : Option Int) (p : List UInt8) (w : World) (hM : ∀ w', Ext w w' → Calls Tryz.prog 27 #[.agg #[.slice FA fn fc, .slice B bn bc, .string s]] w' fun e w'' => ∃ z : Mac, e = .returned (.tuple #[.agg z.cells, .int .i64 0]) ∧ Ext w' w'' ∧ MacIn w'' z d)
    (hv : (viewP d.bl d.pe d.di).length ≤ 9223372036854775807) (hg : GoodX (viewP d.bl d.pe d.di) I) (hp : p.length ≤ 100000000) :
    Calls Tryz.prog 11 #[.agg #[.slice FA fn fc, .slice B bn bc, .string s], .string (str p)] w fun e w' => e = .returned (.tuple #[.string (str (sfileX (viewP d.bl d.pe d.di) I p).1), .int .i64 (sfileX (viewP d.bl d.pe d.di) I p).2]) ∧ Ext w w' := by
  have HV := Lib.hid (fun z w h => view_any z d w h)
  have HS := Lib.hid (fun A c w h => sgfile_any A (viewP d.bl d.pe d.di).length c (viewP d.bl d.pe d.di) I p w h hv hg hp)
  have HR := Lib.hid (fun A c w h => readX_any A (viewP d.bl d.pe d.di).length c (viewP d.bl d.pe d.di) I (fileX (viewP d.bl d.pe d.di) I p).1 0 8960 w h hv hg (by decide) (by decide))
  have HM := Lib.hid hM
  unfold sfileX
  clear hv hg hp hM
  generalize fileX (viewP d.bl d.pe d.di) I p = F at *
  obtain ⟨k, e⟩ := F
  simp only at HS HR ⊢
  have x0 := (Ext.refl w).alloc (.cells #[.slice FA fn fc, .slice B bn bc, .string s] 24)
  by_cases h1 : e = 0
  · subst h1
    rw [if_neg (by decide)]
    go_enter Tryz.func11, Tryz.ntmps11
    go_upto_region 2 with (first
      | (go_at_call 27; refine (HM.out _ x0).mono ?_; rintro e w1 ⟨z, rfl, x1, hi⟩)
      | (refine wp_st_mac _ _ rfl rfl w1.heap.size z _ _ rfl rfl (Box.new _ _ _) rfl ?_; intro w2 b2 g2))
    have y2 : Ext w1 w2 := ((Ext.refl w1).alloc _).grown g2 (fun j e => by cases e; exact Nat.le_refl _)
    have HI := Lib.hid (hi.ext y2)
    have X2 := Lib.hid ((x0.trans x1).trans y2)
    clear hi x1 y2 g2 x0
    go_wp2_with (first
      | (refine wp_ld_mac _ rfl rfl w1.heap.size _ _ rfl b2 rfl ?_)
      | (go_at_call 18; refine (HV.out z _ HI.out).mono ?_; rintro e w3 ⟨A, c, rfl, x3, o3⟩; have HSt := Lib.hid (Strs.own o3); clear o3)
      | (go_at_call 28; refine (HS.out _ _ _ HSt.out).mono ?_; rintro e w4 ⟨rfl, x4⟩)
      | (go_at_call 24; refine (HR.out _ _ _ (HSt.out.ext x4)).mono ?_; rintro e w5 ⟨rfl, x5⟩))
    go_ret2
    exact ⟨rfl, ((X2.out.trans x3).trans x4).trans x5⟩
  · rw [if_pos h1]
    have h4 : (e != 0) = true := by simpa using h1
    go_enter Tryz.func11, Tryz.ntmps11
    go_upto_region 2 with (first
      | (go_at_call 27; refine (HM.out _ x0).mono ?_; rintro e w1 ⟨z, rfl, x1, hi⟩)
      | (refine wp_st_mac _ _ rfl rfl w1.heap.size z _ _ rfl rfl (Box.new _ _ _) rfl ?_; intro w2 b2 g2))
    have y2 : Ext w1 w2 := ((Ext.refl w1).alloc _).grown g2 (fun j e => by cases e; exact Nat.le_refl _)
    have HI := Lib.hid (hi.ext y2)
    have X2 := Lib.hid ((x0.trans x1).trans y2)
    clear hi x1 y2 g2 x0
    go_wp2_with (first
      | (refine wp_ld_mac _ rfl rfl w1.heap.size _ _ rfl b2 rfl ?_)
      | (go_at_call 18; refine (HV.out z _ HI.out).mono ?_; rintro e w3 ⟨A, c, rfl, x3, o3⟩; have HSt := Lib.hid (Strs.own o3); clear o3)
      | (go_at_call 28; refine (HS.out _ _ _ HSt.out).mono ?_; rintro e w4 ⟨rfl, x4⟩))
    go_ret2
    exact ⟨rfl, (X2.out.trans x3).trans x4⟩
set_option maxHeartbeats 4000000 in
set_option maxRecDepth 100000 in
theorem sfile_none (p : List UInt8) (w : World) : Calls Tryz.prog 11 #[.agg #[.slice none 0 0, .slice none 0 0, .string ⟨#[]⟩], .string (str p)] w fun e w' => e = .returned (.tuple #[.string ⟨#[]⟩, .int .i64 3]) ∧ Ext w w' := by
  have HM := Lib.hid imach_none
  have x0 := (Ext.refl w).alloc (.cells #[.slice none 0 0, .slice none 0 0, .string ⟨#[]⟩] 24)
  go_enter Tryz.func11, Tryz.ntmps11
  go_wp2_with (first
    | (go_at_call 27; refine (HM.out _).mono ?_; rintro e w1 ⟨rfl, x1⟩)
    | (refine wp_st_mac _ _ rfl rfl w1.heap.size mac0 _ _ rfl rfl (Box.new _ _ _) rfl ?_; intro w2 b2 g2))
  have y2 : Ext w1 w2 := ((Ext.refl w1).alloc _).grown g2 (fun j e => by cases e; exact Nat.le_refl _)
  go_ret2
  exact ⟨rfl, (x0.trans x1).trans y2⟩
end Go.Proofs.YtfaplefkakpgcaaGreatDoor
/- layer 56: the document's example; a machine that is not too large. -/
namespace Go.Proofs.YtfaplefkakpgcaaGreatDoor
set_option linter.unusedVariables false
set_option linter.unusedSimpArgs false
open Go.RowKit
theorem results_cellP {fn : Func} {p s r : Tmp} {ty : TypeId} (h : fn.results = #[.cell p ty, .tmp s, .tmp r]) (tmps : Array Value) (w : World) (g : Nat) (t : TypeId) (cs : Array Value) (d : TypeDesc) (v u : Value)
    (hp : tmps.getD p undef = .pointer (some ⟨g, 0, none⟩)) (hs : tmps.getD s undef = v) (hr : tmps.getD r undef = u) (hg : Box w g t cs)
    (hu : Tryz.prog.underlying ty = some d) (hd : isAggD d = true) (hi : (Tryz.prog.info? ty).map (·.size) = some cs.size) :
    (results fn tmps).run Tryz.prog w = .ok (.tuple #[.agg cs, v, u]) w := by
  have hp' : tmps[p]?.getD undef = .pointer (some ⟨g, 0, none⟩) := by simpa using hp
  have hs' : tmps[s]?.getD undef = v := by simpa using hs
  have hr' : tmps[r]?.getD undef = u := by simpa using hr
  simp [results, h, hp', hs', hr', asAddr, run_loadVar_row w g t ty cs (0, 0) d hg hu (by cases d <;> first | rfl | cases hd) hi]
set_option maxHeartbeats 4000000 in
set_option maxRecDepth 100000 in
theorem sproc_none (w : World) : Calls Tryz.prog 14 #[.agg #[.slice none 0 0, .slice none 0 0, .string ⟨#[]⟩], .int .i64 1, .agg mac0.cells] w fun e w' => e = .returned (.tuple #[.agg mac0.cells, .int .i64 0, .int .i64 3]) ∧ Ext w w' := by
  have HM := Lib.hid imach_none
  have x0 := (((Ext.refl w).alloc (.cells #[.slice none 0 0, .slice none 0 0, .string ⟨#[]⟩] 24)).alloc (.cells mac0.cells 38)).alloc (.cells mac0.cells 38)
  have br := Box.new ((w.alloc (.cells #[.slice none 0 0, .slice none 0 0, .string ⟨#[]⟩] 24)).alloc (.cells mac0.cells 38)) 38 mac0.cells
  have bx := ((Box.new w 24 #[.slice none 0 0, .slice none 0 0, .string ⟨#[]⟩]).ext ((Ext.refl _).alloc (.cells mac0.cells 38))).ext ((Ext.refl _).alloc (.cells mac0.cells 38))
  rw [World.size_alloc, World.size_alloc] at br
  go_enter Tryz.func14, Tryz.ntmps14
  go_upto_region 1 with fail
  change Code.wp _ _ _ _ (((w.alloc (.cells #[.slice none 0 0, .slice none 0 0, .string ⟨#[]⟩] 24)).alloc (.cells mac0.cells 38)).alloc (.cells mac0.cells 38))
  generalize ((w.alloc (.cells #[.slice none 0 0, .slice none 0 0, .string ⟨#[]⟩] 24)).alloc (.cells mac0.cells 38)).alloc (.cells mac0.cells 38) = w0 at x0 br bx ⊢
  obtain ⟨G, hG⟩ : ∃ G, G = w.heap.size := ⟨_, rfl⟩
  rw [← hG] at br bx ⊢
  have HG := Lib.hid hG
  clear hG
  go_upto_region 2 with (first
    | (refine wp_ld _ _ rfl rfl G #[.slice none 0 0, .slice none 0 0, .string ⟨#[]⟩] _ _ rfl bx Tryz.underlying24 rfl imgSz ?_)
    | (go_at_call 27; refine (HM.out _).mono ?_; rintro e w1 ⟨rfl, x1⟩)
    | (refine wp_st_mac _ _ rfl rfl w1.heap.size mac0 _ _ rfl rfl (Box.new _ _ _) rfl ?_; intro w2 b2 g2))
  have y2 : Ext w1 w2 := ((Ext.refl w1).alloc _).grown g2 (fun j e => by cases e; exact Nat.le_refl _)
  have br2 := br.ext (x1.trans y2)
  go_wp2_with (refine wp_st_mac _ _ rfl rfl (G + 1 + 1) mac0 _ _ rfl rfl br2 rfl ?_; intro w9 b9 g9)
  exact bodyPost_ret (results_cellP rfl _ _ (G + 1 + 1) _ _ _ _ _ rfl rfl rfl b9 Tryz.underlying38 rfl macSz) rfl ⟨rfl, (x0.trans (x1.trans y2)).grown g9 (fun j e => by cases e; rw [← HG.out]; omega)⟩
set_option maxHeartbeats 4000000 in
set_option maxRecDepth 100000 in
theorem sawake_any (w : World) : Calls Tryz.prog 10 #[] w fun e w' => e = .returned (.bool true) ∧ Ext w w' := by
  have HM := Lib.hid imach_none
  have HF := Lib.hid (fun w => sfile_none [47, 97] w)
  have HP := Lib.hid sproc_none
  go_enter Tryz.func10, Tryz.ntmps10
  go_wp2_with (first
    | (go_at_call 11; refine (HF.out _).mono ?_; rintro e w1 ⟨rfl, x1⟩)
    | (go_at_call 14; refine (HP.out _).mono ?_; rintro e w2 ⟨rfl, x2⟩)
    | (go_at_call 27; refine (HM.out _).mono ?_; rintro e w5 ⟨rfl, x5⟩)
    | (refine wp_st_mac (.tmp 3) (.tmp 17) rfl rfl w2.heap.size mac0 _ _ rfl rfl (Box.new _ _ _) rfl ?_; intro w3 b3 g3)
    | (refine wp_st_mac (.tmp 6) (.tmp 23) rfl rfl w5.heap.size mac0 _ _ rfl rfl (Box.new _ _ _) rfl ?_; intro w6 b6 g6; have x3 : Ext w2 w3 := ((Ext.refl w2).alloc _).grown g3 (fun j e => by cases e; exact Nat.le_refl _); have x6 : Ext w5 w6 := ((Ext.refl w5).alloc _).grown g6 (fun j e => by cases e; exact Nat.le_refl _); have q0 : w6.cell? ⟨w2.heap.size, 4, none⟩ = some (.slice none 0 0) := ((b3.ext x5).ext x6).cell 4))
  go_ret
  exact ⟨rfl, (((x1.trans x2).trans x3).trans x5).trans x6⟩
end Go.Proofs.YtfaplefkakpgcaaGreatDoor
