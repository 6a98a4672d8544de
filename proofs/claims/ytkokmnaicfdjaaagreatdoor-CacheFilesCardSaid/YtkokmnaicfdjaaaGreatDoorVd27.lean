/- extent.Read on a volume that is one. -/
import Derived.Test.YtkokmnaicfdjaaaGreatDoorVd26
import Derived.Test.YtkokmnaicfdjaaaGreatDoorVd13
import Derived.Test.YtkokmnaicfdjaaaGreatDoorVd11
namespace Go.Proofs.YtkokmnaicfdjaaaGreatDoor
set_option linter.unusedVariables false
set_option linter.unusedSimpArgs false
open Go.RowKit Go.Shelf
attribute [local go_sem] Oper.semAt_some

/-- a builder, fresh or in use -/
def BldS (B b : Nat) (l : List UInt8) (w : World) : Prop := Bld0 B b w ∧ l = [] ∨ Bld B b l w
theorem ba_kept {B b : Nat} {p : Value} {l : List Value} {w w' : World} {row : Option Nat} (h : Lib.BuilderAt 148 5 B b p l w) (hg : w.grownBy w' row) (hr : ∀ r, row = some r → ∃ o : Obj, w.heap[r]? = some o ∧ o.isCells = false) :
    Lib.BuilderAt 148 5 B b p l w' := by
  obtain ⟨hB, v, hb, hown, hne⟩ := h
  refine ⟨hB, v, Box.grown hb hg (fun e => ?_), hown.kept hg ?_, hne⟩
  · obtain ⟨o, ho, hc⟩ := hr b e.symm
    rw [hb] at ho; cases ho; cases hc
  · rcases hown.2 with ⟨e, _⟩ | ⟨g, cap, cur, e, _, hh, _⟩
    · exact .inl (by rw [e]; rfl)
    · refine .inr (fun e2 => ?_)
      rw [e] at e2
      obtain ⟨o, ho, hc⟩ := hr g e2.symm
      rw [hh] at ho; cases ho; cases hc
theorem bldS_own {β : Type} (B b : Nat) (f : β → List UInt8) : Own (fun s W => BldS B b (f s) W) := fun s X Y row hs hg hr => by
  rcases hs with ⟨h, e⟩ | h
  · exact .inl ⟨ba_kept h hg hr, e⟩
  · exact .inr (ba_kept h hg hr)
theorem BldS.ext {B b : Nat} {l : List UInt8} {w w' : World} (h : BldS B b l w) (x : Ext w w') : BldS B b l w' := by
  rcases h with ⟨h, e⟩ | h
  · refine .inl ⟨?_, e⟩
    obtain ⟨hB, v, hb, hown, hne⟩ := h
    exact ⟨hB, v, Box.ext hb x, own_ext hown x, hne⟩
  · exact .inr (h.ext x)
theorem BldS.isCells {B b : Nat} {l : List UInt8} {w : World} (h : BldS B b l w) : ∃ cs, Box w b 148 cs := by
  rcases h with ⟨⟨hB, v, hb, _⟩, _⟩ | h
  · exact ⟨_, hb⟩
  · exact h.box
theorem bldS_string (B b : Nat) (l : List UInt8) (w : World) (h : BldS B b l w) (hB : B ≤ w.heap.size) :
    Calls Tryz.prog 107 #[.pointer (some ⟨b, 0, none⟩)] w fun e w' => e = .returned (.string (str l)) ∧ Below B w w' ∧ Lib.OthersKept 5 (some b) w w' := by
  rcases h with ⟨h, rfl⟩ | h
  · refine (Tryz.Builder_String_any_k B b [] w (.inl (Lib.BuilderAtF.of h)) hB).mono ?_
    rintro e w' ⟨rfl, _, hb, hk⟩
    exact ⟨rfl, hb, hk⟩
  · exact bldString_any B b l w h hB
theorem keeps_others {B b : Nat} {w w' : World} {cs : Array Value} (h : Lib.OthersKept 5 (some b) w w') (hb : Box w b 148 cs) (hs : w.heap.size ≤ w'.heap.size) : KeepsFrom B w w' := ⟨hs, fun k o hk ho hc => h k o ho (fun e => by
    cases e
    have hb' : w.heap[b]? = some (.cells cs 148 (0, 0)) := hb
    rw [hb'] at ho; cases ho; cases hc) (fun c fz e => by subst e; cases hc)⟩
theorem KpB.others {b1 b2 b : Nat} {w w' : World} (h : Lib.OthersKept 5 (some b) w w') (h1 : b1 ≠ b) (h2 : b2 ≠ b) (c1 : ∀ cs t, w.heap[b1]? = some (Obj.cells cs t (0, 0)) → t ≠ 5) (c2 : ∀ cs t, w.heap[b2]? = some (Obj.cells cs t (0, 0)) → t ≠ 5) : KpB b1 b2 w w' := fun cs t =>
  ⟨fun e => h b1 _ e (fun h => h1 (by injection h)) (fun c fz e2 => by cases e2; exact c1 _ _ e rfl), fun e => h b2 _ e (fun h => h2 (by injection h)) (fun c fz e2 => by cases e2; exact c2 _ _ e rfl)⟩
theorem strs_same {w w' : World} {b n : Nat} {v : List (List UInt8)} (h : Strs w (some ⟨b, 0, none⟩) n v) (e : w'.heap[b]? = w.heap[b]?) : Strs w' (some ⟨b, 0, none⟩) n v := ⟨h.1, fun hn => by
  obtain ⟨b', o', e1, h2⟩ := h.2 hn
  injection e1 with e1
  injection e1 with e1 e2 _
  subst e1 e2
  exact ⟨b, 0, rfl, fun j hj => by rw [← h2 j hj]; unfold World.cell?; rw [e]⟩⟩
/-- where a block's part begins, ends -/
def fromP (off : Int) (x : Nat) : Int := max (wrap64 (off - wrap64 ((x : Int) * 128))) 0
def toP (e : Int) (x : Nat) : Int := min (wrap64 (e - wrap64 ((x : Int) * 128))) 128
def pieceP (F : FileT) (off e : Int) (x : Nat) : List UInt8 :=
  if toP e x ≤ fromP off x then [] else if atP F.v F.I F.x x = -1 then zs (toP e x - fromP off x).toNat
  else ((F.v.getD (atP F.v F.I F.x x).toNat []).drop (fromP off x).toNat).take (toP e x - fromP off x).toNat
theorem piece_le (F : FileT) (off e : Int) (x : Nat) : (pieceP F off e x).length ≤ 128 := by
  have h1 : 0 ≤ fromP off x := Int.le_max_right _ _
  have h2 : toP e x ≤ 128 := Int.min_le_right _ _
  unfold pieceP
  split
  · simp
  · split
    · rw [zs_len]; omega
    · rw [List.length_take]; omega
theorem flatpc_le {pc : Nat → List UInt8} (h : ∀ x, (pc x).length ≤ 128) (pre : List Nat) : (pre.flatMap pc).length ≤ 128 * pre.length := by
  induction pre with
  | nil => simp
  | cons a l ih => rw [List.flatMap_cons, List.length_append, List.length_cons]; have := h a; omega
/-- the end of what is read -/
def endP (F : FileT) (off size : Int) : Int := if size < sizeP F.x - off then off + size else sizeP F.x
def blocksP (e : Int) : Nat := ((e + 127) / 128).toNat
def readP (F : FileT) (off size : Int) : List UInt8 := (List.range (min (blocksP (endP F off size)) 70)).flatMap (pieceP F off (endP F off size))
set_option maxHeartbeats 4000000 in
set_option maxRecDepth 100000 in
theorem fread_yes (A : Option Addr) (n c : Nat) (v : List (List UInt8)) (I k : Int) (off size : Nat) (w : World) (hv : Strs w A n v) (hg : Good v I) (hk1 : 1 ≤ k) (hk2 : k ≤ I) (hin : (off : Int) < sizeP (fileOf v I k).x) (hsz : (size : Int) ≤ 9223372036854775807) (hend : sizeP (fileOf v I k).x - (off : Int) ≤ (size : Int)) :
    Calls Tryz.prog 51 #[.slice A n c, .int .i64 k, .int .i64 (off : Int), .int .i64 (size : Int)] w fun e w' => e = .returned (.tuple #[.string (str (readP (fileOf v I k) off size)), .int .i64 0]) ∧ Ext w w' := by
  have HO := Lib.hid (fun w h => opened_yes A n c v I k w h hg hk1 hk2)
  have HFO := Lib.hid (fun (B g : Nat) (w : World) (s : Sl) hB hs hbx own => FileIn.of_opened (B := B) (w := w) (g := g) (s := s) hg hk1 hk2 hB hs hbx own)
  have HV := Lib.hid hv
  clear hv hg hk1 hk2
  generalize hG : w.heap.size = G at *
  refine (callsIn_wide (n := 6)).1 ?_
  refine callsIn_of_wp_marks Tryz.func51 rfl trivial ?_ rfl
  simp only [Tryz.ntmps51, List.size_toArray, List.length_cons, List.length_nil, Nat.reduceAdd, Nat.reduceSub, Array.replicate_succ, Array.replicate_zero, List.push_toArray, List.append_toArray, List.nil_append, List.cons_append]
  refine wpIn_wide.2 ?_
  have b6 := Box.new w 3 #[.int .i64 (off : Int)]
  have x6 : Ext w (w.alloc (.cells #[.int .i64 (off : Int)] 3)) := (Ext.refl w).alloc _
  have HV1 := Lib.hid (HV.out.ext x6)
  go_upto_region 1 with fail
  rw [hG] at b6
  have hG6 : G + 1 ≤ (w.alloc (.cells #[.int .i64 (off : Int)] 3)).heap.size := by rw [World.size_alloc, hG]; exact Nat.le_refl _
  generalize w.alloc (.cells #[.int .i64 (off : Int)] 3) = w1 at *
  go_upto_region 2 with (first
    | (go_at_call 99; refine (HO.out _ HV1.out).mono ?_; rintro e w2 ⟨⟨s, rfl, hsn, own2⟩, x2⟩)
    | (refine wp_st_file (.tmp 10) (.tmp 22) rfl rfl w2.heap.size s (fileOf v I k) _ 138 rfl rfl (Box.new _ _ _) rfl ?_; intro w3 b3 g3))
  have xa : Ext w2 (w2.alloc (.cells fileZ 138)) := (Ext.refl w2).alloc _
  have x23 : Ext w2 w3 := xa.grown g3 (fun j e => by cases e; exact Nat.le_refl _)
  have own3 := (own_ext own2 xa).kept g3 (.inr (own_ne (own_ext own2 xa) (Box.new w2 138 fileZ) (by decide)).symm)
  have hF0 := HFO.out w1.heap.size w2.heap.size w3 s x2.size hsn b3 own3
  have HX := Lib.hid (x6.trans (x2.trans x23))
  have b63 := (b6.ext x2).ext x23
  have hle2 := x2.size
  clear HO HFO HV HV1 own2 hsn b3 own3 xa x23 x2 g3 b6 x6
  generalize hg2 : w2.heap.size = g at *
  generalize hFO : fileOf v I k = F at *
  have HFE := Lib.hid hFO
  clear hFO hg2
  obtain ⟨hOk, hBg, b, cap, hbx, own⟩ := hF0
  generalize fileC s ⟨v, I, k, inoAt v k⟩ = fc at *
  have hr := own_strs own
  have HSz := Lib.hid (fun w h => fsize_any g ⟨some ⟨b, 0, none⟩, F.v.length, cap⟩ F w h)
  have hz1 : sizeP F.x ≤ 8960 := by unfold sizeP; omega
  have d1 : decide ((off : Int) < 0) = false := by simp
  have d2 : decide ((size : Int) < 0) = false := by simp
  have hcell6 := b63.cell 0
  have HRD := Lib.hid (show readP F off size = (List.range (min (blocksP (sizeP F.x)) 70)).flatMap (pieceP F off (sizeP F.x)) from by unfold readP endP; rw [if_neg (by omega)])
  generalize hzz : sizeP F.x = z at *
  have d3 : decide (z ≤ (off : Int)) = false := by simp; omega
  have d4 : decide ((size : Int) < z - (off : Int)) = false := by simp; omega
  have w9 : IntKind.i64.wrap (z - (off : Int)) = z - (off : Int) := by rw [IntKind.wrap_i64]; omega
  have w10 : IntKind.i64.wrap (z + 128) = z + 128 := by rw [IntKind.wrap_i64]; omega
  have w11 : IntKind.i64.wrap (z + 128 - 1) = z + 127 := by rw [IntKind.wrap_i64]; omega
  have x34 : Ext w3 (w3.alloc (.cells #[.int .i64 z] 3)) := (Ext.refl w3).alloc _
  have b12 := Box.new w3 3 #[.int .i64 z]
  have b6a := b63.ext x34
  have hbxa := hbx.ext x34
  have c6a : (w3.alloc (.cells #[.int .i64 z] 3)).cell? ⟨G, 0, none⟩ = some (.int .i64 (off : Int)) := b6a.cell 0
  have c12 : (w3.alloc (.cells #[.int .i64 z] 3)).cell? ⟨w3.heap.size, 0, none⟩ = some (.int .i64 z) := b12.cell 0
  go_upto_region 7 with (go_at_call 102; (have hq := HSz.out _ hbx; with_reducible (refine hq.mono ?_)); clear hq; rintro e w6 ⟨rfl, rfl⟩)
  have z12 : (w3.alloc (.cells #[.int .i64 z] 3)).heap.size = w3.heap.size + 1 := World.size_alloc _ _
  have hlt3 := hbx.lt
  have h63 := b63.lt
  have hrr := hr.ext x34
  have HX4 := Lib.hid (HX.out.trans x34)
  have FB := bld_fresh (w3.alloc (.cells #[.int .i64 z] 3))
  rw [z12] at FB
  have hbE : b < w3.heap.size := by
    rcases own.2 with ⟨h, _⟩ | ⟨g', cap', cur, e, _, hh, _⟩
    · cases h
    · injection e with e1 _ _
      injection e1 with e1
      injection e1 with e1 _ _
      subst e1
      exact (Array.getElem?_eq_some_iff.1 hh).1
  go_upto_region 11 with fail
  clear hbx b63 x34 HX hcell6 hr own HSz
  have xB : Ext (w3.alloc (.cells #[.int .i64 z] 3)) ((w3.alloc (.cells #[.int .i64 z] 3)).alloc (.cells #[.pointer none, .slice none 0 0] 148)) := (Ext.refl _).alloc _
  have b12B := b12.ext xB
  have b6B := b6a.ext xB
  have hbxB := hbxa.ext xB
  have hrB := hrr.ext xB
  have HXB := Lib.hid (HX4.out.trans xB)
  have zB : ((w3.alloc (.cells #[.int .i64 z] 3)).alloc (.cells #[.pointer none, .slice none 0 0] 148)).heap.size = w3.heap.size + 2 := by rw [World.size_alloc, z12]
  have hCP : ((z + 127) / 128 : Int) = (blocksP z : Nat) := by unfold blocksP; omega
  have hCT : Int.tdiv (z + 127) 128 = (blocksP z : Nat) := by rw [Int.tdiv_eq_ediv_of_nonneg (by omega)]; exact hCP
  have hC70 : blocksP z ≤ 70 := by unfold blocksP; omega
  generalize hbl : blocksP z = cb at *
  have HFI := Lib.hid (ffirst_any g ⟨some ⟨b, 0, none⟩, F.v.length, cap⟩ F (cb : Int) _ hbxB hrB hOk)
  have c12B := b12B.cell 0
  go_upto_region 12 with fail
  clear xB b12 b6a hbxa hrr HX4 c6a c12 z12
  generalize (w3.alloc (.cells #[.int .i64 z] 3)).alloc (.cells #[.pointer none, .slice none 0 0] 148) = wB at *
  generalize hE : w3.heap.size = E at *
  clear hE w3
  go_wp2_with (go_at_call 104; refine HFI.out.mono ?_; rintro e w5 ⟨⟨b1, b2, rfl, hb1, hb2, le1, le2, ne12⟩, x5⟩)
  refine (wpIn_wide (n := 6)).1 ?_
  gi_wp2_with fail
  have hXE : ∀ W, Below (E + 1) wB W → Ext w W := fun W h => HXB.out.under h (by omega)
  have hBB : ∀ W, Below (E + 1) wB W → Box W G 3 #[.int .i64 (off : Int)] ∧ Box W E 3 #[.int .i64 z] ∧ Box W g 138 (fileC ⟨some ⟨b, 0, none⟩, F.v.length, cap⟩ F) := fun W h =>
    ⟨(h.block G (by omega)).trans b6B, (h.block E (by omega)).trans b12B, (h.block g (by omega)).trans hbxB⟩
  have hSS : ∀ W, Below (E + 1) wB W → Strs W (some ⟨b, 0, none⟩) F.v.length F.v := fun W h => strs_same hrB (h.block b (by omega))
  have x5B : Below (E + 1) wB w5 := Below.mono x5 (by omega)
  have FB5 : BldS (E + 1) (E + 1) [] w5 := BldS.ext (.inl ⟨FB, rfl⟩) x5
  have hs5 := x5.size
  have HAt := Lib.hid (show ∀ x, pieceP F off z x = if toP z x ≤ fromP off x then [] else if atP F.v F.I F.x x = -1 then zs (toP z x - fromP off x).toNat else ((F.v.getD (atP F.v F.I F.x x).toNat []).drop (fromP off x).toNat).take (toP z x - fromP off x).toNat from fun x => rfl)
  have HQ := Lib.hid (fun x (h : atP F.v F.I F.x x ≠ -1) => isB_le (isB_of h))
  have HPC := Lib.hid (piece_le F off z)
  have hGd := Lib.hid hOk.good
  have hdt : (0 : Int) ≤ 3 + (F.I + 1) / 2 := by have := plan_bd hOk.good.plan; omega
  generalize pieceP F off z = pc at *
  generalize atP F.v F.I F.x = f at *
  clear HFI b6B b12B hbxB hrB c12B x5 FB d1 d2 d3 d4 w9 w10 w11 hCP hCT
  refine wpIn_rangeFunc_ownH rfl (by decide) (gf := 152) (lb := #[.pointer (some ⟨b1, 0, none⟩), .pointer (some ⟨b2, 0, none⟩)]) rfl trivial (enters_of Tryz.func152 (by kernel_rfl) rfl)
    (first_stops 5 (by decide) b1 b2 cb f w5 hb1 hb2) KpB.trans KpB.book (Below.refl _ _) (fun _ => rfl)
    (fun pre W => Below (E + 1) wB W ∧ BldS (E + 1) (E + 1) (pre.flatMap pc) W ∧ pre.length ≤ 70 ∧ Box W b1 198 (partC f 70) ∧ Box W b2 3 #[.int .i64 (cb : Int)])
    (fun _ _ _ => False)
    (OwnFrom.and (ownFrom_below (by omega) (by omega)) (OwnFrom.and (Own.from (bldS_own _ _ _) _) (OwnFrom.and (ownFrom_pure _ _) (OwnFrom.and (Own.from (box_own _ _ _) _) (Own.from (box_own _ _ _) _)))))
    (fun _ _ _ _ _ hs _ _ => hs) ⟨x5B, FB5, by simp, hb1, hb2⟩
    (fun x a' W => a' = { tmps := #[.slice A n c, .int .i64 k, .int .i64 (off : Int), .int .i64 (size : Int), undef, undef, .pointer (some ⟨G, 0, none⟩), undef, .string ⟨#[]⟩, .int .i64 0, .pointer (some ⟨g, 0, none⟩), .int .i64 0, .pointer (some ⟨E, 0, none⟩), .pointer (some ⟨E + 1, 0, none⟩), .int .i64 (x : Int), .int .i64 (f x), undef, undef, .tuple #[.agg fc, .int .i64 0], .slice A n c, .int .i64 k, .tuple #[.agg fc, .int .i64 0], .agg fc, .int .i64 0, .int .i64 0, .bool false, undef, .int .i64 (off : Int), .bool false, .bool false, .int .i64 (size : Int), .bool false, .bool false, .int .i64 z, .int .i64 (off : Int), .int .i64 z, .bool false, .int .i64 (size : Int), .int .i64 z, .int .i64 (off : Int), .int .i64 (z - (off : Int)), .bool false, undef, undef, undef, .int .i64 z, .int .i64 (z + 128), .int .i64 (z + 127), .int .i64 (cb : Int), .func (.func 152) #[] #[.pointer (some ⟨b1, 0, none⟩), .pointer (some ⟨b2, 0, none⟩)], .int .i64 (x : Int), .int .i64 (f x), undef, undef, undef, undef, undef, undef, undef, undef, undef, undef, undef, undef, undef, undef, undef, undef, undef, undef, undef, undef, undef, undef, undef, undef, undef, undef, undef, undef, undef, undef], defers := [] })
    (fun x a' _ X Y row hs hg hr => hs) ?assign ?body ?done ?stop
  case assign =>
    rintro l pre x W K ⟨i1, i2, i3, i4, i5⟩ hK
    simp only [benc]
    gi_wp2
    exact hK _ _ (keeps_ext (Ext.refl W)) (KpB.ext (Ext.refl W)) ⟨i1, i2, i3, i4, i5⟩ rfl
  case body =>
    rintro l pre x a' W hl0 ⟨r, hr⟩ ⟨i1, i2, i3, i4, i5⟩ rfl hlt70
    obtain ⟨j1, j2, j3⟩ := hBB W i1
    have c6 : W.cell? ⟨G, 0, none⟩ = some (.int .i64 (off : Int)) := j1.cell 0
    have c12 : W.cell? ⟨E, 0, none⟩ = some (.int .i64 z) := j2.cell 0
    gi_wp2
    -- WEB BEGINS
    refine wpIn_round_web' 12 [[], [], [1], [0, 2], [3], [], [], [6], [5, 7], [8], [4], [9]] (listV [isV (.int .i64 ((off : Int))), isV (.int .i64 ((x : Int))), isV (.int .i64 (wrap64 ((x : Int) * 128))), isV (.int .i64 (wrap64 ((off : Int) - wrap64 ((x : Int) * 128)))), isV (.int .i64 (fromP off x)), isV (.int .i64 (z)), isV (.int .i64 ((x : Int))), isV (.int .i64 (wrap64 ((x : Int) * 128))), isV (.int .i64 (wrap64 (z - wrap64 ((x : Int) * 128)))), isV (.int .i64 (toP z x)), isV (.int .i64 (fromP off x)), isV (.int .i64 (toP z x))]) (by rintro ⟨_, _, h⟩; exact h) (by kernel_rfl) (by kernel_rfl) (by kernel_rfl) (listV_ext (fun p hp => by simp only [List.mem_cons, List.not_mem_nil, or_false] at hp; rcases hp with rfl | rfl | rfl | rfl | rfl | rfl | rfl | rfl | rfl | rfl | rfl | rfl <;> first | exact lasts_is _)) (fun us => ?_)
    simp only [List.take_succ_cons, List.take_zero, List.drop_succ_cons, List.drop_zero]
    rw [webWalk]
    refine And.intro (fun w' hx hd => ?_) ?_
    · clear hd
      have e6 := hx.keep c6
      have e12 := hx.keep c12
      refine web_of_list 52 rfl (by simp) rfl ?_
      go_wp2_with fail
      exact ⟨Ext.refl _, rfl⟩
    simp only [Act.put, List.setIfInBounds_toArray, List.set_cons_zero, List.set_cons_succ]
    rw [webWalk]
    refine And.intro (fun w' hx hd => ?_) ?_
    · clear hd
      refine web_of_list 53 rfl (by simp [Act.put]) rfl ?_
      go_wp2_with fail
      exact ⟨Ext.refl _, rfl⟩
    simp only [Act.put, List.setIfInBounds_toArray, List.set_cons_zero, List.set_cons_succ]
    rw [webWalk]
    refine And.intro (fun w' hx hd => ?_) ?_
    · have h1 := hd 1 (by simp)
      clear hd
      generalize us 1 = u1 at *
      obtain rfl : u1 = .int .i64 ((x : Int)) := h1
      refine web_of_list 54 rfl (by simp [Act.put]) rfl ?_
      go_wp2_with fail
      exact ⟨Ext.refl _, rfl⟩
    simp only [Act.put, List.setIfInBounds_toArray, List.set_cons_zero, List.set_cons_succ]
    rw [webWalk]
    refine And.intro (fun w' hx hd => ?_) ?_
    · have h0 := hd 0 (by simp)
      have h2 := hd 2 (by simp)
      clear hd
      generalize us 0 = u0 at *
      generalize us 2 = u2 at *
      obtain rfl : u0 = .int .i64 ((off : Int)) := h0
      obtain rfl : u2 = .int .i64 (wrap64 ((x : Int) * 128)) := h2
      refine web_of_list 55 rfl (by simp [Act.put]) rfl ?_
      go_wp2_with fail
      exact ⟨Ext.refl _, rfl⟩
    simp only [Act.put, List.setIfInBounds_toArray, List.set_cons_zero, List.set_cons_succ]
    rw [webWalk]
    refine And.intro (fun w' hx hd => ?_) ?_
    · have h3 := hd 3 (by simp)
      clear hd
      generalize us 3 = u3 at *
      obtain rfl : u3 = .int .i64 (wrap64 ((off : Int) - wrap64 ((x : Int) * 128))) := h3
      refine web_of_list 56 rfl (by simp [Act.put]) rfl ?_
      go_wp2_with fail
      exact ⟨Ext.refl _, rfl⟩
    simp only [Act.put, List.setIfInBounds_toArray, List.set_cons_zero, List.set_cons_succ]
    rw [webWalk]
    refine And.intro (fun w' hx hd => ?_) ?_
    · clear hd
      have e6 := hx.keep c6
      have e12 := hx.keep c12
      refine web_of_list 57 rfl (by simp [Act.put]) rfl ?_
      go_wp2_with fail
      exact ⟨Ext.refl _, rfl⟩
    simp only [Act.put, List.setIfInBounds_toArray, List.set_cons_zero, List.set_cons_succ]
    rw [webWalk]
    refine And.intro (fun w' hx hd => ?_) ?_
    · clear hd
      refine web_of_list 58 rfl (by simp [Act.put]) rfl ?_
      go_wp2_with fail
      exact ⟨Ext.refl _, rfl⟩
    simp only [Act.put, List.setIfInBounds_toArray, List.set_cons_zero, List.set_cons_succ]
    rw [webWalk]
    refine And.intro (fun w' hx hd => ?_) ?_
    · have h6 := hd 6 (by simp)
      clear hd
      generalize us 6 = u6 at *
      obtain rfl : u6 = .int .i64 ((x : Int)) := h6
      refine web_of_list 59 rfl (by simp [Act.put]) rfl ?_
      go_wp2_with fail
      exact ⟨Ext.refl _, rfl⟩
    simp only [Act.put, List.setIfInBounds_toArray, List.set_cons_zero, List.set_cons_succ]
    rw [webWalk]
    refine And.intro (fun w' hx hd => ?_) ?_
    · have h5 := hd 5 (by simp)
      have h7 := hd 7 (by simp)
      clear hd
      generalize us 5 = u5 at *
      generalize us 7 = u7 at *
      obtain rfl : u5 = .int .i64 (z) := h5
      obtain rfl : u7 = .int .i64 (wrap64 ((x : Int) * 128)) := h7
      refine web_of_list 60 rfl (by simp [Act.put]) rfl ?_
      go_wp2_with fail
      exact ⟨Ext.refl _, rfl⟩
    simp only [Act.put, List.setIfInBounds_toArray, List.set_cons_zero, List.set_cons_succ]
    rw [webWalk]
    refine And.intro (fun w' hx hd => ?_) ?_
    · have h8 := hd 8 (by simp)
      clear hd
      generalize us 8 = u8 at *
      obtain rfl : u8 = .int .i64 (wrap64 (z - wrap64 ((x : Int) * 128))) := h8
      refine web_of_list 61 rfl (by simp [Act.put]) rfl ?_
      go_wp2_with fail
      exact ⟨Ext.refl _, rfl⟩
    simp only [Act.put, List.setIfInBounds_toArray, List.set_cons_zero, List.set_cons_succ]
    rw [webWalk]
    refine And.intro (fun w' hx hd => ?_) ?_
    · have h4 := hd 4 (by simp)
      clear hd
      generalize us 4 = u4 at *
      obtain rfl : u4 = .int .i64 (fromP off x) := h4
      refine web_of_list 16 rfl (by simp [Act.put]) rfl ?_
      go_wp2_with fail
      exact ⟨Ext.refl _, rfl⟩
    simp only [Act.put, List.setIfInBounds_toArray, List.set_cons_zero, List.set_cons_succ]
    rw [webWalk]
    refine And.intro (fun w' hx hd => ?_) ?_
    · have h9 := hd 9 (by simp)
      clear hd
      generalize us 9 = u9 at *
      obtain rfl : u9 = .int .i64 (toP z x) := h9
      refine web_of_list 17 rfl (by simp [Act.put]) rfl ?_
      go_wp2_with fail
      exact ⟨Ext.refl _, rfl⟩
    simp only [Act.put, List.setIfInBounds_toArray, List.set_cons_zero, List.set_cons_succ]
    rw [webWalk]
    intro w' hx hv
    have h10 := hv 10 (by omega)
    have h11 := hv 11 (by omega)
    clear hv
    generalize us 0 = u0 at *
    generalize us 1 = u1 at *
    generalize us 2 = u2 at *
    generalize us 3 = u3 at *
    generalize us 4 = u4 at *
    generalize us 5 = u5 at *
    generalize us 6 = u6 at *
    generalize us 7 = u7 at *
    generalize us 8 = u8 at *
    generalize us 9 = u9 at *
    generalize us 10 = u10 at *
    generalize us 11 = u11 at *
    obtain rfl : u10 = .int .i64 (fromP off x) := h10
    obtain rfl : u11 = .int .i64 (toP z x) := h11
    have HW := Lib.hid hx
    go_wp2_with fail
    have hpx := HAt.out x
    have hfr0 : 0 ≤ fromP off x := Int.le_max_right _ _
    have hto0 : toP z x ≤ 128 := Int.min_le_right _ _
    have i1' : Below (E + 1) wB w' := Below.trans i1 (Below.mono HW.out (by have := i1.size; omega))
    have i2' := i2.ext HW.out
    have j3' := j3.ext HW.out
    have hpl := flatpc_le HPC.out pre
    have hszW := i1'.size
    clear hx c6 c12 j1 j2 j3
    generalize fromP off x = fr at *
    generalize toP z x = tt at *
    by_cases hc : tt ≤ fr
    · rw [if_pos hc] at hpx
      gi_wp2_with fail
      refine ⟨keeps_ext HW.out, KpB.ext HW.out, i1', ?_, by simp; omega, i4.ext HW.out, i5.ext HW.out⟩
      rw [List.flatMap_append, List.flatMap_singleton, hpx, List.append_nil]
      exact i2'
    rw [if_neg hc] at hpx
    obtain ⟨fa, rfl⟩ : ∃ k : Nat, fr = (k : Int) := ⟨fr.toNat, by omega⟩
    obtain ⟨ta, rfl⟩ : ∃ k : Nat, tt = (k : Int) := ⟨tt.toNat, by omega⟩
    have hlt1 : fa < ta := by omega
    have hlt2 : ta ≤ 128 := by omega
    have hm : ((ta : Int) - (fa : Int)).toNat = ta - fa := by omega
    rw [hm, Int.toNat_natCast] at hpx
    by_cases hq : f x = -1
    · rw [if_pos hq] at hpx
      rw [hq]
      have hw : IntKind.i64.wrap ((ta : Int) - (fa : Int)) = ((ta - fa : Nat) : Int) := by rw [IntKind.wrap_i64]; omega
      have HR := Lib.hid (fun w => repeat_any (ta - fa) w (by omega))
      have HS := Lib.hid (fun w2 (x2 : Ext w' w2) => writeString_keeps (E + 1) (E + 1) (pre.flatMap pc) (zs (ta - fa)) w2 (i2'.ext x2) (by have := x2.size; omega) (by omega) (by simp [zs]; omega))
      have HP := Lib.hid hpx
      clear hpx hq hm
      generalize hmm : ta - fa = m at *
      clear hmm
      gi_wp2_with (first
        | (refine ⟨trivial, ?_⟩; gi_at_call 106; refine (CallsIn.inRound l (callsIn_wide.2 (HR.out _))).mono ?_; rintro e w2 ⟨rfl, x2⟩)
        | (refine ⟨trivial, ?_⟩; gi_at_call 105; refine (CallsIn.inRound l (callsIn_wide.2 (HS.out _ x2))).mono ?_; rintro e w3 ⟨rfl, f3, q3, k3⟩))
      have x12 := HW.out.trans x2
      obtain ⟨cs, hcs⟩ := (i2'.ext x2).isCells
      have k4 := i4.ext x12
      have k5 := i5.ext x12
      have hk := KpB.others k3 (show b1 ≠ E + 1 by omega) (show b2 ≠ E + 1 by omega) (fun cs t e => by rw [show w2.heap[b1]? = _ from k4] at e; cases e; decide) (fun cs t e => by rw [show w2.heap[b2]? = _ from k5] at e; cases e; decide)
      refine ⟨(keeps_ext x12).trans (keeps_others k3 hcs q3.size), (KpB.ext x12).trans hk, (i1'.trans (Below.mono x2 (by omega))).trans q3, ?_, by simp; omega, (hk _ _).1 k4, (hk _ _).2 k5⟩
      rw [List.flatMap_append, List.flatMap_singleton, HP.out]
      exact .inr f3
    rw [if_neg hq] at hpx
    have hqb := HQ.out x hq
    have hss := hSS w' i1'
    have cv : w'.cell? ⟨g, 0, none⟩ = some (.slice (some ⟨b, 0, none⟩) F.v.length cap) := j3'.cell 0
    obtain ⟨b', o', he, hcell⟩ := hss.2 (by omega)
    cases he
    obtain ⟨qn, hqn⟩ : ∃ q : Nat, f x = (q : Int) := ⟨(f x).toNat, by omega⟩
    rw [hqn] at hqb hpx
    rw [hqn]
    have cb : w'.cell? ⟨b, qn, none⟩ = some (.string (str (F.v.getD qn []))) := by have := cell_getD hcell (k := qn) (by omega); rwa [Nat.zero_add] at this
    have hbl : (F.v.getD qn []).length = 128 := getD_len hGd.out (by omega)
    rw [Int.toNat_natCast] at hpx
    clear hcell hss hq
    have hqs : (qn : Int) < (F.v.length : Int) := hqb.2
    generalize F.v.getD qn [] = blk at *
    have hsb : (str blk).size = 128 := by rw [str_size, hbl]
    have HS := Lib.hid (show Calls Tryz.prog 105 #[.pointer (some ⟨E + 1, 0, none⟩), .string ((str blk).extract fa ta)] w' _ from by
      rw [str_ext]
      exact writeString_keeps (E + 1) (E + 1) (pre.flatMap pc) ((blk.drop fa).take (ta - fa)) w' i2' (by omega) (by omega) (by simp; omega))
    have HP := Lib.hid hpx
    clear hpx hm hqn hc hqb
    gi_wp2_with (refine ⟨trivial, ?_⟩; gi_at_call 105; refine (CallsIn.inRound l (callsIn_wide.2 HS.out)).mono ?_; rintro e w3 ⟨rfl, f3, q3, k3⟩)
    have x12 := HW.out
    obtain ⟨cs, hcs⟩ := i2'.isCells
    have k4 := i4.ext x12
    have k5 := i5.ext x12
    have hk := KpB.others k3 (show b1 ≠ E + 1 by omega) (show b2 ≠ E + 1 by omega) (fun cs t e => by rw [show w'.heap[b1]? = _ from k4] at e; cases e; decide) (fun cs t e => by rw [show w'.heap[b2]? = _ from k5] at e; cases e; decide)
    refine ⟨(keeps_ext x12).trans (keeps_others k3 hcs q3.size), (KpB.ext x12).trans hk, i1'.trans q3, ?_, by simp; omega, (hk _ _).1 k4, (hk _ _).2 k5⟩
    rw [List.flatMap_append, List.flatMap_singleton, HP.out]
    exact .inr f3
    -- WEB ENDS
  case done =>
    rintro D ys W hD hys ⟨i1, i2, i3, i4, i5⟩ hK
    subst hys
    have HS := Lib.hid (bldS_string (E + 1) (E + 1) _ W i2 (by have := i1.size; omega))
    have HE := Lib.hid HRD.out
    clear HRD
    have i1s := i1.size
    generalize (List.range (min cb 70)).flatMap pc = R at *
    gi_wp2_with fail
    go_wp2_with (go_at_call 107; refine HS.out.mono ?_; rintro e w6 ⟨rfl, q6, k6⟩)
    obtain ⟨cs, hcs⟩ := i2.isCells
    have hK6 := (keeps_others (B := E + 1) k6 hcs q6.size).2 D _ (by omega) hK rfl
    refine ⟨by simp, .inl ⟨_, _, rfl, run_takeDeferred hK6, ?_⟩⟩
    exact ⟨_, results_tmp2 rfl _ _ _, by rw [HFE.out, HE.out]; simp, (hXE _ (i1.trans q6)).putObj (.deferred none) hK6 (by have := HXB.out.size; omega)⟩
  case stop =>
    rintro D c pre W hD _ h
    exact h.elim
end Go.Proofs.YtkokmnaicfdjaaaGreatDoor
/- extent.Read: behind the file's end; of no inode; from the beginning. -/
namespace Go.Proofs.YtkokmnaicfdjaaaGreatDoor
set_option linter.unusedVariables false
set_option linter.unusedSimpArgs false
open Go.RowKit Go.Shelf

set_option maxHeartbeats 4000000 in
set_option maxRecDepth 100000 in
theorem fread_past (A : Option Addr) (n c : Nat) (v : List (List UInt8)) (I k : Int) (off size : Nat) (w : World) (hv : Strs w A n v) (hg : Good v I) (hk1 : 1 ≤ k) (hk2 : k ≤ I) (hin : sizeP (fileOf v I k).x ≤ (off : Int)) :
    Calls Tryz.prog 51 #[.slice A n c, .int .i64 k, .int .i64 (off : Int), .int .i64 (size : Int)] w fun e w' => e = .returned (.tuple #[.string (str []), .int .i64 0]) ∧ Ext w w' := by
  have HO := Lib.hid (fun w h => opened_yes A n c v I k w h hg hk1 hk2)
  have HFO := Lib.hid (fun (B g : Nat) (w : World) (s : Sl) hB hs hbx own => FileIn.of_opened (B := B) (w := w) (g := g) (s := s) hg hk1 hk2 hB hs hbx own)
  have HV := Lib.hid hv
  clear hv hg hk1 hk2
  generalize hG : w.heap.size = G at *
  go_enter Tryz.func51, Tryz.ntmps51
  have b6 := Box.new w 3 #[.int .i64 (off : Int)]
  have x6 : Ext w (w.alloc (.cells #[.int .i64 (off : Int)] 3)) := (Ext.refl w).alloc _
  have HV1 := Lib.hid (HV.out.ext x6)
  go_upto_region 1 with fail
  rw [hG] at b6
  have hG6 : G + 1 ≤ (w.alloc (.cells #[.int .i64 (off : Int)] 3)).heap.size := by rw [World.size_alloc, hG]; exact Nat.le_refl _
  generalize w.alloc (.cells #[.int .i64 (off : Int)] 3) = w1 at *
  go_upto_region 2 with (first
    | (go_at_call 99; refine (HO.out _ HV1.out).mono ?_; rintro e w2 ⟨⟨s, rfl, hsn, own2⟩, x2⟩)
    | (refine wp_st_file (.tmp 10) (.tmp 22) rfl rfl w2.heap.size s (fileOf v I k) _ 138 rfl rfl (Box.new _ _ _) rfl ?_; intro w3 b3 g3))
  have xa : Ext w2 (w2.alloc (.cells fileZ 138)) := (Ext.refl w2).alloc _
  have x23 : Ext w2 w3 := xa.grown g3 (fun j e => by cases e; exact Nat.le_refl _)
  have own3 := (own_ext own2 xa).kept g3 (.inr (own_ne (own_ext own2 xa) (Box.new w2 138 fileZ) (by decide)).symm)
  have hF0 := HFO.out w1.heap.size w2.heap.size w3 s x2.size hsn b3 own3
  have HX := Lib.hid (x6.trans (x2.trans x23))
  have b63 := (b6.ext x2).ext x23
  have hle2 := x2.size
  clear HO HFO HV HV1 own2 hsn b3 own3 xa x23 x2 g3 b6 x6
  generalize hg2 : w2.heap.size = g at *
  generalize hFO : fileOf v I k = F at *
  have HFE := Lib.hid hFO
  clear hFO hg2
  obtain ⟨hOk, hBg, b, cap, hbx, own⟩ := hF0
  generalize fileC s ⟨v, I, k, inoAt v k⟩ = fc at *
  have hr := own_strs own
  have HSz := Lib.hid (fun w h => fsize_any g ⟨some ⟨b, 0, none⟩, F.v.length, cap⟩ F w h)
  have hz1 : sizeP F.x ≤ 8960 := by unfold sizeP; omega
  have d1 : decide ((off : Int) < 0) = false := by simp
  have d2 : decide ((size : Int) < 0) = false := by simp
  have hcell6 := b63.cell 0
  generalize hzz : sizeP F.x = z at *
  have d3 : decide (z ≤ (off : Int)) = true := by simp; omega
  have x34 : Ext w3 (w3.alloc (.cells #[.int .i64 z] 3)) := (Ext.refl w3).alloc _
  have b12 := Box.new w3 3 #[.int .i64 z]
  have b6a := b63.ext x34
  have c6a : (w3.alloc (.cells #[.int .i64 z] 3)).cell? ⟨G, 0, none⟩ = some (.int .i64 (off : Int)) := b6a.cell 0
  have c12 : (w3.alloc (.cells #[.int .i64 z] 3)).cell? ⟨w3.heap.size, 0, none⟩ = some (.int .i64 z) := b12.cell 0
  have HX4 := Lib.hid (HX.out.trans x34)
  go_wp2_with (go_at_call 102; (have hq := HSz.out _ hbx; with_reducible (refine hq.mono ?_)); clear hq; rintro e w6 ⟨rfl, rfl⟩)
  go_ret2
  exact ⟨rfl, HX4.out⟩
set_option maxHeartbeats 1000000 in
set_option maxRecDepth 100000 in
theorem fread_no (A : Option Addr) (n c : Nat) (v : List (List UInt8)) (I k off size : Int) (w : World) (hv : Strs w A n v) (hg : Good v I) (hk : k < 1 ∨ I < k) :
    Calls Tryz.prog 51 #[.slice A n c, .int .i64 k, .int .i64 off, .int .i64 size] w fun e w' => e = .returned (.tuple #[.string (str []), .int .i64 2]) ∧ Ext w w' := by
  have HO := Lib.hid (fun w h => opened_no A n c v I k w h hg hk)
  have x6 : Ext w (w.alloc (.cells #[.int .i64 off] 3)) := (Ext.refl w).alloc _
  have HV1 := Lib.hid (hv.ext x6)
  clear hv
  go_enter Tryz.func51, Tryz.ntmps51
  go_upto_region 1 with fail
  generalize w.alloc (.cells #[.int .i64 off] 3) = w1 at *
  go_wp2_with (first
    | (go_at_call 99; refine (HO.out _ HV1.out).mono ?_; rintro e w2 ⟨rfl, x2⟩)
    | (refine wp_st_fileZ (.tmp 10) (.tmp 22) rfl rfl w2.heap.size _ 138 rfl rfl (Box.new _ _ _) rfl ?_; intro w3 b3 g3))
  go_ret2
  exact ⟨rfl, x6.trans (x2.trans (((Ext.refl w2).alloc (.cells fileZ 138)).grown g3 (fun j e => by cases e; exact Nat.le_refl _)))⟩
/-- all bytes of a file -/
def dataP (v : List (List UInt8)) (I k : Int) : List UInt8 := readP (fileOf v I k) 0 8960
theorem data_none {v : List (List UInt8)} {I k : Int} (h : sizeP (fileOf v I k).x ≤ 0) : dataP v I k = [] := by
  unfold dataP readP endP
  rw [if_neg (by omega), show blocksP (sizeP (fileOf v I k).x) = 0 by unfold blocksP; omega]
  rfl
theorem fread_all (A : Option Addr) (n c : Nat) (v : List (List UInt8)) (I k : Int) (w : World) (hv : Strs w A n v) (hg : Good v I) (hk1 : 1 ≤ k) (hk2 : k ≤ I) :
    Calls Tryz.prog 51 #[.slice A n c, .int .i64 k, .int .i64 0, .int .i64 8960] w fun e w' => e = .returned (.tuple #[.string (str (dataP v I k)), .int .i64 0]) ∧ Ext w w' := by
  by_cases h : sizeP (fileOf v I k).x ≤ 0
  · rw [data_none h]
    exact fread_past A n c v I k 0 8960 w hv hg hk1 hk2 (by simpa using h)
  · exact fread_yes A n c v I k 0 8960 w hv hg hk1 hk2 (by simp; omega) (by simp) (by unfold sizeP; simp; omega)
theorem data_len (v : List (List UInt8)) (I k : Int) : (dataP v I k).length ≤ 8960 := by
  unfold dataP readP
  have := flatpc_le (piece_le (fileOf v I k) ((0 : Nat) : Int) (endP (fileOf v I k) ((0 : Nat) : Int) ((8960 : Nat) : Int))) (List.range (min (blocksP (endP (fileOf v I k) ((0 : Nat) : Int) ((8960 : Nat) : Int))) 70))
  rw [List.length_range] at this
  refine Nat.le_trans ?_ (Nat.le_trans this (by omega))
  exact Nat.le_refl _
end Go.Proofs.YtkokmnaicfdjaaaGreatDoor
/- Plain: what is written into a new file is read there. -/
namespace Go.Proofs.YtkokmnaicfdjaaaGreatDoor
set_option linter.unusedVariables false
set_option linter.unusedSimpArgs false
open Go.RowKit Go.Shelf

theorem wrap64_small {z : Int} (h0 : -9223372036854775808 ≤ z) (h1 : z < 9223372036854775808) : wrap64 z = z := by
  unfold wrap64; omega
/-- the bytes of a file of one block -/
theorem data_one {v : List (List UInt8)} {I n : Int} {i : Nat} {d : List UInt8} (hs : (inoAt v n).getD 3 0 = (d.length : Int)) (hd : d.length ≤ 128) (hd0 : d ≠ []) (h4 : (inoAt v n).getD 4 0 = (i : Int)) (hi : isB v I (i : Int) = true)
    (hb : (v.getD i []).take d.length = d) : dataP v I n = d := by
  have hl : 0 < d.length := List.length_pos_iff.2 hd0
  have hx : (fileOf v I n).x = inoAt v n := rfl
  have hv : (fileOf v I n).v = v := rfl
  have hI : (fileOf v I n).I = I := rfl
  have hat : atP v I (inoAt v n) 0 = (i : Int) := atP_yes (by unfold numAt; rw [if_pos (by omega)]; exact h4) hi
  unfold dataP readP endP
  have hsp : sizeP (inoAt v n) = (d.length : Int) := by unfold sizeP; rw [hs, Int.min_eq_left (by omega)]
  rw [hx, hsp, if_neg (by omega), show blocksP (d.length : Int) = 1 by unfold blocksP; omega]
  have ep : pieceP (fileOf v I n) 0 (d.length : Int) 0 = d := by
    have e1 : toP (d.length : Int) 0 = (d.length : Int) := by
      unfold toP
      rw [wrap64_small (z := ((0 : Nat) : Int) * 128) (by simp) (by simp), wrap64_small (by omega) (by omega)]
      omega
    have e2 : fromP 0 0 = 0 := by
      unfold fromP
      rw [wrap64_small (z := ((0 : Nat) : Int) * 128) (by simp) (by simp), wrap64_small (by simp) (by simp)]
      simp
    unfold pieceP
    rw [e1, e2, if_neg (by omega), hx, hv, hI, hat, if_neg (by omega)]
    simp only [Int.toNat_natCast, Int.sub_zero, List.drop_zero, Int.toNat_zero]
    exact hb
  rw [show min 1 70 = 1 from rfl]
  simp only [List.range_succ, List.range_zero, List.nil_append, List.flatMap_cons, List.flatMap_nil, List.append_nil]
  exact ep
theorem overL_zero (b d : List UInt8) : (overL b 0 d).take d.length = d := by
  unfold overL
  simp
theorem read_back {v : List (List UInt8)} {I n o : Int} {d : List UInt8} (hg : Good v I) (h1 : 1 ≤ n) (h2 : n ≤ I) (hx : inoAt v n = [1, 1, o, 0, 0, 0, 0, 0, 0, 0, 0, 0]) (hd : d.length ≤ 100) (h0 : (writeP v I n 0 d).2 = 0) :
    dataP (writeP v I n 0 d).1 I n = d ∧ (inoAt (writeP v I n 0 d).1 n).getD 0 0 = 1 := by
  have hF := FileOk.of hg h1 h2
  by_cases hd0 : d = []
  · subst hd0
    have e : writeP v I n 0 [] = (v, 0) := by
      unfold writeP
      rw [wr_done (by simp)]
      simp [fileOf]
    rw [e]
    refine ⟨data_none ?_, by rw [hx]; rfl⟩
    show sizeP (inoAt v n) ≤ 0
    rw [hx]; exact Int.min_le_left _ _
  have hl : 0 < d.length := List.length_pos_iff.2 hd0
  have hpl := plan_bd hg.plan
  have hat : atP (fileOf v I n).v (fileOf v I n).I (fileOf v I n).x 0 = -1 := by
    show atP v I (inoAt v n) 0 = -1
    rw [hx]
    exact atP_no (b := 0) rfl (by unfold isB; simp; omega)
  have hw : (fileOf v I n).withInd 0 = some (fileOf v I n) := by unfold FileT.withInd; rw [if_neg (by omega)]
  cases ht : takeI v I with
  | none =>
    exfalso
    have hp := placed_full2 hat hw ht
    have := wr_full (off := 0) (d := d) (p := 0) (F := fileOf v I n) (by omega) (by rw [Nat.zero_div, hp]; simp)
    unfold writeP at h0
    rw [this, Nat.zero_div, hp] at h0
    simp at h0
  | some i =>
    have hp := placed_new hat hw ht
    obtain ⟨t1, t2, _⟩ := takeI_some ht
    unfold dataOf at t1
    have hi := take_lt hg ht
    have hR := wr_on (off := 0) (d := d) (p := 0) (F := fileOf v I n) (by omega) (by rw [Nat.zero_div, hp])
    rw [Nat.zero_div, hp] at hR
    simp only [Int.toNat_natCast, Nat.zero_mod, Nat.sub_zero, Nat.zero_add, List.drop_zero] at hR
    rw [Nat.min_eq_right (by omega), List.take_length, wr_done (p := d.length) (by omega)] at hR
    have hT := hF.took ht
    obtain ⟨hN, fN⟩ := hT.named (k := 0) (by omega) (b := (i : Int)) (by omega) (by omega)
    have fT := (Frm.took (fileOf v I n) ht).trans fN
    have hL := hN.lay (q := i) (p := 0) (d := d) (by omega) (by rw [fT.len]; exact t2) (by omega)
    have hLx : ((((fileOf v I n).took i).named 0 (i : Int)).lay i 0 d).x = [1, 1, o, 0, (i : Int), 0, 0, 0, 0, 0, 0, 0] := by
      show (((fileOf v I n).took i).named 0 (i : Int)).x = _
      unfold FileT.named
      rw [if_pos (by omega)]
      show (inoAt v n).set 4 (i : Int) = _
      rw [hx]; rfl
    have hLb : ((((fileOf v I n).took i).named 0 (i : Int)).lay i 0 d).v.getD i [] = overL ((((fileOf v I n).took i).named 0 (i : Int)).v.getD i []) 0 d := getD_set_eq' _ _ (by rw [fT.len]; exact t2)
    have hLl : ((((fileOf v I n).took i).named 0 (i : Int)).lay i 0 d).v.length = v.length := by rw [lay_v_len]; exact fT.len
    have hLI : ((((fileOf v I n).took i).named 0 (i : Int)).lay i 0 d).I = I := fT.I
    have hLn : ((((fileOf v I n).took i).named 0 (i : Int)).lay i 0 d).n = n := fT.n
    have hov := overL_zero ((((fileOf v I n).took i).named 0 (i : Int)).v.getD i []) d
    rw [← hLb] at hov
    generalize (((fileOf v I n).took i).named 0 (i : Int)).lay i 0 d = L at *
    have hW : writeP v I n 0 d = ((L.setX 3 (d.length : Int)).keep.v, 0) := by
      unfold writeP
      rw [hR]
      simp only [ne_eq, not_true_eq_false, if_false]
      rw [if_pos ⟨hd0, by rw [hLx]; simp only [Nat.zero_add]; unfold sizeP; simp; omega⟩]
      simp only [Nat.zero_add]
    rw [hW]
    have h5 := hL.setX (j := 3) (by omega) (by omega) (b := (d.length : Int)) (by omega) (by omega)
    have hino : inoAt (L.setX 3 (d.length : Int)).keep.v n = (L.setX 3 (d.length : Int)).x := by
      show inoAt (putAt L.v L.n (L.setX 3 (d.length : Int)).x) n = _
      rw [hLn]
      have g := hL.good
      rw [hLI] at g
      exact inoAt_put_eq g h1 h2 h5.len h5.fits
    have hxx : (L.setX 3 (d.length : Int)).x = [1, 1, o, (d.length : Int), (i : Int), 0, 0, 0, 0, 0, 0, 0] := by
      show L.x.set 3 _ = _
      rw [hLx]; rfl
    have hgi : (L.setX 3 (d.length : Int)).keep.v.getD i [] = L.v.getD i [] := by
      show (putAt L.v L.n _).getD i [] = _
      rw [hLn]
      unfold putAt
      exact getD_set_ne' _ _ (by omega)
    have hlen : (L.setX 3 (d.length : Int)).keep.v.length = v.length := by
      rw [keep_v_len]; exact hLl
    refine ⟨?_, by show (inoAt (L.setX 3 (d.length : Int)).keep.v n).getD 0 0 = 1; rw [hino, hxx]; rfl⟩
    show dataP (L.setX 3 (d.length : Int)).keep.v I n = d
    refine data_one (i := i) (by rw [hino, hxx]; rfl) (by omega) hd0 (by rw [hino, hxx]; rfl) ?_ (by rw [hgi]; exact hov)
    unfold isB
    rw [hlen]
    simp; omega
end Go.Proofs.YtkokmnaicfdjaaaGreatDoor
