/- The walk of inode.written. -/
import Derived.Test.YtmcoepkopfcbdaaMf3
import Derived.Test.YtmcoepkopfcbdaaMf2
import Derived.Laws.Rows
namespace Go.Proofs.Ytmcoepkopfcbdaa
open Go.RowKit Go.Shelf
attribute [local go_sem] Oper.semAt_some

theorem KpF.grown {A w w' : World} {base size n : Nat} {e : TypeId} {v : Value} {xs : List Value} (h : KpF A w) (ho : w.ownsRow base e size v n xs) (hg : w.grownBy w' v.ownBlock) (h1 : e ≠ 124) (h2 : e ≠ 121) : KpF A w' := by
  intro b cs t hb ht
  have k := h b cs t hb ht
  refine Box.grown k hg (own_ne ho k ?_)
  rcases ht with rfl | rfl
  · exact h1
  · exact h2
/-- the bytes of some fields -/
def bytesF (x : List Int) (pre : List (Fin 12)) : List UInt8 := pre.flatMap fun k => putL (x.getD (fplace k) 0) (fsize k).toNat
theorem bytesF_snoc (x : List Int) (pre : List (Fin 12)) (k : Fin 12) : bytesF x (pre ++ [k]) = bytesF x pre ++ putL (x.getD (fplace k) 0) (fsize k).toNat := by simp [bytesF]
theorem bytesF_len (x : List Int) (pre : List (Fin 12)) : (bytesF x pre).length ≤ 4 * pre.length := by
  induction pre with
  | nil => simp [bytesF]
  | cons k l ih =>
    have := fsize_is k
    have e : bytesF x (k :: l) = putL (x.getD (fplace k) 0) (fsize k).toNat ++ bytesF x l := by simp [bytesF]
    rw [e, List.length_append, putL_len, List.length_cons]; omega
/-- the 24 bytes of an inode -/
def inoB (x : List Int) : List UInt8 := bytesF x allF
theorem inoB_len (x : List Int) : (inoB x).length = 24 := by
  simp only [inoB, bytesF, allF, List.flatMap_cons, List.flatMap_nil, List.length_append, putL_len, List.length_nil]; rfl
def zero24 : Array Value := Array.replicate 24 (.int .u8 0)
theorem make24 (w : World) : (Instr.makeSlice 22 (.int .i64 0) (.int .i64 24)).run Try.prog w = .ok (.slice (some ⟨w.heap.size, 0, none⟩) 0 24) (w.alloc (.cells zero24 5)) := by kernel_rfl
/-- a block with other bytes from the place p on -/
def overL (b : List UInt8) (p : Nat) (s : List UInt8) : List UInt8 := b.take p ++ s ++ b.drop (p + s.length)
theorem overL_len (b : List UInt8) (p : Nat) (s : List UInt8) (h : p + s.length ≤ b.length) : (overL b p s).length = b.length := by simp [overL]; omega
set_option maxHeartbeats 1000000 in
set_option maxRecDepth 100000 in
theorem written_any (b o n c : Nat) (B I k : Int) (v : List (List UInt8)) (x : List Int) (w : World) (hk1 : 1 ≤ k) (hk2 : k ≤ 64) (hn : n = v.length) (hn2 : n ≤ 1000) (hq : 3 + (k - 1) / 2 < n)
    (hc : ∀ (j : Nat) (h : j < v.length), w.cell? ⟨b, o + j, none⟩ = some (.string (str v[j]))) (hl : (v.getD (3 + (k - 1) / 2).toNat []).length = 128) (hx : x.length = 12) (hf : fitsB x = true) :
    Calls Try.prog 57 #[.slice (some ⟨b, o, none⟩) n c, geomV B I, .int .i64 k, inoV x] w fun e w' => ∃ u, e = .returned u ∧ Ext w w' ∧
      w'.ownsRow w.heap.size 9 1 u n (strL (v.set (3 + (k - 1) / 2).toNat (overL (v.getD (3 + (k - 1) / 2).toNat []) ((k - 1) % 2 * 64).toNat (inoB x)))) := by
  subst hn
  have HP := Lib.hid (fun w => callsIn_wide (n := 5).2 (place_any B I k w hk1 hk2))
  have hkq : 0 ≤ 3 + (k - 1) / 2 ∧ 0 ≤ (k - 1) % 2 * 64 ∧ (k - 1) % 2 * 64 ≤ 64 := by omega
  generalize 3 + (k - 1) / 2 = q at *
  generalize (k - 1) % 2 * 64 = p0 at *
  have hmk := make24
  refine (callsIn_wide (n := 6)).1 ?_
  refine callsIn_of_wp_marks Try.func57 rfl trivial ?_ rfl
  simp only [Try.ntmps57, List.size_toArray, List.length_cons, List.length_nil, Nat.reduceAdd, Nat.reduceSub, Array.replicate_succ, Array.replicate_zero, List.push_toArray, List.append_toArray, List.nil_append, List.cons_append]
  unfold geomV at HP ⊢
  unfold inoV
  gi_wp2_with (first
    | (refine ⟨trivial, ?_⟩; gi_at_call 86; refine (HP.out _).mono ?_; rintro e w1 ⟨rfl, x1⟩)
    | (refine ⟨trivial, ?_⟩; gi_at_call 85; refine (callsIn_wide.2 (fields_any _ _)).mono ?_; rintro e w2 ⟨rfl, rfl⟩))
  obtain ⟨p, rfl⟩ := Int.eq_ofNat_of_zero_le hkq.2.1
  obtain ⟨q, rfl⟩ := Int.eq_ofNat_of_zero_le hkq.1
  have hp64 : p ≤ 64 := by omega
  have HC := Lib.hid hc
  have HL := Lib.hid hl
  have HFI := Lib.hid hf
  clear hmk hc hkq hl hf
  have xw1 : Ext w w1 := (((Ext.refl w).alloc _).alloc _).trans x1
  have s1 := x1.size
  simp only [World.size_alloc] at s1
  have bX1 : Box w1 (w.heap.size + 1) 49 (intVals x) := by have := (Box.new (w.alloc (.cells #[.int .i64 B, .int .i64 I, .int .i64 1, .int .i64 2, .int .i64 3, .int .i64 (3 + (I + 1) / 2)] 66)) 49 (intVals x)).ext x1; simpa only [World.size_alloc] using this
  clear x1 HP
  have b7 := Box.new w1 5 zero24
  have x2 : Ext w1 (w1.alloc (.cells zero24 5)) := (Ext.refl _).alloc _
  have z2 : (w1.alloc (.cells zero24 5)).heap.size = w1.heap.size + 1 := World.size_alloc _ _
  generalize w1.alloc (.cells zero24 5) = w2 at b7 x2 z2 ⊢
  have b8 := Box.new w2 22 #[.slice (some ⟨w1.heap.size, 0, none⟩) 0 24]
  have x3 : Ext w2 (w2.alloc (.cells #[.slice (some ⟨w1.heap.size, 0, none⟩) 0 24] 22)) := (Ext.refl _).alloc _
  have z3 : (w2.alloc (.cells #[.slice (some ⟨w1.heap.size, 0, none⟩) 0 24] 22)).heap.size = w1.heap.size + 1 + 1 := by rw [World.size_alloc, z2]
  rw [z2] at b8
  generalize w2.alloc (.cells #[.slice (some ⟨w1.heap.size, 0, none⟩) 0 24] 22) = w3 at b8 x3 z3 ⊢
  have bN := Box.new w3 121 #[.pointer (some ⟨w.heap.size + 1, 0, none⟩)]
  have x4 : Ext w3 (w3.alloc (.cells #[.pointer (some ⟨w.heap.size + 1, 0, none⟩)] 121)) := (Ext.refl _).alloc _
  rw [z3] at bN
  generalize w3.alloc (.cells #[.pointer (some ⟨w.heap.size + 1, 0, none⟩)] 121) = W0 at bN x4 ⊢
  have y := x2.trans (x3.trans x4)
  replace b7 := b7.ext (x3.trans x4)
  replace b8 := b8.ext x4
  have bX := bX1.ext y
  have X0 := xw1.trans y
  clear x2 x3 x4 z2 z3 xw1 y bX1
  generalize hG7 : w1.heap.size = G7 at *
  generalize hGV : w.heap.size = GV at *
  clear hG7 w1
  have zN := bN.lt
  have own0 : W0.ownsRow GV 5 1 (.slice (some ⟨G7, 0, none⟩) 0 24) 0 (byteL []) := ⟨rfl, .inr ⟨G7, 24, zero24, rfl, by omega, b7, by omega, by unfold maxLen; omega, rfl, rfl⟩⟩
  refine wpIn_rangeFunc_ownH rfl (by decide) (gf := 100) (lb := #[.pointer (some ⟨G7 + 1 + 1, 0, none⟩)]) rfl trivial (enters_of Try.func100 (by kernel_rfl) rfl)
    (fields_stops 5 (by decide) (G7 + 1 + 1) (GV + 1) W0 bN) KpF.trans KpF.book (Below.refl _ _) (fun _ => rfl)
    (fun pre W => Ext w W ∧ Box W (GV + 1) 49 (intVals x) ∧ (∃ val, Boxed W (G7 + 1) 22 val ∧ W.ownsRow GV 5 1 val (bytesF x pre).length (byteL (bytesF x pre)) ∧ True))
    (fun _ _ _ => False)
    (OwnFrom.and (ext_own (hGV ▸ by omega)) (OwnFrom.and (Own.from (box_own _ _ _) _) (Own.from (holdsRow_own GV (G7 + 1) 22 5 1 (fun pre => (bytesF x pre).length) (fun pre => byteL (bytesF x pre)) (fun _ _ => True)) _)))
    (fun _ _ _ _ _ hs _ _ => hs) ⟨X0, bX, ⟨_, b8, own0, trivial⟩⟩
    (fun f a' W => ∃ Bx, Box W Bx 124 #[.int .i64 (fsize f), .pointer (some ⟨GV + 1, fplace f, none⟩)] ∧ a' = { tmps := #[.slice (some ⟨b, o, none⟩) v.length c, .agg #[.int .i64 B, .int .i64 I, .int .i64 1, .int .i64 2, .int .i64 3, .int .i64 (3 + (I + 1) / 2)], .int .i64 k, .agg (intVals x), undef, .pointer (some ⟨GV, 0, none⟩), undef, .pointer (some ⟨GV + 1, 0, none⟩), .slice none 0 0, .int .i64 (q : Int), .int .i64 (p : Int), .pointer (some ⟨G7 + 1, 0, none⟩), .pointer (some ⟨Bx, 0, none⟩), undef, .tuple #[.int .i64 (q : Int), .int .i64 (p : Int)], .agg #[.int .i64 B, .int .i64 I, .int .i64 1, .int .i64 2, .int .i64 3, .int .i64 (3 + (I + 1) / 2)], .int .i64 k, .tuple #[.int .i64 (q : Int), .int .i64 (p : Int)], .int .i64 (q : Int), .int .i64 (p : Int), .slice (some ⟨G7, 0, none⟩) 0 24, .func (.func 100) #[] #[.pointer (some ⟨G7 + 1 + 1, 0, none⟩)], .agg #[.int .i64 (fsize f), .pointer (some ⟨GV + 1, fplace f, none⟩)], undef, undef, undef, undef, undef, undef, undef, undef, undef, undef, undef, undef, undef, undef, undef, undef, undef, undef, undef, undef, undef, undef, undef, undef, undef, undef, undef, undef, undef, undef, undef, undef, undef], defers := [] })
    (fun x a' _ X Y row hs hg hr => ?hAx) ?assign ?body ?done ?stop
  case hAx =>
    obtain ⟨Bx, hb, rfl⟩ := hs
    exact ⟨Bx, Own.from (box_own Bx _ (fun (_ : Unit) => _)) _ () X Y row hb hg hr, rfl⟩
  case assign =>
    rintro l pre k W K ⟨i1, i2, val, i3, i4, _⟩ hK
    simp only [fenc]
    gi_wp2
    have xx : Ext W (W.alloc (.cells #[.int .i64 (fsize k), .pointer (some ⟨GV + 1, fplace k, none⟩)] 124)) := (Ext.refl W).alloc _
    exact hK _ _ (keeps_ext xx) (KpF.ext xx) ⟨i1.trans xx, i2.ext xx, val, Box.ext i3 xx, own_ext i4 xx, trivial⟩ ⟨W.heap.size, Box.new _ _ _, rfl⟩
  case body =>
    rintro l pre f a' W hl0 ⟨r, hr⟩ ⟨i1, i2, val, i3, i4, _⟩ ⟨Bx, bx, rfl⟩ hlt
    have hfp := fplace_lt f
    have f0 : ∀ y : Later W, y.now.cell? ⟨Bx, 0, none⟩ = some (.int .i64 (fsize f)) := fun y => (bx.ext y.ext).cell 0
    have f1 : ∀ y : Later W, y.now.cell? ⟨Bx, 1, none⟩ = some (.pointer (some ⟨GV + 1, fplace f, none⟩)) := fun y => (bx.ext y.ext).cell 1
    have fv : ∀ y : Later W, y.now.cell? ⟨GV + 1, fplace f, none⟩ = some (.int .i64 (x.getD (fplace f) 0)) := fun y => (i2.ext y.ext).at _ (by omega)
    have fb : ∀ y : Later W, y.now.cell? ⟨G7 + 1, 0, none⟩ = some val := fun y => (Box.ext i3 y.ext).cell 0
    have hfit := (List.all_eq_true.1 HFI.out) f (mem_allF f)
    have hsn := Lib.hid (bytesF_snoc x pre f)
    have hbl := bytesF_len x pre
    have hz := fsize_is f
    unfold fitF at hfit
    simp only [decide_eq_true_eq] at hfit
    generalize bytesF x pre = bs at *
    generalize x.getD (fplace f) 0 = v0 at *
    generalize fsize f = z at *
    generalize fplace f = fp at *
    obtain ⟨hv0, hv1⟩ := hfit
    have hv2 : v0 < 4294967296 := by rcases hz with rfl | rfl | rfl <;> simp at hv1 <;> omega
    have HPut := Lib.hid (fun w => put_z v0 z w hz hv0 hv1)
    have u1 : IntKind.u64.wrap v0 = v0 := by rw [IntKind.wrap_u64]; omega
    clear hv1
    gi_wp2
    refine wpIn_round_later_tail 9 (by rintro ⟨_, _, h⟩; exact h) (by kernel_rfl) (by kernel_rfl) (by kernel_rfl) ?_
    simp only [List.take_succ_cons, List.take_zero, List.drop_succ_cons, List.drop_zero]
    repeat (go_big_quiet_step ((exact later_of (HPut.out _))))
    refine wpQuiet_nil ?_
    rintro w2 ⟨y, rfl⟩
    clear f0 f1 fv fb HPut u1
    have j4 := own_ext i4 y.ext
    have j3 : Box y.now (G7 + 1) 22 #[val] := Box.ext i3 y.ext
    have hpl := putL_len v0 z.toNat
    generalize putL v0 z.toNat = ps at *
    have hpl1 : 1 ≤ ps.length ∧ ps.length ≤ 4 := by omega
    clear hpl
    refine wp_app_str rfl (.tmp 23) (.tmp 31) rfl rfl rfl j4 (by omega) (by have := (i1.trans y.ext).size; omega) ?_
    intro v' w5 own5 hg5
    have k3 := j3.grown hg5 (own_ne j4 j3 (by decide))
    have k2 := (i2.ext y.ext).grown hg5 (own_ne j4 (i2.ext y.ext) (by decide))
    have k1 : Ext w w5 := (i1.trans y.ext).grown hg5 (fun k hk => by have := own_low j4 hk; omega)
    have kk : KpF W w5 := (KpF.ext y.ext).grown j4 hg5 (by decide) (by decide)
    have kf : KeepsFrom W0.heap.size W w5 := (keeps_ext y.ext).trans (own_keeps j4 hg5)
    obtain ⟨g', cap', rfl⟩ : ∃ g' cap', v' = .slice (some ⟨g', 0, none⟩) (bs.length + ps.length) cap' := by
      rcases own5.2 with ⟨_, h0⟩ | ⟨g, cap, cur, h, _⟩
      · omega
      · exact ⟨g, cap, h⟩
    have c3 : w5.cell? ⟨G7 + 1, 0, none⟩ = some val := k3.cell 0
    have c3f := k3.frozen 0
    have hne := own_ne own5 k3 (by decide)
    go_wp2_with fail
    refine ⟨kf.trans ((KeepsOthers.setCell _ _ _).from _), kk.set k3 (by decide) (by decide) 0 _, k1.setCell (p := ⟨G7 + 1, 0, none⟩) (show w.heap.size ≤ G7 + 1 by omega) _, k2.far (p := ⟨G7 + 1, 0, none⟩) (show GV + 1 ≠ G7 + 1 by omega) _, _, k3.set 0 _, ?_, trivial⟩
    rw [hsn.out, List.length_append]
    exact own5.kept (grownBy_setCell' w5 (G7 + 1) _) (.inr (fun e => hne e.symm))
  case done =>
    rintro D ys W hD rfl ⟨i1, i2, val, i3, i4, _⟩ hK
    have hbl : (bytesF x allF).length = 24 := inoB_len x
    have HB : Hid (inoB x = bytesF x allF) := rfl
    rw [hbl] at i4
    generalize bytesF x allF = bs at *
    have cB : W.cell? ⟨G7 + 1, 0, none⟩ = some val := Box.cell i3 0
    have sW : Strs W (some ⟨b, o, none⟩) v.length v := ⟨rfl, fun _ => ⟨b, o, rfl, fun j hj => i1.keep (HC.out j hj)⟩⟩
    have hW0 := i1.size
    refine ‹∀ (a : Act) (w : World), Code.wpIn Fence.wide 6 Try.prog _ _ a w → _› _ _ ?_
    refine wpIn_wide.2 ?_
    go_wp2_with (at_builtin; refine wp_app_nil GV rfl _ _ rfl rfl rfl sW (by omega) (by omega) (by omega) ?_; intro u' w6 own6 x6)
    obtain ⟨g6, cap6, rfl, hge6, s6⟩ := Strs.own' own6 (by omega)
    obtain ⟨gv, capv, rfl⟩ : ∃ g' cap', val = .slice (some ⟨g', 0, none⟩) 24 cap' := by
      rcases i4.2 with ⟨_, h0⟩ | ⟨g, cap, cur, h, _⟩
      · omega
      · exact ⟨g, cap, h⟩
    have hqv : q < v.length := by omega
    have HLq : (v.getD q []).length = 128 := HL.out
    have ev : v.getD q [] = v[q] := by rw [List.getD_eq_getElem?_getD, List.getElem?_eq_getElem hqv]; rfl
    have cq : ∀ y : Later w6, y.now.cell? ⟨b, o + q, none⟩ = some (.string (str (v.getD q []))) := fun y => by rw [ev]; exact (i1.trans (x6.trans y.ext)).keep (HC.out q hqv)
    have cv : ∀ y : Later w6, y.now.cell? ⟨G7 + 1, 0, none⟩ = some (.slice (some ⟨gv, 0, none⟩) 24 capv) := fun y => (x6.trans y.ext).keep cB
    have cc : ∀ y : Later w6, (convert 22 9 (.slice (some ⟨gv, 0, none⟩) 24 capv)).run Try.prog y.now = .ok (.string (str bs)) y.now := fun y => conv_own (own_ext i4 (x6.trans y.ext)) (by decide)
    have hse := str_ext
    have hap := str_app
    have hsz : (str (v.getD q [])).size = 128 := by rw [str_size, HLq]
    have HEV := Lib.hid ev
    clear ev cB
    generalize hblk : v.getD q [] = blk at *
    have t0 : (0 : Int) ≤ (q : Int) := by omega
    have t1 : (0 : Int) ≤ (p : Int) := by omega
    have t2 : IntKind.i64.wrap ((p : Int) + 24) = (p : Int) + 24 := IntWalk.i64_in _ (by omega)
    have t3 : (0 : Int) ≤ (p : Int) + 24 := by omega
    have t4 : ((p : Int) + 24).toNat = p + 24 := by omega
    have t5 : (p : Int) ≤ 128 := by omega
    have t6 : (p : Int) + 24 ≤ 128 := by omega
    have hz := str_size
    have l1 : min p 128 = p := by omega
    refine wp_region_later_tail 20 (by kernel_rfl) (by kernel_rfl) ?_
    simp only [List.take_succ_cons, List.take_zero, List.drop_succ_cons, List.drop_zero]
    repeat (go_big_quiet_step (fail))
    refine wpQuiet_nil ?_
    rintro w7 ⟨y, rfl⟩
    clear cq cv cc hse hap hz t2 t4 l1
    have own7 := own_ext own6 y.ext
    have hK7 : y.now.heap[D]? = some (.deferred (some [])) := (Below.block (x6.trans y.ext) D (Array.getElem?_eq_some_iff.1 hK).1).trans hK
    have x7 := i1.trans (x6.trans y.ext)
    have k7 : y.now.cell? ⟨g6, q, none⟩ = some (.string (str v[q])) := (own7.cellAt q (by omega)).trans (by simp [strL, hqv])
    have kf7 := own7.frozenAt q
    generalize y.now = w7 at own7 hK7 x7 k7 kf7 ⊢
    go_wp2_with fail
    have hov : overL blk p bs = List.take p blk ++ (bs ++ List.take (104 - p) (List.drop (p + 24) blk)) := by
      unfold overL
      rw [hbl, List.append_assoc, List.take_of_length_le (l := List.drop (p + 24) blk) (by rw [List.length_drop, HLq]; omega)]
    have hs := own7.stored q (.string (str (overL blk p bs)))
    rw [hov] at hs
    have hK8 := (KeepsOthers.setCell w7 ⟨g6, q, none⟩ (.string (str (List.take p blk ++ (bs ++ List.take (104 - p) (List.drop (p + 24) blk)))))).same D _ hK7 rfl
    refine ⟨by simp, .inl ⟨_, _, rfl, run_takeDeferred hK8, ?_⟩⟩
    have x8 := x7.setCell (p := ⟨g6, q, none⟩) (show w.heap.size ≤ g6 by omega) (.string (str (List.take p blk ++ (bs ++ List.take (104 - p) (List.drop (p + 24) blk)))))
    have xP := x8.putObj (.deferred none) hK8 (show w.heap.size ≤ D by omega)
    have oP := ownsRow_putObj hs.1 (.deferred none) hK8 rfl
    refine ⟨_, results_tmp rfl _ _ _, _, rfl, xP, ?_⟩
    have e : strL (v.set ((q : Int)).toNat (overL (v.getD ((q : Int)).toNat []) ((p : Int)).toNat (inoB x))) = (strL v).set q (.string (str (List.take p blk ++ (bs ++ List.take (104 - p) (List.drop (p + 24) blk))))) := by
      rw [HB.out, ← hov, ← hblk]
      simp [strL, List.map_set]
    rw [e, hGV]
    exact oP
  case stop =>
    rintro D c pre W _ _ h _
    exact h.elim
end Go.Proofs.Ytmcoepkopfcbdaa
/- Whole structs loaded and stored at once. -/
namespace Go.Proofs.Ytmcoepkopfcbdaa
open Go.RowKit

theorem setRow_grown (w : World) (g : Nat) (cs : Array Value) : w.grownBy (w.setRow g cs) (some g) :=
  ⟨rfl, rfl, rfl, by simp, fun k _ hne => setRow_other w g k cs (fun e => hne (by rw [e]))⟩
def isAggD : TypeDesc → Bool
  | .struct _ => true
  | .array _ _ => true
  | _ => false
section
variable {ops : Array Oper} {rest : List Oper} {o : Oper} {a : Act} {w : World} {Q : Exit → Act → World → Prop}
/-- a struct stored over a whole block -/
theorem wp_st (T : TypeId) (x y : Operand) (hgd : o.guard = none) (ho : o.op = .store T x y) (g : Nat) (cells old : Array Value) (t : TypeId) (hx : a.eval x = .pointer (some ⟨g, 0, none⟩)) (hy : a.eval y = .agg cells)
    (hb : Box w g t old) (hi : (Try.prog.info? T).map (·.size) = some cells.size) (hold : old.size = cells.size) (h1 : cells.all (·.oneCell') = true)
    (hK : ∀ w', Box w' g t cells → w.grownBy w' (some g) → wpList Try.prog ops Q rest (a.put o.dst undef) w') : wpList Try.prog ops Q (o :: rest) a w :=
  wpList_store_row hgd T x y ho g cells hx hy t old hb hi hold h1 (hK _ (setRow_box hb) (setRow_grown w g cells))
/-- a struct loaded from a whole block -/
theorem wp_ld (T : TypeId) (x : Operand) (hgd : o.guard = none) (ho : o.op = .load T x) (g : Nat) (cells : Array Value) (t : TypeId) (d : TypeDesc) (hx : a.eval x = .pointer (some ⟨g, 0, none⟩))
    (hb : Box w g t cells) (hu : Try.prog.underlying T = some d) (hd : isAggD d = true) (hi : (Try.prog.info? T).map (·.size) = some cells.size)
    (hK : wpList Try.prog ops Q rest (a.put o.dst (.agg cells)) w) : wpList Try.prog ops Q (o :: rest) a w :=
  wpList_load_row hgd T x ho g hx t cells (0, 0) d hb hu (by cases d <;> first | rfl | cases hd) hi hK
end
theorem intVals_size (x : List Int) : (intVals x).size = x.length := by simp [intVals]
theorem intVals_one (x : List Int) : (intVals x).all (·.oneCell') = true := by
  rw [Array.all_eq_true_iff_forall_mem]
  intro v hv
  simp only [intVals, List.mem_toArray, List.mem_map] at hv
  obtain ⟨n, _, rfl⟩ := hv; rfl
theorem inoSize : (Try.prog.info? 49).map (·.size) = some 12 := by kernel_rfl
theorem geomSize : (Try.prog.info? 66).map (·.size) = some 6 := by kernel_rfl
section
variable {ops : Array Oper} {rest : List Oper} {o : Oper} {a : Act} {w : World} {Q : Exit → Act → World → Prop}
theorem wp_st_ino (x y : Operand) (hgd : o.guard = none) (ho : o.op = .store 49 x y) (g : Nat) (l l0 : List Int) (t : TypeId) (hx : a.eval x = .pointer (some ⟨g, 0, none⟩)) (hy : a.eval y = .agg (intVals l))
    (hb : Box w g t (intVals l0)) (hl : l.length = 12) (hl0 : l0.length = 12)
    (hK : ∀ w', Box w' g t (intVals l) → w.grownBy w' (some g) → wpList Try.prog ops Q rest (a.put o.dst undef) w') : wpList Try.prog ops Q (o :: rest) a w :=
  wp_st _ x y hgd ho g _ _ t hx hy hb (by rw [intVals_size, hl]; exact inoSize) (by rw [intVals_size, intVals_size, hl, hl0]) (intVals_one l) hK
theorem wp_ld_ino (x : Operand) (hgd : o.guard = none) (ho : o.op = .load 49 x) (g : Nat) (l : List Int) (t : TypeId) (hx : a.eval x = .pointer (some ⟨g, 0, none⟩))
    (hb : Box w g t (intVals l)) (hl : l.length = 12) (hK : wpList Try.prog ops Q rest (a.put o.dst (.agg (intVals l))) w) : wpList Try.prog ops Q (o :: rest) a w :=
  wp_ld _ x hgd ho g _ t _ hx hb Try.underlying49 rfl (by rw [intVals_size, hl]; exact inoSize) hK
theorem wp_ld_geom (x : Operand) (hgd : o.guard = none) (ho : o.op = .load 66 x) (g : Nat) (l : List Int) (t : TypeId) (hx : a.eval x = .pointer (some ⟨g, 0, none⟩))
    (hb : Box w g t (intVals l)) (hl : l.length = 6) (hK : wpList Try.prog ops Q rest (a.put o.dst (.agg (intVals l))) w) : wpList Try.prog ops Q (o :: rest) a w :=
  wp_ld _ x hgd ho g _ t _ hx hb Try.underlying66 rfl (by rw [intVals_size, hl]; exact geomSize) hK
theorem wp_st_geom (x y : Operand) (hgd : o.guard = none) (ho : o.op = .store 66 x y) (g : Nat) (l l0 : List Int) (t : TypeId) (hx : a.eval x = .pointer (some ⟨g, 0, none⟩)) (hy : a.eval y = .agg (intVals l))
    (hb : Box w g t (intVals l0)) (hl : l.length = 6) (hl0 : l0.length = 6)
    (hK : ∀ w', Box w' g t (intVals l) → w.grownBy w' (some g) → wpList Try.prog ops Q rest (a.put o.dst undef) w') : wpList Try.prog ops Q (o :: rest) a w :=
  wp_st _ x y hgd ho g _ _ t hx hy hb (by rw [intVals_size, hl]; exact geomSize) (by rw [intVals_size, intVals_size, hl, hl0]) (intVals_one l) hK
end
theorem geomV_eq (B I : Int) : geomV B I = .agg (intVals [B, I, 1, 2, 3, 3 + (I + 1) / 2]) := rfl
theorem results_cell2 {fn : Func} {p s : Tmp} {ty : TypeId} (h : fn.results = #[.cell p ty, .tmp s]) (tmps : Array Value) (w : World) (g : Nat) (t : TypeId) (cs : Array Value) (d : TypeDesc) (v : Value)
    (hp : tmps.getD p undef = .pointer (some ⟨g, 0, none⟩)) (hs : tmps.getD s undef = v) (hg : Box w g t cs)
    (hu : Try.prog.underlying ty = some d) (hd : isAggD d = true) (hi : (Try.prog.info? ty).map (·.size) = some cs.size) :
    (results fn tmps).run Try.prog w = .ok (.tuple #[.agg cs, v]) w := by
  have hp' : tmps[p]?.getD undef = .pointer (some ⟨g, 0, none⟩) := by simpa using hp
  have hs' : tmps[s]?.getD undef = v := by simpa using hs
  simp [results, h, hp', hs', asAddr, run_loadVar_row w g t ty cs (0, 0) d hg hu (by cases d <;> first | rfl | cases hd) hi]
end Go.Proofs.Ytmcoepkopfcbdaa
/- The walks of inode.known, inode.Get and inode.Put on a volume that is one. -/
namespace Go.Proofs.Ytmcoepkopfcbdaa
open Go.RowKit

theorem getD_len {v : List (List UInt8)} {I : Int} (hg : Good v I) {i : Nat} (hi : i < v.length) : (v.getD i []).length = 128 := by
  rw [List.getD_eq_getElem?_getD, List.getElem?_eq_getElem hi]; exact hg.all i hi
set_option maxHeartbeats 1000000 in
set_option maxRecDepth 100000 in
theorem known_yes (A : Option Addr) (n c : Nat) (v : List (List UInt8)) (I k : Int) (w : World) (hv : Strs w A n v) (hg : Good v I) (hk1 : 1 ≤ k) (hk2 : k ≤ I) :
    Calls Try.prog 55 #[.slice A n c, .int .i64 k] w fun e w' => e = .returned (.tuple #[geomV v.length I, .int .i64 0]) ∧ Ext w w' := by
  have hpl := plan_bd hg.plan
  have HO := Lib.hid (fun w h => of_yes A n c v I w h hg)
  have d1 : decide (k < 1) = false := by simp; omega
  have d2 : decide (I < k) = false := by simp; omega
  go_enter Try.func55, Try.ntmps55
  go_wp2_with fail
  refine (HO.out _ (hv.ext ((Ext.refl _).alloc _))).mono ?_
  rintro e w1 ⟨rfl, x1⟩
  rw [geomV_eq]
  have x0 : Ext w w1 := ((Ext.refl w).alloc _).trans x1
  have bR : Box w1 w.heap.size 66 (intVals [0, 0, 0, 0, 0, 0]) := (Box.new w 66 _).ext x1
  have hlt := bR.lt
  clear x1
  go_wp2_with (first
    | (refine wp_st_geom (.tmp 6) (.tmp 11) rfl rfl w1.heap.size _ [0, 0, 0, 0, 0, 0] 66 rfl rfl (Box.new _ _ _) rfl rfl ?_; intro w2 b2 g2; have c1 : w2.cell? ⟨w1.heap.size, 1, none⟩ = some (.int .i64 I) := b2.cell 1)
    | (refine wp_ld_geom (.tmp 6) rfl rfl w1.heap.size _ 66 rfl b2 rfl ?_)
    | (refine wp_st_geom (.tmp 4) (.tmp 26) rfl rfl w.heap.size _ [0, 0, 0, 0, 0, 0] 66 rfl rfl ((bR.ext ((Ext.refl _).alloc _)).grown g2 (by simp; omega)) rfl rfl ?_; intro w3 b3 g3))
  refine bodyPost_ret (results_cell2 rfl _ _ w.heap.size _ _ _ (.int .i64 0) rfl rfl b3 Try.underlying66 rfl geomSize) rfl ⟨rfl, ?_⟩
  exact ((x0.alloc _).grown g2 (fun k e => by cases e; exact x0.size)).grown g3 (fun k e => by cases e; exact Nat.le_refl _)
set_option maxHeartbeats 1000000 in
set_option maxRecDepth 100000 in
theorem known_no (A : Option Addr) (n c : Nat) (v : List (List UInt8)) (I k : Int) (w : World) (hv : Strs w A n v) (hg : Good v I) (hk : k < 1 ∨ I < k) :
    Calls Try.prog 55 #[.slice A n c, .int .i64 k] w fun e w' => e = .returned (.tuple #[noGeom, .int .i64 2]) ∧ Ext w w' := by
  have hpl := plan_bd hg.plan
  have HO := Lib.hid (fun w h => of_yes A n c v I w h hg)
  rcases (by omega : k < 1 ∨ (1 ≤ k ∧ I < k)) with hk | ⟨hk, hk2⟩
  · have d1 : decide (k < 1) = true := by simpa using hk
    go_enter Try.func55, Try.ntmps55
    go_wp2_with fail
    refine (HO.out _ (hv.ext ((Ext.refl _).alloc _))).mono ?_
    rintro e w1 ⟨rfl, x1⟩
    rw [geomV_eq]
    have x0 : Ext w w1 := ((Ext.refl w).alloc _).trans x1
    have bR : Box w1 w.heap.size 66 (intVals [0, 0, 0, 0, 0, 0]) := (Box.new w 66 _).ext x1
    have hlt := bR.lt
    clear x1
    go_wp2_with (first
      | (refine wp_st_geom (.tmp 6) (.tmp 11) rfl rfl w1.heap.size _ [0, 0, 0, 0, 0, 0] 66 rfl rfl (Box.new _ _ _) rfl rfl ?_; intro w2 b2 g2; have c1 : w2.cell? ⟨w1.heap.size, 1, none⟩ = some (.int .i64 I) := b2.cell 1)
      | (refine wp_st_geom (.tmp 4) (.tmp 25) rfl rfl w.heap.size [0, 0, 0, 0, 0, 0] [0, 0, 0, 0, 0, 0] 66 rfl rfl ((bR.ext ((Ext.refl _).alloc _)).grown g2 (by simp; omega)) rfl rfl ?_; intro w3 b3 g3))
    refine bodyPost_ret (results_cell2 rfl _ _ w.heap.size _ _ _ (.int .i64 2) rfl rfl b3 Try.underlying66 rfl geomSize) rfl ⟨rfl, ?_⟩
    exact ((x0.alloc _).grown g2 (fun k e => by cases e; exact x0.size)).grown g3 (fun k e => by cases e; exact Nat.le_refl _)
  · have d1 : decide (k < 1) = false := by simp; omega
    have d2 : decide (I < k) = true := by simpa using hk2
    go_enter Try.func55, Try.ntmps55
    go_wp2_with fail
    refine (HO.out _ (hv.ext ((Ext.refl _).alloc _))).mono ?_
    rintro e w1 ⟨rfl, x1⟩
    rw [geomV_eq]
    have x0 : Ext w w1 := ((Ext.refl w).alloc _).trans x1
    have bR : Box w1 w.heap.size 66 (intVals [0, 0, 0, 0, 0, 0]) := (Box.new w 66 _).ext x1
    have hlt := bR.lt
    clear x1
    go_wp2_with (first
      | (refine wp_st_geom (.tmp 6) (.tmp 11) rfl rfl w1.heap.size _ [0, 0, 0, 0, 0, 0] 66 rfl rfl (Box.new _ _ _) rfl rfl ?_; intro w2 b2 g2; have c1 : w2.cell? ⟨w1.heap.size, 1, none⟩ = some (.int .i64 I) := b2.cell 1)
      | (refine wp_st_geom (.tmp 4) (.tmp 25) rfl rfl w.heap.size [0, 0, 0, 0, 0, 0] [0, 0, 0, 0, 0, 0] 66 rfl rfl ((bR.ext ((Ext.refl _).alloc _)).grown g2 (by simp; omega)) rfl rfl ?_; intro w3 b3 g3))
    refine bodyPost_ret (results_cell2 rfl _ _ w.heap.size _ _ _ (.int .i64 2) rfl rfl b3 Try.underlying66 rfl geomSize) rfl ⟨rfl, ?_⟩
    exact ((x0.alloc _).grown g2 (fun k e => by cases e; exact x0.size)).grown g3 (fun k e => by cases e; exact Nat.le_refl _)
/-- the inode k of a volume, as its bytes say -/
def inoAt (v : List (List UInt8)) (k : Int) : List Int := inoL (v.getD (3 + (k - 1) / 2).toNat []) ((k - 1) % 2 * 64).toNat
theorem inoAt_len (v : List (List UInt8)) (k : Int) : (inoAt v k).length = 12 := rfl
theorem noGeom_eq : noGeom = .agg (intVals [0, 0, 0, 0, 0, 0]) := rfl
theorem told_good (b o n c : Nat) (v : List (List UInt8)) (I k : Int) (w : World) (hv : Strs w (some ⟨b, o, none⟩) n v) (hg : Good v I) (hk1 : 1 ≤ k) (hk2 : k ≤ I) :
    Calls Try.prog 63 #[.slice (some ⟨b, o, none⟩) n c, .agg (intVals [v.length, I, 1, 2, 3, 3 + (I + 1) / 2]), .int .i64 k] w fun e w' => e = .returned (.agg (intVals (inoAt v k))) ∧ Ext w w' := by
  have hpl := plan_bd hg.plan
  obtain ⟨rfl, hv2⟩ := hv
  obtain ⟨b', o', e, hcell⟩ := hv2 (by omega)
  cases e
  have hi : (3 + (k - 1) / 2).toNat < v.length := by omega
  have hc := hcell _ hi
  refine told_any b o v.length c v.length I k (v.getD (3 + (k - 1) / 2).toNat []) w hk1 (by omega) (by omega) ?_ (getD_len hg hi)
  rw [hc, List.getD_eq_getElem?_getD, List.getElem?_eq_getElem hi]; rfl
set_option maxHeartbeats 1000000 in
set_option maxRecDepth 100000 in
theorem iget_yes (A : Option Addr) (n c : Nat) (v : List (List UInt8)) (I k : Int) (w : World) (hv : Strs w A n v) (hg : Good v I) (hk1 : 1 ≤ k) (hk2 : k ≤ I) :
    Calls Try.prog 41 #[.slice A n c, .int .i64 k] w fun e w' => e = .returned (.tuple #[.agg (intVals (inoAt v k)), .int .i64 0]) ∧ Ext w w' := by
  have hpl := plan_bd hg.plan
  have HO := Lib.hid (fun w h => known_yes A n c v I k w h hg hk1 hk2)
  obtain ⟨b, o, rfl, _⟩ := hv.2 (by have := hv.1; omega)
  have HT := Lib.hid (fun w h => told_good b o n c v I k w h hg hk1 hk2)
  go_enter Try.func41, Try.ntmps41
  go_wp2_with fail
  refine (HO.out _ (hv.ext ((Ext.refl _).alloc _))).mono ?_
  rintro e w1 ⟨rfl, x1⟩
  rw [geomV_eq]
  have x0 : Ext w w1 := ((Ext.refl w).alloc _).trans x1
  have bR : Box w1 w.heap.size 49 (intVals zero12) := (Box.new w 49 _).ext x1
  have hlt := bR.lt
  clear x1
  go_wp2_with (first
    | (refine wp_st_geom (.tmp 6) (.tmp 12) rfl rfl w1.heap.size _ [0, 0, 0, 0, 0, 0] 66 rfl rfl (Box.new _ _ _) rfl rfl ?_; intro w2 b2 g2; have x2 : Ext w w2 := (x0.alloc _).grown g2 (fun k e => by cases e; exact x0.size))
    | (refine wp_ld_geom (.tmp 6) rfl rfl w1.heap.size _ 66 rfl b2 rfl ?_)
    | (go_at_call 63; refine (HT.out _ (hv.ext x2)).mono ?_; rintro e w3 ⟨rfl, x3⟩)
    | (refine wp_st_ino (.tmp 4) (.tmp 21) rfl rfl w.heap.size _ zero12 49 rfl rfl (((bR.ext ((Ext.refl _).alloc _)).grown g2 (by simp; omega)).ext x3) rfl rfl ?_; intro w4 b4 g4))
  refine bodyPost_ret (results_cell2 rfl _ _ w.heap.size _ _ _ (.int .i64 0) rfl rfl b4 Try.underlying49 rfl inoSize) rfl ⟨rfl, ?_⟩
  exact (x2.trans x3).grown g4 (fun k e => by cases e; exact Nat.le_refl _)
set_option maxHeartbeats 1000000 in
set_option maxRecDepth 100000 in
theorem iget_no (A : Option Addr) (n c : Nat) (v : List (List UInt8)) (I k : Int) (w : World) (hv : Strs w A n v) (hg : Good v I) (hk : k < 1 ∨ I < k) :
    Calls Try.prog 41 #[.slice A n c, .int .i64 k] w fun e w' => e = .returned (.tuple #[.agg (intVals zero12), .int .i64 2]) ∧ Ext w w' := by
  have HO := Lib.hid (fun w h => known_no A n c v I k w h hg hk)
  go_enter Try.func41, Try.ntmps41
  go_wp2_with fail
  refine (HO.out _ (hv.ext ((Ext.refl _).alloc _))).mono ?_
  rintro e w1 ⟨rfl, x1⟩
  rw [noGeom_eq]
  have x0 : Ext w w1 := ((Ext.refl w).alloc _).trans x1
  have bR : Box w1 w.heap.size 49 (intVals zero12) := (Box.new w 49 _).ext x1
  have hlt := bR.lt
  clear x1
  go_wp2_with (first
    | (refine wp_st_geom (.tmp 6) (.tmp 12) rfl rfl w1.heap.size _ [0, 0, 0, 0, 0, 0] 66 rfl rfl (Box.new _ _ _) rfl rfl ?_; intro w2 b2 g2; have x2 : Ext w w2 := (x0.alloc _).grown g2 (fun k e => by cases e; exact x0.size))
    | (refine wp_st_ino (.tmp 4) (.tmp 16) rfl rfl w.heap.size zero12 zero12 49 rfl rfl ((bR.ext ((Ext.refl _).alloc _)).grown g2 (by simp; omega)) rfl rfl ?_; intro w4 b4 g4))
  refine bodyPost_ret (results_cell2 rfl _ _ w.heap.size _ _ _ (.int .i64 2) rfl rfl b4 Try.underlying49 rfl inoSize) rfl ⟨rfl, ?_⟩
  exact x2.grown g4 (fun k e => by cases e; exact Nat.le_refl _)
/-- a volume with another inode k -/
def putAt (v : List (List UInt8)) (k : Int) (x : List Int) : List (List UInt8) := v.set (3 + (k - 1) / 2).toNat (overL (v.getD (3 + (k - 1) / 2).toNat []) ((k - 1) % 2 * 64).toNat (inoB x))
theorem written_good (b o n c : Nat) (v : List (List UInt8)) (I k : Int) (x : List Int) (w : World) (hv : Strs w (some ⟨b, o, none⟩) n v) (hg : Good v I) (hk1 : 1 ≤ k) (hk2 : k ≤ I) (hx : x.length = 12) (hf : fitsB x = true) :
    Calls Try.prog 57 #[.slice (some ⟨b, o, none⟩) n c, .agg (intVals [v.length, I, 1, 2, 3, 3 + (I + 1) / 2]), .int .i64 k, .agg (intVals x)] w fun e w' => ∃ u, e = .returned u ∧ Ext w w' ∧ w'.ownsRow w.heap.size 9 1 u n (strL (putAt v k x)) := by
  have hpl := plan_bd hg.plan
  obtain ⟨rfl, hv2⟩ := hv
  obtain ⟨b', o', e, hcell⟩ := hv2 (by omega)
  cases e
  have hi : (3 + (k - 1) / 2).toNat < v.length := by omega
  exact written_any b o v.length c v.length I k v x w hk1 (by omega) rfl (by omega) (by omega) hcell (getD_len hg hi) hx hf
set_option maxHeartbeats 1000000 in
set_option maxRecDepth 100000 in
theorem iput_yes (A : Option Addr) (n c : Nat) (v : List (List UInt8)) (I k : Int) (x : List Int) (w : World) (hv : Strs w A n v) (hg : Good v I) (hk1 : 1 ≤ k) (hk2 : k ≤ I) (hx : x.length = 12) (hi : ∀ i, I64 (x.getD i 0)) (hf : fitsB x = true) :
    Calls Try.prog 29 #[.slice A n c, .int .i64 k, .agg (intVals x)] w fun e w' => ∃ u, e = .returned (.tuple #[u, .int .i64 0]) ∧ Ext w w' ∧ w'.ownsRow w.heap.size 9 1 u n (strL (putAt v k x)) := by
  have hpl := plan_bd hg.plan
  have HO := Lib.hid (fun w h => known_yes A n c v I k w h hg hk1 hk2)
  obtain ⟨b, o, rfl, _⟩ := hv.2 (by have := hv.1; omega)
  have HT := Lib.hid (fun w h => written_good b o n c v I k x w h hg hk1 hk2 hx hf)
  have HF := Lib.hid (fun w => fits_any x w hx hi)
  unfold inoV at HF
  rw [hf] at HF
  have hfi := Lib.hid hf
  clear hf
  go_enter Try.func29, Try.ntmps29
  go_wp2_with fail
  refine (HO.out _ (hv.ext ((Ext.refl _).alloc _))).mono ?_
  rintro e w1 ⟨rfl, x1⟩
  rw [geomV_eq]
  have x0 : Ext w w1 := ((Ext.refl w).alloc _).trans x1
  have bR : Box w1 w.heap.size 49 (intVals x) := (Box.new w 49 _).ext x1
  have hlt := bR.lt
  clear x1
  go_wp2_with (first
    | (refine wp_st_geom (.tmp 8) (.tmp 14) rfl rfl w1.heap.size _ [0, 0, 0, 0, 0, 0] 66 rfl rfl (Box.new _ _ _) rfl rfl ?_; intro w2 b2 g2; have x2 : Ext w w2 := (x0.alloc _).grown g2 (fun k e => by cases e; exact x0.size); have bX2 := (bR.ext ((Ext.refl _).alloc _)).grown g2 (by simp; omega))
    | (refine wp_ld_ino (.tmp 5) rfl rfl w.heap.size _ 49 rfl bX2 hx ?_)
    | (go_at_call 56; refine (HF.out _).mono ?_; rintro e w3 ⟨rfl, x3⟩)
    | (refine wp_ld_geom (.tmp 8) rfl rfl w1.heap.size _ 66 rfl (b2.ext x3) rfl ?_)
    | (refine wp_ld_ino (.tmp 5) rfl rfl w.heap.size _ 49 rfl (bX2.ext x3) hx ?_)
    | (go_at_call 57; refine (HT.out _ (hv.ext (x2.trans x3))).mono ?_; rintro e w4 ⟨u, rfl, x4, own4⟩))
  go_ret2
  exact ⟨u, rfl, (x2.trans x3).trans x4, own_base own4 (x2.trans x3).size⟩
end Go.Proofs.Ytmcoepkopfcbdaa
/- The document's geometry (hibernacleref17) and numbers (hibernacleref01), small functions. -/
namespace Go.Proofs.Ytmcoepkopfcbdaa
open Go.RowKit

set_option maxHeartbeats 400000 in
set_option maxRecDepth 100000 in
theorem rplan_yes (B I : Int) (w : World) (h : planB B I = true) :
    Calls Try.prog 38 #[.int .i64 B, .int .i64 I] w fun e w' => e = .returned (.tuple #[geomV B I, .int .i64 0]) ∧ Ext w w' := by
  have hp := plan_bd h
  clear h
  have d1 : decide (B < 16) = false := by simp; omega
  have d2 : decide (223 < B) = false := by simp; omega
  have d3 : decide (I < 4) = false := by simp; omega
  have d4 : decide (64 < I) = false := by simp; omega
  go_enter Try.func38, Try.ntmps38
  go_wp2_with fail
  exact bodyPost_ret (v := .tuple #[geomV B I, .int .i64 0]) (by simp [results, Try.results38, go_sem, geomV]) rfl ⟨rfl, ((Ext.refl _).alloc _).alloc _⟩
set_option maxHeartbeats 400000 in
theorem rzeros_any (n : Nat) (w : World) (h : n ≤ 100000) :
    Calls Try.prog 34 #[.int .i64 n] w fun e w' => e = .returned (.string (str (zs n))) ∧ w = w' := by
  have hz := str_size
  have hap := str_app
  have hk : (⟨#[0]⟩ : ByteArray) = str [0] := rfl
  go_enter Try.func34, Try.ntmps34
  go_wp2_with fail
  go_loop [3, 4] (fun s i => ∃ k : Nat, k ≤ n ∧ i = .int .i64 k ∧ s = .string (str (zs k))) (fun _ i => n - (intOf i).toNat)
  case atStart => exact ⟨0, by omega, rfl, rfl⟩
  case round =>
    obtain ⟨k, hk2, rfl, rfl⟩ := hrel
    have hl := zs_len k
    have HZ := Lib.hid (show zs (k + 1) = zs k ++ [0] from List.replicate_succ')
    by_cases hlt : k < n
    · go_wp2_with fail
      go_round
      case rel => exact ⟨k + 1, by omega, by go_num, by rw [HZ.out]⟩
      case measure => simp [intOf]; omega
    · obtain rfl : k = n := by omega
      go_wp2_with fail
      go_ret
      exact ⟨rfl, rfl⟩
set_option maxHeartbeats 400000 in
set_option maxRecDepth 100000 in
theorem rbit_any (i : Nat) (m : List UInt8) (w : World) (hm : m.length = 128) (hi : i < 1024) :
    Calls Try.prog 31 #[.string (str m), .int .i64 i] w fun e w' => e = .returned (.bool (bitB m i)) ∧ w = w' := by
  have hz : (str m).size = 128 := by rw [str_size, hm]
  go_enter Try.func31, Try.ntmps31
  go_wp2_with fail
  go_ret
  exact ⟨ret_bool (bit_val m i (by omega)), rfl⟩
set_option maxHeartbeats 400000 in
set_option maxRecDepth 100000 in
theorem rget2 (a b : UInt8) (w : World) :
    Calls Try.prog 58 #[.string (str [a, b])] w fun e w' => e = .returned (.int .u64 ((a.toNat : Int) + 256 * b.toNat)) ∧ w = w' := by
  have hz := str_size
  have ha := a.toNat_lt
  have hb := b.toNat_lt
  have e0 : (str [a, b])[0]'(by rw [str_size]; simp) = a := rfl
  have e1 : (str [a, b])[1]'(by rw [str_size]; simp) = b := rfl
  go_enter Try.func58, Try.ntmps58
  go_wp2_with fail
  refine wp_loop_rounds 3 ?_
  rw [rounds_succ]
  go_wp2_with fail
  rw [rounds_succ]
  go_wp2_with fail
  rw [rounds_succ]
  go_wp2_with fail
  go_ret
  refine ⟨ret_int ?_, rfl⟩
  omega
theorem conv_one (w : World) (x : Int) (g : Nat) (hg : g = w.heap.size) : (convert 22 9 (.slice (some ⟨g, 0, none⟩) 1 1)).run Try.prog (w.alloc (.cells #[.int .u8 x] 5)) = .ok (.string (str [b8 x])) (w.alloc (.cells #[.int .u8 x] 5)) := by
  subst hg
  exact conv_row w [x] #[.int .u8 x] 5 1 1 rfl (fun i hi => by
    rcases (show i = 0 by simp at hi; omega) with rfl; rfl)
set_option maxHeartbeats 400000 in
set_option maxRecDepth 100000 in
theorem rput2 (n : Int) (w : World) (h0 : 0 ≤ n) (h1 : n ≤ 65535) :
    Calls Try.prog 60 #[.int .u64 n, .int .i64 2] w fun e w' => e = .returned (.string (str [b8 (n % 256), b8 (n / 256)])) ∧ Ext w w' := by
  have hz := str_size
  have hap := str_app
  have hk : (⟨#[]⟩ : ByteArray) = str [] := rfl
  have u1 : n / 256 % 256 = n / 256 := by omega
  have k1 := conv_one w (n % 256) w.heap.size rfl
  have k2 := conv_one (w.alloc (.cells #[.int .u8 (n % 256)] 5)) (n / 256) (w.heap.size + 1) (by simp)
  go_enter Try.func60, Try.ntmps60
  go_wp2_with fail
  refine wp_loop_rounds 3 ?_
  rw [rounds_succ]
  go_wp2_with fail
  rw [rounds_succ]
  go_wp2_with fail
  rw [rounds_succ]
  go_wp2_with fail
  go_ret
  exact ⟨rfl, ((Ext.refl _).alloc _).alloc _⟩
set_option maxHeartbeats 400000 in
theorem rhead_any (B I : Int) (w : World) (h : planB B I = true) :
    Calls Try.prog 39 #[geomV B I] w fun e w' => e = .returned (.string (str (headL B I))) ∧ Ext w w' := by
  have hp := plan_bd h
  clear h
  unfold geomV
  have hz := str_size
  have hap := str_app
  have hzl := zs_len
  have hk : (⟨#[104, 105, 98, 49]⟩ : ByteArray) = str [104, 105, 98, 49] := rfl
  have u1 : IntKind.u64.wrap B = B := by rw [IntKind.wrap_u64]; omega
  have u2 : IntKind.u64.wrap I = I := by rw [IntKind.wrap_u64]; omega
  go_enter Try.func39, Try.ntmps39
  go_wp2_with fail
  generalize hw1 : w.alloc _ = w1
  have hg1 : Ext w w1 := by rw [← hw1]; exact (Ext.refl _).alloc _
  have c0 : ∀ x : Later w1, x.now.cell? ⟨w.heap.size, 0, none⟩ = some (.int .i64 B) := fun x => x.ext.keep (by rw [← hw1]; simp [go_sem])
  have c1 : ∀ x : Later w1, x.now.cell? ⟨w.heap.size, 1, none⟩ = some (.int .i64 I) := fun x => x.ext.keep (by rw [← hw1]; simp [go_sem])
  clear hw1
  refine wp_region_later (by kernel_rfl) (by kernel_rfl) ?_
  repeat (go_big_quiet_step ((first | (with_reducible exact later_of (rput2 _ _ (by omega) (by omega))) | (with_reducible exact later_of_same (rzeros_any 120 _ (by omega))))))
  refine wpQuiet_nil ?_
  rintro w2 ⟨x, rfl⟩
  clear c0 c1
  go_wp2_with fail
  go_ret
  exact ⟨rfl, hg1.trans x.ext⟩
end Go.Proofs.Ytmcoepkopfcbdaa
/- Plain: lengths and rows of texts as bytes, and back. -/
namespace Go.Proofs.Ytmcoepkopfcbdaa

/-- a length in bytes -/
def lenL (n : Nat) : List UInt8 := if n < 128 then [UInt8.ofNat n] else UInt8.ofNat (n % 128 + 128) :: lenL (n / 128)
termination_by n
decreasing_by omega
theorem lenL_small {n : Nat} (h : n < 128) : lenL n = [UInt8.ofNat n] := by rw [lenL, if_pos h]
theorem lenL_big {n : Nat} (h : ¬ n < 128) : lenL n = UInt8.ofNat (n % 128 + 128) :: lenL (n / 128) := by rw [lenL, if_neg h]
/-- a row of texts as bytes -/
def rowL (ss : List (List UInt8)) : List UInt8 := ss.flatMap fun s => lenL s.length ++ s
theorem rowL_nil : rowL [] = [] := rfl
theorem rowL_cons (s : List UInt8) (ss : List (List UInt8)) : rowL (s :: ss) = lenL s.length ++ s ++ rowL ss := by simp [rowL]
theorem rowL_append (a b : List (List UInt8)) : rowL (a ++ b) = rowL a ++ rowL b := by simp [rowL]
theorem rowL_snoc (ss : List (List UInt8)) (s : List UInt8) : rowL (ss ++ [s]) = rowL ss ++ (lenL s.length ++ s) := by simp [rowL]
theorem lenL_pos (n : Nat) : 1 ≤ (lenL n).length := by rw [lenL]; split <;> simp
theorem lenL_le (n : Nat) : (lenL n).length ≤ n + 1 := by
  induction n using Nat.strongRecOn with
  | ind n ih =>
    by_cases h : n < 128
    · rw [lenL_small h]; simp
    · rw [lenL_big h]
      have := ih (n / 128) (by omega)
      simp only [List.length_cons]; omega
/-- the length that bytes begin with, how many bytes it has, the error; behind i bytes that say n -/
def lengthF : List UInt8 → Nat → Nat → Nat × Nat × Int
  | [], _, _ => (0, 0, 4)
  | c :: l, i, n => if i = 3 ∧ 128 ≤ c.toNat then (0, 0, 3) else if 128 ≤ c.toNat then lengthF l (i + 1) (n + c.toNat % 128 * 128 ^ i) else if c.toNat = 0 ∧ 0 < i then (0, 0, 3) else (n + c.toNat * 128 ^ i, i + 1, 0)
def lengthP (b : List UInt8) : Nat × Nat × Int := lengthF b 0 0
theorem lengthF_used (l : List UInt8) : ∀ i n, i ≤ 3 → n < 128 ^ i → (lengthF l i n).2.2 = 0 → i < (lengthF l i n).2.1 ∧ (lengthF l i n).2.1 ≤ i + l.length ∧ (lengthF l i n).2.1 ≤ 4 ∧ (lengthF l i n).1 < 268435456 := by
  induction l with
  | nil => intro i n _ _ h; simp [lengthF] at h
  | cons c l ih =>
    intro i n hi hn h
    have hc := c.toNat_lt
    rw [lengthF] at h ⊢
    split at h
    · simp at h
    · rename_i h1
      rw [if_neg h1]
      split at h
      · rename_i h2
        rw [if_pos h2]
        have hi2 : i + 1 ≤ 3 := by omega
        have hp : n + c.toNat % 128 * 128 ^ i < 128 ^ (i + 1) := by
          rw [Nat.pow_succ]
          have : c.toNat % 128 * 128 ^ i ≤ 127 * 128 ^ i := Nat.mul_le_mul_right _ (by omega)
          omega
        have := ih (i + 1) _ hi2 hp h
        simp only [List.length_cons]; omega
      · rename_i h2
        rw [if_neg h2]
        split at h
        · simp at h
        · rename_i h3
          rw [if_neg h3]
          simp only [List.length_cons]
          refine ⟨by omega, by omega, by omega, ?_⟩
          have e : c.toNat * 128 ^ i ≤ 127 * 128 ^ i := Nat.mul_le_mul_right _ (by omega)
          have : (128 : Nat) ^ i ≤ 128 ^ 3 := Nat.pow_le_pow_right (by omega) hi
          have : (128 : Nat) ^ 3 = 2097152 := by decide
          omega
theorem lengthP_used (b : List UInt8) (h : (lengthP b).2.2 = 0) : 1 ≤ (lengthP b).2.1 ∧ (lengthP b).2.1 ≤ b.length ∧ (lengthP b).2.1 ≤ 4 ∧ (lengthP b).1 < 268435456 := by
  have := lengthF_used b 0 0 (by omega) (by decide) h
  unfold lengthP; omega
theorem lengthF_err (l : List UInt8) : ∀ i n, (lengthF l i n).2.2 = 0 ∨ ((lengthF l i n).2.2 = 3 ∨ (lengthF l i n).2.2 = 4) ∧ (lengthF l i n).1 = 0 ∧ (lengthF l i n).2.1 = 0 := by
  induction l with
  | nil => intro i n; simp [lengthF]
  | cons c l ih =>
    intro i n
    rw [lengthF]
    split
    · simp
    · split
      · exact ih _ _
      · split <;> simp
/-- the row of texts whose bytes these are, the error -/
def textsF : Nat → List UInt8 → List (List UInt8) × Int
  | 0, _ => ([], 0)
  | f + 1, b => if b = [] then ([], 0) else
      if (lengthP b).2.2 ≠ 0 then ([], (lengthP b).2.2) else
      if (b.drop (lengthP b).2.1).length < (lengthP b).1 then ([], 4) else
      if (textsF f ((b.drop (lengthP b).2.1).drop (lengthP b).1)).2 ≠ 0 then ([], (textsF f ((b.drop (lengthP b).2.1).drop (lengthP b).1)).2) else
      ((b.drop (lengthP b).2.1).take (lengthP b).1 :: (textsF f ((b.drop (lengthP b).2.1).drop (lengthP b).1)).1, 0)
theorem textsF_more (f : Nat) : ∀ (g : Nat) (b : List UInt8), b.length ≤ f → b.length ≤ g → textsF f b = textsF g b := by
  induction f with
  | zero =>
    intro g b h _
    obtain rfl : b = [] := List.eq_nil_of_length_eq_zero (by omega)
    cases g <;> simp [textsF]
  | succ f ih =>
    intro g b h hg
    cases g with
    | zero =>
      obtain rfl : b = [] := List.eq_nil_of_length_eq_zero (by omega)
      simp [textsF]
    | succ g =>
      by_cases hb : b = []
      · simp [textsF, hb]
      · by_cases he : (lengthP b).2.2 = 0
        · have hu := lengthP_used b he
          have hd : ((b.drop (lengthP b).2.1).drop (lengthP b).1).length ≤ b.length - 1 := by simp only [List.length_drop]; omega
          have hl : 0 < b.length := List.length_pos_iff.2 hb
          simp only [textsF, ih g ((b.drop (lengthP b).2.1).drop (lengthP b).1) (by omega) (by omega)]
        · simp [textsF, hb, he]
def textsP (b : List UInt8) : List (List UInt8) × Int := textsF b.length b
theorem textsP_nil : textsP [] = ([], 0) := rfl
theorem textsP_step (b : List UInt8) (hb : b ≠ []) : textsP b = if (lengthP b).2.2 ≠ 0 then ([], (lengthP b).2.2) else
      if (b.drop (lengthP b).2.1).length < (lengthP b).1 then ([], 4) else
      if (textsP ((b.drop (lengthP b).2.1).drop (lengthP b).1)).2 ≠ 0 then ([], (textsP ((b.drop (lengthP b).2.1).drop (lengthP b).1)).2) else
      ((b.drop (lengthP b).2.1).take (lengthP b).1 :: (textsP ((b.drop (lengthP b).2.1).drop (lengthP b).1)).1, 0) := by
  have hl : 0 < b.length := List.length_pos_iff.2 hb
  unfold textsP
  obtain ⟨f, hf⟩ : ∃ f, b.length = f + 1 := ⟨b.length - 1, by omega⟩
  rw [hf, textsF, if_neg hb]
  by_cases he : (lengthP b).2.2 = 0
  · have hu := lengthP_used b he
    have hd : ((b.drop (lengthP b).2.1).drop (lengthP b).1).length ≤ f := by simp only [List.length_drop]; omega
    rw [textsF_more f _ _ hd (Nat.le_refl _)]
  · rw [if_pos he, if_pos he]
theorem textsP_err (b : List UInt8) (h : (textsP b).2 ≠ 0) : (textsP b).1 = [] := by
  by_cases hb : b = []
  · subst hb; rfl
  · rw [textsP_step b hb] at h ⊢
    split
    · rfl
    · split
      · rfl
      · split
        · rfl
        · rename_i h1 h2 h3
          rw [if_neg h1, if_neg h2, if_neg h3] at h
          exact absurd rfl h
theorem textsP_len (b : List UInt8) : (textsP b).1.length ≤ b.length ∧ ∀ s ∈ (textsP b).1, s.length ≤ b.length := by
  induction hn : b.length using Nat.strongRecOn generalizing b with
  | ind n ih =>
    by_cases hb : b = []
    · subst hb; simp [textsP_nil]
    · rw [textsP_step b hb]
      split
      · simp
      · rename_i h1
        have he : (lengthP b).2.2 = 0 := by simpa using h1
        have hu := lengthP_used b he
        split
        · simp
        · split
          · simp
          · have hd : ((b.drop (lengthP b).2.1).drop (lengthP b).1).length < n := by simp only [List.length_drop]; omega
            obtain ⟨i1, i2⟩ := ih _ hd _ rfl
            refine ⟨by simp only [List.length_cons]; omega, fun s hs => ?_⟩
            rcases List.mem_cons.1 hs with rfl | hs
            · simp only [List.length_take, List.length_drop]; omega
            · have := i2 s hs; omega
theorem lengthF_row (m : Nat) : ∀ (i n : Nat) (rest : List UInt8), i ≤ 3 → m < 128 ^ (4 - i) → (0 < i → 0 < m) → lengthF (lenL m ++ rest) i n = (n + m * 128 ^ i, i + (lenL m).length, 0) := by
  induction m using Nat.strongRecOn with
  | ind m ih =>
    intro i n rest hi hm h0
    by_cases h : m < 128
    · have e : (UInt8.ofNat m).toNat = m := by rw [UInt8.toNat_ofNat']; omega
      rw [lenL_small h]
      simp only [List.cons_append, List.nil_append, lengthF, e]
      rw [if_neg (by omega), if_neg (by omega), if_neg (by omega)]
      rfl
    · have e : (UInt8.ofNat (m % 128 + 128)).toNat = m % 128 + 128 := by rw [UInt8.toNat_ofNat']; omega
      have hi2 : i < 3 := by
        rcases Nat.lt_or_ge i 3 with h' | h'
        · exact h'
        · obtain rfl : i = 3 := by omega
          simp at hm; omega
      rw [lenL_big h]
      simp only [List.cons_append, lengthF, e]
      rw [if_neg (by omega), if_pos (by omega)]
      have hm2 : m / 128 < 128 ^ (4 - (i + 1)) := by
        have : 128 ^ (4 - i) = 128 ^ (4 - (i + 1)) * 128 := by rw [← Nat.pow_succ]; congr 1; omega
        rw [this] at hm
        exact (Nat.div_lt_iff_lt_mul (by omega)).2 hm
      rw [ih (m / 128) (by omega) (i + 1) _ rest (by omega) hm2 (fun _ => by omega)]
      have e2 : (m % 128 + 128) % 128 = m % 128 := by omega
      rw [e2, Nat.pow_succ]
      refine Prod.ext ?_ (Prod.ext ?_ rfl)
      · have hd := Nat.div_add_mod m 128
        have : m * 128 ^ i = (128 * (m / 128) + m % 128) * 128 ^ i := by rw [hd]
        rw [this, Nat.add_mul]
        have c : m / 128 * (128 ^ i * 128) = 128 * (m / 128) * 128 ^ i := by rw [Nat.mul_comm (128 ^ i) 128, ← Nat.mul_assoc, Nat.mul_comm (m / 128) 128]
        simp only [c]; omega
      · simp only [List.length_cons]; omega
theorem lengthP_row (m : Nat) (rest : List UInt8) (hm : m < 268435456) : lengthP (lenL m ++ rest) = (m, (lenL m).length, 0) := by
  have := lengthF_row m 0 0 rest (by omega) (by simpa using hm) (by omega)
  unfold lengthP; rw [this]; simp
theorem textsP_row (ss : List (List UInt8)) (h : ∀ s ∈ ss, s.length < 268435456) : textsP (rowL ss) = (ss, 0) := by
  induction ss with
  | nil => rfl
  | cons s ss ih =>
    have hs := h s (by simp)
    have hne : rowL (s :: ss) ≠ [] := by
      rw [rowL_cons]; intro e
      have := congrArg List.length e
      have := lenL_pos s.length
      simp only [List.length_append, List.length_nil] at *; omega
    have hl : lengthP (rowL (s :: ss)) = (s.length, (lenL s.length).length, 0) := by
      rw [rowL_cons, List.append_assoc]; exact lengthP_row _ _ hs
    rw [textsP_step _ hne, hl]
    have d1 : (rowL (s :: ss)).drop (lenL s.length).length = s ++ rowL ss := by rw [rowL_cons, List.append_assoc]; simp
    simp only [d1, List.drop_left, List.take_left, ih (fun x hx => h x (by simp [hx]))]
    rw [if_neg (by simp), if_neg (by simp), if_neg (by simp)]
end Go.Proofs.Ytmcoepkopfcbdaa
/- The walk of num.Row. -/
namespace Go.Proofs.Ytmcoepkopfcbdaa
open Go.RowKit

def sumL (ss : List (List UInt8)) : Nat := (ss.map fun s => s.length + 4).sum
theorem sumL_take (ss : List (List UInt8)) (k : Nat) (h : k < ss.length) : sumL (ss.take (k + 1)) = sumL (ss.take k) + (ss[k].length + 4) := by
  unfold sumL; rw [List.take_succ_eq_append_getElem h, List.map_append, List.sum_append]; simp
theorem sumL_le (ss : List (List UInt8)) (k : Nat) : sumL (ss.take k) ≤ sumL ss := by
  have : sumL ss = sumL (ss.take k) + sumL (ss.drop k) := by
    conv => lhs; rw [← List.take_append_drop k ss]
    unfold sumL; rw [List.map_append, List.sum_append]
  omega
theorem rowL_len (ss : List (List UInt8)) : (rowL ss).length ≤ 2 * sumL ss := by
  induction ss with
  | nil => simp [rowL]
  | cons s ss ih =>
    have := lenL_le s.length
    rw [rowL_cons]; unfold sumL at *
    simp only [List.length_append, List.map_cons, List.sum_cons]; omega
theorem rowL_take (ss : List (List UInt8)) (k : Nat) (h : k < ss.length) : rowL (ss.take (k + 1)) = rowL (ss.take k) ++ (lenL ss[k].length ++ ss[k]) := by
  rw [List.take_succ_eq_append_getElem h, rowL_snoc]
theorem or128 (m : Nat) : bits .or .u8 ((m : Int) % 128) 128 = (((m % 128 + 128 : Nat)) : Int) := by
  have e : ((m : Int) % 128) = ((m % 128 : Nat) : Int) := by omega
  rw [e, show (128 : Int) = ((128 : Nat) : Int) from rfl, u8_or_nat (m % 128) 128 (by omega) (by omega)]
  congr 1
  have := Nat.two_pow_add_eq_or_of_lt (i := 7) (b := m % 128) (by omega) 1
  rw [Nat.or_comm] at this
  simp at this
  omega
set_option maxHeartbeats 1000000 in
set_option maxRecDepth 100000 in
theorem row_any (A : Option Addr) (n c : Nat) (ss : List (List UInt8)) (w : World) (hs : Strs w A n ss) (hsum : sumL ss ≤ 1000000000) (hn : n ≤ 1000000000) :
    Calls Try.prog 50 #[.slice A n c] w fun e w' => e = .returned (.string (str (rowL ss))) ∧ Ext w w' := by
  have hz := str_size
  obtain rfl := hs.1
  go_enter Try.func50, Try.ntmps50
  go_wp2_with fail
  go_loop [3, 5, 12] (fun t _ i => ∃ k : Nat, k ≤ ss.length ∧ i = .int .i64 k ∧ t = .int .i64 (sumL (ss.take k) : Nat)) (fun _ _ i => ss.length - (intOf i).toNat)
  case atStart => exact ⟨0, by omega, rfl, rfl⟩
  case round =>
    obtain ⟨k, hk, rfl, rfl⟩ := hrel
    by_cases hlt : k < ss.length
    · obtain ⟨b, o, rfl, hcell⟩ := hs.2 (by omega)
      have hck := hcell k hlt
      have hst := Lib.hid (sumL_take ss k hlt)
      have hle := sumL_le ss (k + 1)
      rw [sumL_take ss k hlt] at hle
      clear hcell
      go_wp2_with fail
      go_round
      case rel => exact ⟨k + 1, by omega, by go_num, by rw [hst.out]; go_num⟩
      case measure => simp [intOf]; omega
    · obtain rfl : k = ss.length := by omega
      have hle := sumL_le ss ss.length
      go_wp2_with fail
      refine (Try.Builder_Grow_fresh w.heap.size w.heap.size (sumL ss) _ (Nat.le_refl _) (heap_alloc_new w _) (by simp) (by omega)).mono ?_
      rintro e w1 ⟨rfl, hb1, hB1⟩
      have hx1 : Ext w w1 := Below.trans ((Ext.refl w).alloc _) hB1
      have hbb : Bld w.heap.size w.heap.size [] w1 := hb1
      clear hb1 hB1
      go_wp2_with fail
      obtain ⟨wo, rfl⟩ : ∃ wo : World, wo = w1 := ⟨_, rfl⟩
      go_loopw [8, 9, 26] (fun _ _ i wr => ∃ k : Nat, k ≤ ss.length ∧ i = .int .i64 k ∧ Bld w.heap.size w.heap.size (rowL (ss.take k)) wr ∧ Ext w wr) (fun _ _ i _ => ss.length - (intOf i).toNat)
      case atStart => exact ⟨0, by omega, rfl, hbb, hx1⟩
      case round =>
        clear hbb hx1 hle hk hlt
        obtain ⟨k, hk, rfl, hbl, hxr⟩ := hrel
        have hrl := rowL_len (ss.take k)
        have hsl := sumL_le ss k
        by_cases hlt : k < ss.length
        · obtain ⟨b, o, rfl, hcell⟩ := hs.2 (by omega)
          have hck := hxr.keep (hcell k hlt)
          have hrt := Lib.hid (rowL_take ss k hlt)
          have hle := sumL_le ss (k + 1)
          rw [sumL_take ss k hlt] at hle
          clear hcell
          generalize ss[k] = s at *
          generalize hrk : rowL (ss.take k) = r at *
          clear hrk
          go_wp2_with fail
          obtain ⟨wm, rfl⟩ : ∃ wm : World, wm = wr := ⟨_, rfl⟩
          go_loopw [9] (fun t wr => ∃ (m : Nat) (p : List UInt8), t = .int .i64 m ∧ Bld w.heap.size w.heap.size (r ++ p) wr ∧ Ext w wr ∧ p ++ lenL m = lenL s.length ∧ p.length + m ≤ s.length) (fun t _ => (intOf t).toNat)
          case atStart => exact ⟨s.length, [], rfl, by simpa using hbl, hxr, rfl, by simp⟩
          case round =>
            clear hbl hxr hck
            obtain ⟨m, p, rfl, hbl, hxr, hpm, hpl⟩ := hrel
            have hpb : (r ++ p).length ≤ 100000000000 := by rw [List.length_append]; omega
            have hsz := hxr.size
            by_cases hm : m < 128
            · have HL := Lib.hid (show p ++ [UInt8.ofNat m] = lenL s.length by rw [← hpm, lenL_small hm])
              have u1 : IntKind.u8.wrap (m : Int) = m := by rw [IntKind.wrap_u8']; omega
              have hb8 := Lib.hid (show (m : Int) = ((UInt8.ofNat m).toNat : Int) by simp [UInt8.toNat_ofNat']; omega)
              clear hpm
              go_wp2_with fail
              refine (writeByte_any _ _ _ (UInt8.ofNat m) _ wr hbl hsz hpb hb8.out).mono ?_
              rintro e w5 ⟨rfl, hbl5, hB5⟩
              have hx5 : Ext w w5 := Below.trans hxr hB5
              have hsz5 := hx5.size
              go_wp2_with fail
              refine (writeString_any _ _ _ s w5 hbl5 hsz5 (by simp only [List.length_append, List.length_cons, List.length_nil]; omega) (by omega)).mono ?_
              rintro e w6 ⟨rfl, hbl6, hB6⟩
              have hx6 : Ext w w6 := Below.trans hx5 hB6
              go_wp2_with fail
              go_roundw
              case rel =>
                refine ⟨k + 1, by omega, by go_num, ?_, hx6⟩
                rw [hrt.out, ← HL.out]
                simpa [List.append_assoc] using hbl6
              case measure => simp [intOf]; omega
            · have HL := Lib.hid (show (p ++ [UInt8.ofNat (m % 128 + 128)]) ++ lenL (m / 128) = lenL s.length by rw [← hpm, lenL_big hm]; simp)
              have u0 := i64_and127 (m : Int)
              have u1 : IntKind.u8.wrap ((m : Int) % 128) = (m : Int) % 128 := by rw [IntKind.wrap_u8']; omega
              have u2 := or128 m
              have hb8 := Lib.hid (show ((m : Int) % 128 + 128) = ((UInt8.ofNat (m % 128 + 128)).toNat : Int) by simp [UInt8.toNat_ofNat']; omega)
              clear hpm
              go_wp2_with fail
              refine (writeByte_any _ _ _ (UInt8.ofNat (m % 128 + 128)) _ wr hbl hsz hpb hb8.out).mono ?_
              rintro e w5 ⟨rfl, hbl5, hB5⟩
              have hx5 : Ext w w5 := Below.trans hxr hB5
              rw [List.append_assoc] at hbl5
              clear u0 u1 u2
              go_wp2_with fail
              go_roundw
              case rel => exact ⟨m / 128, _, by go_num, hbl5, hx5, HL.out, by simp only [List.length_append, List.length_cons, List.length_nil]; omega⟩
              case measure => simp [intOf]; omega
        · obtain rfl : k = ss.length := by omega
          have hsz := hxr.size
          go_wp2_with fail
          refine (Try.Builder_String_any w.heap.size w.heap.size (rowL (ss.take ss.length)) _ (.inr hbl) hsz).mono ?_
          rintro e w5 ⟨rfl, hB5⟩
          go_wp2_with fail
          go_ret
          exact ⟨rfl, Below.trans hxr hB5⟩
end Go.Proofs.Ytmcoepkopfcbdaa
