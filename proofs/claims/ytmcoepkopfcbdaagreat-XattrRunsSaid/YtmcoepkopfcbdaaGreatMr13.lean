/- The walk of xattr.attributes. -/
import Derived.Test.YtmcoepkopfcbdaaGreatMr12
import Derived.Deep.DeepCutAuto
import Derived.Deep.AppendLies
import Derived.Deep.RegionLaw
import Derived.Lib.Bytealg
import Derived.Test.YtmcoepkopfcbdaaGreatMr10
import Derived.BigRegion
namespace Go.Proofs.YtmcoepkopfcbdaaGreat
set_option linter.unusedVariables false
open Go.RowKit

abbrev ltB (a b : List UInt8) : Bool := Op.bytesLess a b
def pairsA : List (List UInt8) → List Att
  | a :: b :: l => (a, b) :: pairsA l
  | _ => []
/-- may the text at the place i be a name there? -/
def okAt (t : List (List UInt8)) (i : Nat) : Bool := mayB (t.getD i []) && (decide (i = 0) || ltB (t.getD (i - 2) []) (t.getD i []))
def okAll (t : List (List UInt8)) : Bool := (List.range (t.length / 2)).all fun j => okAt t (j * 2)
def rowOf (b : List UInt8) : List UInt8 := (b.drop 2).take (numL (b.take 2))
/-- the attributes that a block says, if it says some -/
def attrsB (b : List UInt8) : Bool := decide (numL (b.take 2) ≤ 126) && decide ((textsP (rowOf b)).2 = 0) && decide ((textsP (rowOf b)).1 ≠ []) && decide ((textsP (rowOf b)).1.length % 2 = 0) && decide (blockL (rowOf b) = b) && okAll (textsP (rowOf b)).1
def attrsP (b : List UInt8) : List Att := if attrsB b then pairsA (textsP (rowOf b)).1 else []
theorem pairsA_take : ∀ (t : List (List UInt8)) (j : Nat), j * 2 + 1 < t.length → pairsA (t.take (j * 2 + 2)) = pairsA (t.take (j * 2)) ++ [(t.getD (j * 2) [], t.getD (j * 2 + 1) [])]
  | a :: b :: l, 0, _ => by simp [pairsA]
  | a :: b :: l, j + 1, h => by
    have ih := pairsA_take l j (by simp at h; omega)
    have e1 : (a :: b :: l).take ((j + 1) * 2 + 2) = a :: b :: l.take (j * 2 + 2) := by
      rw [show (j + 1) * 2 + 2 = j * 2 + 2 + 1 + 1 by omega]; rfl
    have e2 : (a :: b :: l).take ((j + 1) * 2) = a :: b :: l.take (j * 2) := by
      rw [show (j + 1) * 2 = j * 2 + 1 + 1 by omega]; rfl
    have e3 : (a :: b :: l).getD ((j + 1) * 2) [] = l.getD (j * 2) [] := by rw [show (j + 1) * 2 = j * 2 + 1 + 1 by omega]; rfl
    have e4 : (a :: b :: l).getD ((j + 1) * 2 + 1) [] = l.getD (j * 2 + 1) [] := by rw [show (j + 1) * 2 + 1 = j * 2 + 1 + 1 + 1 by omega]; rfl
    rw [e1, e2, e3, e4]
    simp only [pairsA, ih, List.cons_append]
theorem pairsA_len : ∀ (t : List (List UInt8)), (pairsA t).length = t.length / 2
  | [] => rfl
  | [_] => by simp [pairsA]
  | a :: b :: l => by simp only [pairsA, List.length_cons, pairsA_len l]; omega
theorem own_strs {w : World} {base n : Nat} {u : Value} {ss : List (List UInt8)} (h : w.ownsRow base 9 1 u n (strL ss)) : ∃ A cap, u = .slice A n cap ∧ Strs w A n ss := by
  have hl : n = ss.length := by have := h.1; simpa [strL] using this.symm
  rcases h.2 with ⟨rfl, h0⟩ | ⟨g, cap, cur, rfl, _⟩
  · exact ⟨none, 0, by rw [h0], hl, fun hn => by omega⟩
  · exact ⟨_, _, rfl, Strs.own h⟩
theorem okAll_bad {t : List (List UInt8)} {j : Nat} (hj : j < t.length / 2) (h : okAt t (j * 2) = false) : okAll t = false := by
  unfold okAll
  rw [List.all_eq_false]
  exact ⟨j, List.mem_range.2 hj, by rw [h]; simp⟩
theorem okAll_bad2 {t : List (List UInt8)} {i : Nat} (hi : i < t.length) (hl : t.length % 2 = 0) (he : i % 2 = 0) (h : okAt t i = false) : okAll t = false :=
  okAll_bad (j := i / 2) (by omega) (by rw [show i / 2 * 2 = i by omega]; exact h)
theorem okAll_good {t : List (List UInt8)} (h : ∀ k, k < t.length → k % 2 = 0 → okAt t k = true) (hl : t.length % 2 = 0) : okAll t = true := by
  unfold okAll
  rw [List.all_eq_true]
  intro j hj
  rw [List.mem_range] at hj
  exact h (j * 2) (by omega) (by omega)
theorem pairsA_take2 {t : List (List UInt8)} {i : Nat} (he : i % 2 = 0) (hi : i + 1 < t.length) : pairsA (t.take (i + 2)) = pairsA (t.take i) ++ [(t.getD i [], t.getD (i + 1) [])] := by
  have := pairsA_take t (i / 2) (by omega)
  rw [show i / 2 * 2 = i by omega] at this
  exact this
theorem attrsB_of {b : List UInt8} (h1 : numL (b.take 2) ≤ 126) (h2 : (textsP (rowOf b)).2 = 0) (h3 : (textsP (rowOf b)).1 ≠ []) (h4 : (textsP (rowOf b)).1.length % 2 = 0) (h5 : blockL (rowOf b) = b) : attrsB b = okAll (textsP (rowOf b)).1 := by
  simp [attrsB, h1, h2, h3, h4, h5]
theorem attrsB_no {b : List UInt8} (h : 126 < numL (b.take 2) ∨ (textsP (rowOf b)).2 ≠ 0 ∨ (textsP (rowOf b)).1 = [] ∨ (textsP (rowOf b)).1.length % 2 ≠ 0 ∨ blockL (rowOf b) ≠ b) : attrsB b = false := by
  unfold attrsB
  rcases h with h | h | h | h | h
  · rw [show decide (numL (b.take 2) ≤ 126) = false by simp; omega]; simp
  · rw [show decide ((textsP (rowOf b)).2 = 0) = false by simpa using h]; simp
  · rw [show decide ((textsP (rowOf b)).1 ≠ []) = false by simpa using h]; simp
  · rw [show decide ((textsP (rowOf b)).1.length % 2 = 0) = false by simpa using h]; simp
  · rw [show decide (blockL (rowOf b) = b) = false by simpa using h]; simp
theorem attrsP_no {b : List UInt8} (h : attrsB b = false) : attrsP b = [] := by unfold attrsP; rw [h]; rfl
theorem attrsP_yes {b : List UInt8} (h : attrsB b = true) : attrsP b = pairsA (textsP (rowOf b)).1 := by unfold attrsP; rw [h]; rfl
set_option maxHeartbeats 2000000 in
set_option maxRecDepth 100000 in
theorem attributes_any (b : List UInt8) (w : World) (hb : b.length = 128) :
    Calls Tryz.prog 48 #[.string (str b)] w fun e w' => ∃ u, e = .returned (.tuple #[u, .bool (attrsB b)]) ∧ Ext w w' ∧ OwnA w' w.heap.size u (attrsP b) := by
  have hz := str_size
  have hsz : (str b).size = 128 := by rw [str_size, hb]
  have hnl := numL_lt (b.take 2)
  have hl2 : (b.take 2).length = 2 := by simp; omega
  rw [hl2] at hnl
  have hnl' : numL (b.take 2) < 65536 := by simpa using hnl
  have HG := Lib.hid (fun w => get_z (b.take 2) w (by omega))
  have hse := str_ext
  have hrl : (rowOf b).length ≤ 126 := by simp [rowOf]; omega
  by_cases h1 : 126 < numL (b.take 2)
  · have HN := Lib.hid (attrsB_no (Or.inl h1))
    have hx1 : (126 : Int) < (numL (b.take 2) : Int) := by omega
    go_enter Tryz.func48, Tryz.ntmps48
    go_wp2_with fail
    refine (HG.out _).mono ?_
    rintro e w1 ⟨rfl, rfl⟩
    generalize numL (b.take 2) = n at *
    go_wp2_with fail
    go_ret2
    rw [attrsP_no HN.out, HN.out]
    exact ⟨_, rfl, Ext.refl _, OwnA.nil _ _⟩
  have hro : (b.drop 2).take (numL (b.take 2)) = rowOf b := rfl
  have HT := Lib.hid (fun w => texts_any (rowOf b) w (by omega))
  have HBk := Lib.hid (fun w => block_any (rowOf b) w hrl)
  have HNo := Lib.hid (@attrsB_no b)
  have HYes := Lib.hid (@attrsB_of b)
  have HP := Lib.hid (@attrsP_yes b)
  have HQ := Lib.hid (@attrsP_no b)
  have htl := textsP_len (rowOf b)
  have hx1 : ¬ (126 : Int) < (numL (b.take 2) : Int) := by omega
  go_enter Tryz.func48, Tryz.ntmps48
  go_wp2_with fail
  refine (HG.out _).mono ?_
  rintro e w1 ⟨rfl, rfl⟩
  generalize hnn : numL (b.take 2) = n at *
  have e2 : 2 + n - 2 = n := by omega
  go_wp2_with fail
  refine (HT.out _).mono ?_
  rintro e w2 ⟨u, rfl, x2, own2⟩
  obtain ⟨A, cap, rfl, st2⟩ := own_strs own2
  clear HT
  generalize rowOf b = r at *
  generalize htp : textsP r = tp at *
  obtain ⟨tx, er⟩ := tp
  simp only at own2 st2 htl HNo HYes HP ⊢
  clear htp
  by_cases c1 : er = 0
  case neg =>
    have HN := Lib.hid (HNo.out (Or.inr (Or.inl c1)))
    have d1 : (er != 0) = true := by simpa using c1
    clear c1 HYes HP HNo htl
    go_wp2_with fail
    go_ret2
    rw [HQ.out HN.out, HN.out]
    exact ⟨_, rfl, x2, OwnA.nil _ _⟩
  subst c1
  by_cases c2 : tx = []
  · have HN := Lib.hid (HNo.out (Or.inr (Or.inr (Or.inl c2))))
    have d2 : ((tx.length : Int) == 0) = true := by simp [c2]
    clear c2 HYes HP HNo htl
    go_wp2_with fail
    go_ret2
    rw [HQ.out HN.out, HN.out]
    exact ⟨_, rfl, x2, OwnA.nil _ _⟩
  have c2' : tx.length ≠ 0 := fun h => c2 (List.eq_nil_of_length_eq_zero h)
  have d2 : ((tx.length : Int) == 0) = false := by simpa using c2
  by_cases c3 : tx.length % 2 = 0
  case neg =>
    have HN := Lib.hid (HNo.out (Or.inr (Or.inr (Or.inr (Or.inl c3)))))
    have d3 : ((tx.length : Int) % 2 != 0) = true := by simp; omega
    clear c3 HYes HP HNo htl
    go_wp2_with fail
    go_ret2
    rw [HQ.out HN.out, HN.out]
    exact ⟨_, rfl, x2, OwnA.nil _ _⟩
  have d3 : ((tx.length : Int) % 2 != 0) = false := by simp; omega
  by_cases c4 : blockL r = b
  case neg =>
    have HN := Lib.hid (HNo.out (Or.inr (Or.inr (Or.inr (Or.inr c4)))))
    have d4 : ((str (blockL r)).toList == (str b).toList) = false := by rw [str_toList, str_toList]; simpa using c4
    clear c4 HYes HP HNo htl c3
    go_wp2_with fail
    refine (HBk.out _).mono ?_
    rintro e w3 ⟨rfl, x3⟩
    go_wp2_with fail
    go_ret2
    rw [HQ.out HN.out, HN.out]
    exact ⟨_, rfl, x2.trans x3, OwnA.nil _ _⟩
  have HY := Lib.hid (HYes.out (by omega) rfl c2 c3 c4)
  have d4 : ((str (blockL r)).toList == (str b).toList) = true := by rw [str_toList, str_toList, c4]; simp
  clear c4 HYes HNo
  go_wp2_with fail
  refine (HBk.out _).mono ?_
  rintro e w3 ⟨rfl, x3⟩
  go_wp2_with fail
  have st3 := st2.ext x3
  have own3 := own_ext own2 x3
  have x0 := x2.trans x3
  clear st2 own2 x2 x3 d4 HBk HG HQ
  obtain ⟨g, o, rfl, hcell⟩ := st3.2 (by omega)
  obtain ⟨i0, hi, hz0, hz1, hz2⟩ := info_parts attInfo
  have HCELL := Lib.hid hcell
  clear hcell
  obtain ⟨wo, rfl⟩ : ∃ wo : World, wo = w3 := ⟨_, rfl⟩
  go_loopw [8, 9] (fun v s wr => ∃ i : Nat, i ≤ tx.length ∧ i % 2 = 0 ∧ s = .int .i64 (i : Int) ∧ Ext wo wr ∧ wr.ownsRow wo.heap.size 49 2 v (i / 2) (attL (pairsA (tx.take i))) ∧ ∀ k, k < i → k % 2 = 0 → okAt tx k = true) (fun _ i _ => tx.length - (intOf i).toNat)
  case atStart => exact ⟨0, by omega, by omega, rfl, Ext.refl _, World.ownsRow_nil _ _ _ _, fun k h => by omega⟩
  case round =>
    obtain ⟨i, hi1, hi2, rfl, hx, hown, hok⟩ := hrel
    have HOK := Lib.hid hok
    clear hok
    have xr := x0.trans hx
    have hxs := xr.size
    by_cases hlt : i < tx.length
    · have hj1 : i + 1 < tx.length := by omega
      have g0 : tx.getD i [] = tx[i] := by simp [List.getD, hlt]
      have g1 : tx.getD (i + 1) [] = tx[i + 1] := by simp [List.getD, hj1]
      have k0 : ∀ y : Later wr, y.now.cell? ⟨g, o + i, none⟩ = some (.string (str (tx.getD i []))) := fun y => by rw [g0]; exact (hx.trans y.ext).keep (HCELL.out _ hlt)
      have k1 : ∀ y : Later wr, y.now.cell? ⟨g, o + (i + 1), none⟩ = some (.string (str (tx.getD (i + 1) []))) := fun y => by rw [g1]; exact (hx.trans y.ext).keep (HCELL.out _ hj1)
      have hm0 : (tx.getD i []).length ≤ 1000000000 := by rw [g0]; have := htl.2 _ (List.getElem_mem hlt); omega
      have HM := Lib.hid (fun w => may_any (tx.getD i []) w hm0)
      have HPT := Lib.hid (pairsA_take2 (t := tx) hi2 hj1)
      have HBAD := Lib.hid (@okAll_bad2 tx i hlt c3 hi2)
      have HAT : Hid (okAt tx i = (mayB (tx.getD i []) && (decide (i = 0) || ltB (tx.getD (i - 2) []) (tx.getD i [])))) := rfl
      have K2 : Hid (0 < i → ∀ y : Later wr, y.now.cell? ⟨g, o + (i - 2), none⟩ = some (.string (str (tx.getD (i - 2) [])))) := fun hp y => by
        have hp2 : i - 2 < tx.length := by omega
        have g2 : tx.getD (i - 2) [] = tx[i - 2] := by simp [List.getD, hp2]
        rw [g2]; exact (hx.trans y.ext).keep (HCELL.out _ hp2)
      clear g0 g1 hm0
      generalize tx.getD i [] = sb at *
      generalize tx.getD (i + 1) [] = sc at *
      generalize tx.getD (i - 2) [] = sa at *
      go_wp2_with fail
      go_cut [71] (fun s wx => s = .bool (!(okAt tx i)) ∧ Ext wr wx)
      case first =>
        clear k1 HPT HBAD HOK HCELL
        cases hm : mayB sb with
        | false =>
          have HV := Lib.hid (show okAt tx i = false by rw [HAT.out, hm]; rfl)
          rw [hm] at HM
          clear HAT hm
          refine wp_region_later (by kernel_rfl) (by kernel_rfl) ?_
          repeat (go_big_quiet_step ((with_reducible exact later_of (HM.out _))))
          refine wpQuiet_nil ?_
          rintro w5 ⟨y, rfl⟩
          go_wp2_with fail
          go_meet
          exact ⟨by rw [HV.out]; rfl, y.ext⟩
        | true =>
          rw [hm] at HM
          by_cases hj00 : i = 0
          · have HV := Lib.hid (show okAt tx i = true by rw [HAT.out, hm, hj00]; rfl)
            have hpos : decide ((0 : Int) < (i : Int)) = false := by simp; omega
            have hpos2 : decide (0 < i) = false := by simp; omega
            clear HAT hm hj00
            refine wp_region_later (by kernel_rfl) (by kernel_rfl) ?_
            repeat (go_big_quiet_step ((with_reducible exact later_of (HM.out _))))
            refine wpQuiet_nil ?_
            rintro w5 ⟨y, rfl⟩
            go_wp2_with fail
            go_meet
            exact ⟨by rw [HV.out]; rfl, y.ext⟩
          · have hpos : decide ((0 : Int) < (i : Int)) = true := by simp; omega
            have hpos2 : 0 < i := by omega
            have k2 := K2 (by omega)
            have t1 : IntKind.i64.wrap ((i : Int) - 2) = (i : Int) - 2 := IntWalk.i64_in _ (by omega)
            have t2 : (0 : Int) ≤ (i : Int) - 2 := by omega
            have t3 : ((i : Int) - 2).toNat = i - 2 := by omega
            have t4 : (i : Int) - 2 < (tx.length : Int) := by omega
            have t5 : (2 : Int) ≤ (i : Int) := by omega
            have t6 : 2 ≤ i := by omega
            cases hl : ltB sa sb with
            | false =>
              have HV := Lib.hid (show okAt tx i = false by rw [HAT.out, hm, hl]; simp; omega)
              have hl' : Op.bytesLess (str sa).toList (str sb).toList = false := by rw [str_toList, str_toList]; exact hl
              clear HAT hm hl
              refine wp_region_later (by kernel_rfl) (by kernel_rfl) ?_
              repeat (go_big_quiet_step ((with_reducible exact later_of (HM.out _))))
              refine wpQuiet_nil ?_
              rintro w5 ⟨y, rfl⟩
              go_wp2_with fail
              go_meet
              exact ⟨by rw [HV.out]; rfl, y.ext⟩
            | true =>
              have HV := Lib.hid (show okAt tx i = true by rw [HAT.out, hm, hl]; simp)
              have hl' : Op.bytesLess (str sa).toList (str sb).toList = true := by rw [str_toList, str_toList]; exact hl
              clear HAT hm hl
              refine wp_region_later (by kernel_rfl) (by kernel_rfl) ?_
              repeat (go_big_quiet_step ((with_reducible exact later_of (HM.out _))))
              refine wpQuiet_nil ?_
              rintro w5 ⟨y, rfl⟩
              go_wp2_with fail
              go_meet
              exact ⟨by rw [HV.out]; rfl, y.ext⟩
      case rest =>
        obtain ⟨rfl, hxc⟩ := hcut
        cases hv : okAt tx i with
        | false =>
          have HN := Lib.hid (show attrsB b = false by rw [HY.out]; exact HBAD.out hv)
          have HN2 := Lib.hid (attrsP_no HN.out)
          clear hv
          go_wp2_with fail
          go_ret2
          rw [HN2.out, HN.out]
          exact ⟨_, rfl, xr.trans hxc, OwnA.nil _ _⟩
        | true =>
          have HOK2 := Lib.hid (show ∀ k, k < i + 2 → k % 2 = 0 → okAt tx k = true from fun k hk he => by
            by_cases e : k < i
            · exact HOK.out k e he
            · obtain rfl : k = i := by omega
              exact hv)
          clear hv HBAD HM HAT K2 HOK
          have q0 : wc.drew.cell? ⟨g, o + i, none⟩ = some (.string (str sb)) := k0 ⟨wc, hxc⟩
          have q1 : wc.drew.cell? ⟨g, o + (i + 1), none⟩ = some (.string (str sc)) := k1 ⟨wc, hxc⟩
          have ownc : (wc.drew.alloc (.cells #[.string (str sb), .string (str sc)] 49)).ownsRow wo.heap.size 49 2 u8 (i / 2) (attL (pairsA (tx.take i))) := own_ext (own_ext hown hxc) (((Ext.refl wc).drew).alloc _)
          have HNEW := Lib.hid (World.news_of_block (w := wc.drew.alloc (.cells #[.string (str sb), .string (str sc)] 49)) (Box.new wc.drew 49 #[.string (str sb), .string (str sc)]))
          have hwc : wo.heap.size ≤ wc.heap.size := (hx.trans hxc).size
          have hlo := Lib.hid (show ∀ k, u8.ownBlock = some k → wo.heap.size ≤ k from fun k e => own_low hown e)
          have t1 : IntKind.i64.wrap ((i : Int) + 1) = (i : Int) + 1 := IntWalk.i64_in _ (by omega)
          have t2 : (0 : Int) ≤ (i : Int) + 1 := by omega
          have t3 : ((i : Int) + 1).toNat = i + 1 := by omega
          have t4 : (i : Int) + 1 < (tx.length : Int) := by omega
          clear k0 k1
          go_wp2_with fail
          go_region_law ((refine step_append_lies _ rfl (.tmp 72) (.tmp 83) 43 rfl wo.heap.size 49 i0 _ 2 32 Tryz.underlying43 hi hz0 hz1 hz2 rfl (by decide) u8 (i / 2) _ (by simp [Act.eval]) ownc ⟨wc.heap.size, 0, none⟩ 1 1 [.string (str sb), .string (str sc)] (by simp [Act.eval]) rfl HNEW.out (all_one rfl) (by decide) (by unfold maxLen; omega) (by omega) (by simp; omega) (wc.heap.size + 1) (by simp) ?_; intro g1 cap1 w6 own6 hg6 _ _))
          all_goals
            have xF : Ext wo w6 := ((hx.trans hxc).drew.alloc _).grown hg6 (fun k e => hlo.out k e)
            have ownF : w6.ownsRow wo.heap.size 49 2 (.slice (some ⟨g1, 0, none⟩) (i / 2 + 1) cap1) ((i + 2) / 2) (attL (pairsA (tx.take (i + 2)))) := by
              rw [HPT.out, attL_append, show (i + 2) / 2 = i / 2 + 1 by omega]
              exact own6
            clear own6 hg6 ownc HNEW t1 t2 t3 t4
            go_wp2_with fail
            go_roundw
            case rel => exact ⟨i + 2, by omega, by omega, by go_num, xF, ownF, HOK2.out⟩
            case measure => simp [intOf]; omega
    · obtain rfl : i = tx.length := by omega
      have HN := Lib.hid (show attrsB b = true by rw [HY.out]; exact okAll_good HOK.out c3)
      have HN2 := Lib.hid (HP.out HN.out)
      go_wp2_with fail
      go_ret2
      rw [HN2.out, HN.out]
      refine ⟨_, rfl, xr, ?_⟩
      unfold OwnA
      rw [pairsA_len]
      rw [List.take_length] at hown
      exact own_base hown x0.size
end Go.Proofs.YtmcoepkopfcbdaaGreat
/- Plain: the order of texts. -/
namespace Go.Proofs.YtmcoepkopfcbdaaGreat
set_option linter.unusedVariables false

theorem u8_lt_iff (a b : UInt8) : a < b ↔ a.toNat < b.toNat := UInt8.lt_iff_toNat_lt
theorem u8_eq_iff (a b : UInt8) : a = b ↔ a.toNat = b.toNat := ⟨fun h => by rw [h], fun h => UInt8.toNat.inj h⟩
theorem ltB_irrefl : ∀ a : List UInt8, ltB a a = false
  | [] => rfl
  | c :: a => by
    have := ltB_irrefl a
    simp only [Op.bytesLess, u8_lt_iff, Nat.lt_irrefl, decide_false, Bool.false_or, beq_self_eq_true, Bool.true_and]; exact this
theorem ltB_cons (c d : UInt8) (a b : List UInt8) : ltB (c :: a) (d :: b) = true ↔ c.toNat < d.toNat ∨ (c.toNat = d.toNat ∧ ltB a b = true) := by
  simp only [Op.bytesLess, u8_lt_iff, Bool.or_eq_true, decide_eq_true_eq, Bool.and_eq_true, beq_iff_eq, u8_eq_iff]
theorem ltB_trans : ∀ (a b c : List UInt8), ltB a b = true → ltB b c = true → ltB a c = true
  | _, _, [], _, h => by simp [Op.bytesLess] at h
  | _, [], _ :: _, h, _ => by simp [Op.bytesLess] at h
  | [], _ :: _, _ :: _, _, _ => rfl
  | x :: a, y :: b, z :: c, h1, h2 => by
    rw [ltB_cons] at *
    rcases h1 with h1 | ⟨e1, h1⟩ <;> rcases h2 with h2 | ⟨e2, h2⟩
    · exact .inl (by omega)
    · exact .inl (by omega)
    · exact .inl (by omega)
    · exact .inr ⟨by omega, ltB_trans a b c h1 h2⟩
theorem ltB_tri : ∀ (a b : List UInt8), ltB a b = false → ltB b a = false → a = b
  | [], [], _, _ => rfl
  | [], _ :: _, h, _ => by simp [Op.bytesLess] at h
  | _ :: _, [], _, h => by simp [Op.bytesLess] at h
  | x :: a, y :: b, h1, h2 => by
    have h1' : ¬ ltB (x :: a) (y :: b) = true := by rw [h1]; simp
    have h2' : ¬ ltB (y :: b) (x :: a) = true := by rw [h2]; simp
    rw [ltB_cons] at h1' h2'
    have e : x.toNat = y.toNat := by omega
    have ha : ltB a b = false := by cases h : ltB a b with
      | false => rfl
      | true => exact absurd (Or.inr ⟨e, h⟩) h1'
    have hb : ltB b a = false := by cases h : ltB b a with
      | false => rfl
      | true => exact absurd (Or.inr ⟨e.symm, h⟩) h2'
    rw [(u8_eq_iff x y).2 e, ltB_tri a b ha hb]
theorem ltB_asymm (a b : List UInt8) (h : ltB a b = true) : ltB b a = false := by
  cases h' : ltB b a with
  | false => rfl
  | true => have := ltB_trans a b a h h'; rw [ltB_irrefl] at this; cases this
theorem cmp_ltB : ∀ (a b : List UInt8), decide (Lib.compareBytes a b < 0) = ltB a b
  | [], [] => rfl
  | [], _ :: _ => rfl
  | _ :: _, [] => rfl
  | x :: a, y :: b => by
    have ih := cmp_ltB a b
    unfold Lib.compareBytes
    simp only [Op.bytesLess]
    by_cases h : x < y
    · simp [h]
    · by_cases h2 : y < x
      · have hne : ¬ x = y := by intro e; subst e; exact h h2
        simp [h, h2, hne]
      · have e : x = y := (u8_eq_iff x y).2 (by rw [u8_lt_iff] at h h2; omega)
        subst e
        simp [h, ih]
/-- names in rising order -/
def Rising (l : List Att) : Prop := l.Pairwise fun x y => ltB x.1 y.1 = true
end Go.Proofs.YtmcoepkopfcbdaaGreat
/- The walks of xattr.of, opened, List and Get on a volume that is one. -/
namespace Go.Proofs.YtmcoepkopfcbdaaGreat
set_option linter.unusedVariables false
open Go.RowKit

theorem str_beq (a b : List UInt8) : ((str a).toList == (str b).toList) = (a == b) := by rw [str_toList, str_toList]
set_option maxHeartbeats 400000 in
theorem of1_any (g : Nat) (a b name : List UInt8) (w : World) (h : w.cell? ⟨g, 0, none⟩ = some (.string (str name))) :
    Calls Tryz.prog 50 #[.agg #[.string (str a), .string (str b)], .pointer (some ⟨g, 0, none⟩)] w fun e w' => e = .returned (.bool (a == name)) ∧ Ext w w' := by
  have hlt : g < w.heap.size := World.block_lt_of_cell? w _ h
  have hb := str_beq
  have hc : (w.alloc (.cells #[.string (str a), .string (str b)] 49)).cell? ⟨g, 0, none⟩ = some (.string (str name)) := ((Ext.refl w).alloc _).keep h
  go_enter Tryz.func50, Tryz.ntmps50
  go_wp2_with fail
  go_ret
  exact ⟨rfl, (Ext.refl w).alloc _⟩
/-- the place of a name -/
def idxA (l : List Att) (name : List UInt8) : Int := match l.findIdx? (fun x => x.1 == name) with | some i => i | none => -1
theorem idxA_yes {l : List Att} {name : List UInt8} {i : Nat} (hi : i < l.length) (h : (l[i].1 == name) = true) (hn : ∀ (j : Nat) (hj : j < l.length), j < i → (l[j].1 == name) = false) : idxA l name = i := by
  have : l.findIdx? (fun x => x.1 == name) = some i := List.findIdx?_eq_some_iff_getElem.2 ⟨hi, h, fun j hj => by rw [hn j (by omega) hj]; simp⟩
  unfold idxA; rw [this]
theorem idxA_no {l : List Att} {name : List UInt8} (hn : ∀ (j : Nat) (hj : j < l.length), (l[j].1 == name) = false) : idxA l name = -1 := by
  have : l.findIdx? (fun x => x.1 == name) = none := by
    rw [List.findIdx?_eq_none_iff]
    intro x hx
    obtain ⟨j, hj, rfl⟩ := List.getElem_of_mem hx
    exact hn j hj
  unfold idxA; rw [this]
set_option maxHeartbeats 1000000 in
set_option maxRecDepth 100000 in
theorem index_any (A : Option Addr) (n c g : Nat) (l : List Att) (name : List UInt8) (w : World) (hs : Atts w A n l) (hn : n ≤ 1000000) (hg : w.cell? ⟨g, 0, none⟩ = some (.string (str name))) :
    Calls Tryz.prog 49 #[.slice A n c, .func (.func 50) #[] #[.pointer (some ⟨g, 0, none⟩)]] w fun e w' => e = .returned (.int .i64 (idxA l name)) ∧ Ext w w' := by
  obtain rfl := hs.1
  go_enter Tryz.func49, Tryz.ntmps49
  go_wp2_with fail
  go_loopw [5, 8] (fun _ s wr => ∃ k : Nat, k ≤ l.length ∧ s = .int .i64 (k : Int) ∧ Ext w wr ∧ ∀ (j : Nat) (hj : j < l.length), j < k → (l[j].1 == name) = false) (fun _ s _ => l.length - (intOf s).toNat)
  case atStart => exact ⟨0, by omega, rfl, Ext.refl _, fun j _ h => by omega⟩
  case round =>
    obtain ⟨k, hk, rfl, hx, hno⟩ := hrel
    have HNO := Lib.hid hno
    clear hno
    by_cases hlt : k < l.length
    · obtain ⟨b, o, rfl, hcell⟩ := hs.2 (by omega)
      have c1 := hx.keep (hcell k hlt).1
      have c2 := hx.keep (hcell k hlt).2
      have HY := Lib.hid (fun h => @idxA_yes l name k hlt h HNO.out)
      have HN := Lib.hid (show (l[k].1 == name) = false → ∀ (j : Nat) (hj : j < l.length), j < k + 1 → (l[j].1 == name) = false from fun h j hj hlt2 => by
        by_cases e : j < k
        · exact HNO.out j hj e
        · obtain rfl : j = k := by omega
          exact h)
      have HO := Lib.hid (fun w h => of1_any g l[k].1 l[k].2 name w h)
      clear hcell HNO
      generalize l[k] = at1 at *
      go_wp2_with fail
      refine (HO.out _ (hx.keep hg)).mono ?_
      rintro e w1 ⟨rfl, x1⟩
      cases hb : (at1.1 == name) with
      | true =>
        have HV := Lib.hid (HY.out hb)
        clear hb
        go_wp2_with fail
        go_ret
        rw [HV.out]
        exact ⟨rfl, hx.trans x1⟩
      | false =>
        have HV := Lib.hid (HN.out hb)
        clear hb
        go_wp2_with fail
        go_roundw
        case rel => exact ⟨k + 1, by omega, by go_num, hx.trans x1, HV.out⟩
        case measure => simp [intOf]; omega
    · obtain rfl : k = l.length := by omega
      have HV := Lib.hid (@idxA_no l name (fun j hj => HNO.out j hj hj))
      go_wp2_with fail
      go_ret
      rw [HV.out]
      exact ⟨rfl, hx⟩
set_option maxHeartbeats 400000 in
theorem of_any (A : Option Addr) (n c : Nat) (l : List Att) (name : List UInt8) (w : World) (hs : Atts w A n l) (hn : n ≤ 1000000) :
    Calls Tryz.prog 18 #[.slice A n c, .string (str name)] w fun e w' => e = .returned (.int .i64 (idxA l name)) ∧ Ext w w' := by
  have x1 : Ext w (w.alloc (.cells #[.string (str name)] 9)) := (Ext.refl w).alloc _
  have HI := Lib.hid (index_any A n c w.heap.size l name _ (hs.ext x1) hn ((Box.new w 9 #[.string (str name)]).cell 0))
  go_enter Tryz.func18, Tryz.ntmps18
  go_wp2_with fail
  refine HI.out.mono ?_
  rintro e w1 ⟨rfl, x2⟩
  go_wp2_with fail
  go_ret
  exact ⟨rfl, x1.trans x2⟩
end Go.Proofs.YtmcoepkopfcbdaaGreat
/- The walks of xattr.opened, List and Get on a volume that is one. -/
namespace Go.Proofs.YtmcoepkopfcbdaaGreat
set_option linter.unusedVariables false
open Go.RowKit

set_option maxHeartbeats 1000000 in
set_option maxRecDepth 100000 in
theorem used_big (A : Option Addr) (n c : Nat) (i : Int) (v : List (List UInt8)) (I : Int) (w : World) (hv : Strs w A n v) (hg : Good v I) (h0 : 0 ≤ i) (hi : v.length ≤ i) :
    Calls Tryz.prog 47 #[.slice A n c, .int .i64 i] w fun e w' => e = .returned (.bool false) ∧ Ext w w' := by
  have hpl := plan_bd hg.plan
  have HO := Lib.hid (fun w h => of_yes A n c v I w h hg)
  have d1 : ¬ i < (v.length : Int) := by omega
  have d2 : decide (i < (v.length : Int)) = false := by simp; omega
  go_enter Tryz.func47, Tryz.ntmps47
  go_wp2_with fail
  refine (HO.out _ hv).mono ?_
  rintro e w1 ⟨rfl, x1⟩
  unfold geomV
  go_wp2_with fail
  go_ret
  exact ⟨rfl, x1.alloc _⟩
def dataOf (I : Int) : Int := 3 + (I + 1) / 2
def usedB (v : List (List UInt8)) (i : Int) : Bool := decide (0 ≤ i ∧ i < v.length) && bitB (v.getD 2 []) i.toNat
theorem used_good (A : Option Addr) (n c : Nat) (i : Int) (v : List (List UInt8)) (I : Int) (w : World) (hv : Strs w A n v) (hg : Good v I) (h0 : 0 ≤ i) :
    Calls Tryz.prog 47 #[.slice A n c, .int .i64 i] w fun e w' => e = .returned (.bool (usedB v i)) ∧ Ext w w' := by
  by_cases hi : i < v.length
  · obtain ⟨k, rfl⟩ := Int.eq_ofNat_of_zero_le h0
    have e : usedB v (k : Int) = bitB (v.getD 2 []) k := by unfold usedB; rw [show decide (0 ≤ (k : Int) ∧ (k : Int) < v.length) = true by simp; omega]; rfl
    rw [e]
    exact used_any A n c k v I w hv hg (by omega)
  · have e : usedB v i = false := by unfold usedB; rw [show decide (0 ≤ i ∧ i < (v.length : Int)) = false by simp; omega]; rfl
    rw [e]
    exact used_big A n c i v I w hv hg h0 (by omega)
/-- an inode, its attributes, the error -/
def openP (v : List (List UInt8)) (I k : Int) : List Int × List Att × Int :=
  if k < 1 ∨ I < k then (zero12, [], 2) else
  if (inoAt v k).getD 0 0 = 0 then (zero12, [], 9) else
  if (inoAt v k).getD 11 0 = 0 then (inoAt v k, [], 0) else
  if (inoAt v k).getD 11 0 < dataOf I ∨ usedB v ((inoAt v k).getD 11 0) = false ∨ attrsB (v.getD ((inoAt v k).getD 11 0).toNat []) = false then (zero12, [], 3) else
  (inoAt v k, attrsP (v.getD ((inoAt v k).getD 11 0).toNat []), 0)
theorem results_cell3 {fn : Func} {p s r : Tmp} {ty : TypeId} (h : fn.results = #[.cell p ty, .tmp s, .tmp r]) (tmps : Array Value) (w : World) (g : Nat) (t : TypeId) (cs : Array Value) (d : TypeDesc) (v u : Value)
    (hp : tmps.getD p undef = .pointer (some ⟨g, 0, none⟩)) (hs : tmps.getD s undef = v) (hr : tmps.getD r undef = u) (hg : Box w g t cs)
    (hu : Tryz.prog.underlying ty = some d) (hd : isAggD d = true) (hi : (Tryz.prog.info? ty).map (·.size) = some cs.size) :
    (results fn tmps).run Tryz.prog w = .ok (.tuple #[.agg cs, v, u]) w := by
  have hp' : tmps[p]?.getD undef = .pointer (some ⟨g, 0, none⟩) := by simpa using hp
  have hs' : tmps[s]?.getD undef = v := by simpa using hs
  have hr' : tmps[r]?.getD undef = u := by simpa using hr
  simp [results, h, hp', hs', hr', asAddr, run_loadVar_row w g t ty cs (0, 0) d hg hu (by cases d <;> first | rfl | cases hd) hi]
theorem inoAt_extra (v : List (List UInt8)) (k : Int) : 0 ≤ (inoAt v k).getD 11 0 ∧ (inoAt v k).getD 11 0 < 4294967296 := fnum_bd _ _ 2 (by omega)
theorem inoSize' {x : List Int} (h : x.length = 12) : (Tryz.prog.info? 42).map (·.size) = some (intVals x).size := by rw [intVals_size, h]; exact inoSize
set_option maxHeartbeats 2000000 in
set_option maxRecDepth 100000 in
theorem opened_any (A : Option Addr) (n c : Nat) (v : List (List UInt8)) (I k : Int) (w : World) (hv : Strs w A n v) (hg : Good v I) :
    Calls Tryz.prog 16 #[.slice A n c, .int .i64 k] w fun e w' => ∃ u, e = .returned (.tuple #[.agg (intVals (openP v I k).1), u, .int .i64 (openP v I k).2.2]) ∧ Ext w w' ∧ OwnA w' w.heap.size u (openP v I k).2.1 := by
  have hpl := plan_bd hg.plan
  by_cases hk : k < 1 ∨ I < k
  · have HV := Lib.hid (show openP v I k = (zero12, [], 2) from if_pos hk)
    have HI := Lib.hid (fun w h => iget_no A n c v I k w h hg hk)
    clear hk
    go_enter Tryz.func16, Tryz.ntmps16
    go_wp2_with fail
    refine (HI.out _ (hv.ext ((Ext.refl _).alloc _))).mono ?_
    rintro e w1 ⟨rfl, x1⟩
    have x0 : Ext w w1 := ((Ext.refl w).alloc _).trans x1
    have bR : Box w1 w.heap.size 42 (intVals zero12) := (Box.new w 42 _).ext x1
    have hlt := bR.lt
    clear x1
    go_wp2_with (first
      | (refine wp_st_ino (.tmp 7) (.tmp 16) rfl rfl w1.heap.size _ zero12 42 rfl rfl (Box.new _ _ _) rfl rfl ?_; intro w2 b2 g2; have x2 : Ext w w2 := (x0.alloc _).grown g2 (fun k e => by cases e; exact x0.size); have bR2 := (bR.ext ((Ext.refl _).alloc _)).grown g2 (by simp; omega))
      | (refine wp_st_ino (.tmp 4) (.tmp 20) rfl rfl w.heap.size zero12 zero12 42 rfl rfl bR2 rfl rfl ?_; intro w4 b4 g4))
    rw [HV.out]
    refine bodyPost_ret (results_cell3 rfl _ _ w.heap.size _ _ _ (.slice none 0 0) (.int .i64 2) rfl rfl rfl b4 Tryz.underlying42 rfl inoSize) rfl ⟨_, rfl, ?_, OwnA.nil _ _⟩
    exact x2.grown g4 (fun k e => by cases e; exact Nat.le_refl _)
  have HI := Lib.hid (fun w h => iget_yes A n c v I k w h hg (by omega) (by omega))
  have hxl := inoAt_len v k
  have hxe := inoAt_extra v k
  have HOP : Hid (openP v I k = if (inoAt v k).getD 0 0 = 0 then (zero12, [], 9) else
    if (inoAt v k).getD 11 0 = 0 then (inoAt v k, [], 0) else
    if (inoAt v k).getD 11 0 < dataOf I ∨ usedB v ((inoAt v k).getD 11 0) = false ∨ attrsB (v.getD ((inoAt v k).getD 11 0).toNat []) = false then (zero12, [], 3) else
    (inoAt v k, attrsP (v.getD ((inoAt v k).getD 11 0).toNat []), 0)) := if_neg hk
  clear hk
  generalize inoAt v k = x at *
  generalize hx0 : x.getD 0 0 = kind at *
  generalize hx11 : x.getD 11 0 = ext at *
  have H0 := Lib.hid hx0
  have H11 := Lib.hid hx11
  clear hx0 hx11
  by_cases c1 : kind = 0
  · have HV := Lib.hid (show openP v I k = (zero12, [], 9) from HOP.out.trans (if_pos c1))
    have d1 : (kind == 0) = true := by simpa using c1
    clear c1 HOP
    go_enter Tryz.func16, Tryz.ntmps16
    go_wp2_with fail
    refine (HI.out _ (hv.ext ((Ext.refl _).alloc _))).mono ?_
    rintro e w1 ⟨rfl, x1⟩
    have x0 : Ext w w1 := ((Ext.refl w).alloc _).trans x1
    have bR : Box w1 w.heap.size 42 (intVals zero12) := (Box.new w 42 _).ext x1
    have hlt := bR.lt
    clear x1
    go_wp2_with (first
      | (refine wp_st_ino (.tmp 7) (.tmp 16) rfl rfl w1.heap.size _ zero12 42 rfl rfl (Box.new _ _ _) hxl rfl ?_; intro w2 b2 g2; have x2 : Ext w w2 := (x0.alloc _).grown g2 (fun k e => by cases e; exact x0.size); have bR2 := (bR.ext ((Ext.refl _).alloc _)).grown g2 (by simp; omega); have c0 := b2.at 0 (by omega); have c11 := b2.at 11 (by omega); rw [H0.out] at c0)
      | (refine wp_st_ino (.tmp 4) (.tmp 25) rfl rfl w.heap.size zero12 zero12 42 rfl rfl bR2 rfl rfl ?_; intro w4 b4 g4))
    rw [HV.out]
    refine bodyPost_ret (results_cell3 rfl _ _ w.heap.size _ _ _ (.slice none 0 0) (.int .i64 9) rfl rfl rfl b4 Tryz.underlying42 rfl inoSize) rfl ⟨_, rfl, ?_, OwnA.nil _ _⟩
    exact x2.grown g4 (fun k e => by cases e; exact Nat.le_refl _)
  have d1 : (kind == 0) = false := by simpa using c1
  by_cases c2 : ext = 0
  · have HV := Lib.hid (show openP v I k = (x, [], 0) from HOP.out.trans ((if_neg c1).trans (if_pos c2)))
    have d2 : (ext == 0) = true := by simpa using c2
    clear c1 c2 HOP
    go_enter Tryz.func16, Tryz.ntmps16
    go_wp2_with fail
    refine (HI.out _ (hv.ext ((Ext.refl _).alloc _))).mono ?_
    rintro e w1 ⟨rfl, x1⟩
    have x0 : Ext w w1 := ((Ext.refl w).alloc _).trans x1
    have bR : Box w1 w.heap.size 42 (intVals zero12) := (Box.new w 42 _).ext x1
    have hlt := bR.lt
    clear x1
    go_wp2_with (first
      | (refine wp_st_ino (.tmp 7) (.tmp 16) rfl rfl w1.heap.size _ zero12 42 rfl rfl (Box.new _ _ _) hxl rfl ?_; intro w2 b2 g2; have x2 : Ext w w2 := (x0.alloc _).grown g2 (fun k e => by cases e; exact x0.size); have bR2 := (bR.ext ((Ext.refl _).alloc _)).grown g2 (by simp; omega); have c0 := b2.at 0 (by omega); have c11 := b2.at 11 (by omega); rw [H0.out] at c0; rw [H11.out] at c11)
      | (refine wp_ld_ino (.tmp 7) rfl rfl w1.heap.size _ 42 rfl b2 hxl ?_)
      | (refine wp_st_ino (.tmp 4) (.tmp 29) rfl rfl w.heap.size _ zero12 42 rfl rfl bR2 hxl rfl ?_; intro w4 b4 g4))
    rw [HV.out]
    refine bodyPost_ret (results_cell3 rfl _ _ w.heap.size _ _ _ (.slice none 0 0) (.int .i64 0) rfl rfl rfl b4 Tryz.underlying42 rfl (inoSize' hxl)) rfl ⟨_, rfl, ?_, OwnA.nil _ _⟩
    exact x2.grown g4 (fun k e => by cases e; exact Nat.le_refl _)
  have d2 : (ext == 0) = false := by simpa using c2
  have HOF := Lib.hid (fun w h => of_yes A n c v I w h hg)
  have HU := Lib.hid (fun w h => used_good A n c ext v I w h hg (by omega))
  have HOP2 := Lib.hid (HOP.out.trans ((if_neg c1).trans (if_neg c2)))
  clear HOP c1 c2
  unfold dataOf at HOP2
  by_cases c3 : ext < 3 + (I + 1) / 2
  · have HV := Lib.hid (show openP v I k = (zero12, [], 3) from HOP2.out.trans (if_pos (Or.inl c3)))
    have d3 : decide (ext < 3 + (I + 1) / 2) = true := by simpa using c3
    clear HOP2
    go_enter Tryz.func16, Tryz.ntmps16
    go_wp2_with fail
    refine (HI.out _ (hv.ext ((Ext.refl _).alloc _))).mono ?_
    rintro e w1 ⟨rfl, x1⟩
    have x0 : Ext w w1 := ((Ext.refl w).alloc _).trans x1
    have bR : Box w1 w.heap.size 42 (intVals zero12) := (Box.new w 42 _).ext x1
    have hlt := bR.lt
    clear x1
    go_wp2_with (first
      | (refine wp_st_ino (.tmp 7) (.tmp 16) rfl rfl w1.heap.size _ zero12 42 rfl rfl (Box.new _ _ _) hxl rfl ?_; intro w2 b2 g2; have x2 : Ext w w2 := (x0.alloc _).grown g2 (fun k e => by cases e; exact x0.size); have bR2 := (bR.ext ((Ext.refl _).alloc _)).grown g2 (by simp; omega); have c0 := b2.at 0 (by omega); have c11 := b2.at 11 (by omega); rw [H0.out] at c0; rw [H11.out] at c11)
      | (go_at_call 46; refine (HOF.out _ (hv.ext x2)).mono ?_; rintro e w3 ⟨rfl, x3⟩; rw [geomV_eq])
      | (refine wp_st_geom (.tmp 9) (.tmp 33) rfl rfl w3.heap.size _ [0, 0, 0, 0, 0, 0] 68 rfl rfl (Box.new _ _ _) rfl rfl ?_; intro w4 b4 g4; have x4 : Ext w w4 := ((x2.trans x3).alloc _).grown g4 (fun k e => by cases e; exact (x2.trans x3).size); have bR4 := ((bR2.ext x3).ext ((Ext.refl _).alloc _)).grown g4 (by have := x3.size; have := bR2.lt; simp; omega); have b24 := ((b2.ext x3).ext ((Ext.refl _).alloc _)).grown g4 (by have := x3.size; have := b2.lt; simp; omega); have f5 : w4.cell? ⟨w3.heap.size, 5, none⟩ = some (.int .i64 (3 + (I + 1) / 2)) := b4.cell 5; have c11b := b24.at 11 (by omega); rw [H11.out] at c11b)
      | (refine wp_st_ino (.tmp 4) (.tmp 51) rfl rfl w.heap.size zero12 zero12 42 rfl rfl bR4 rfl rfl ?_; intro w6 b6 g6))
    rw [HV.out]
    refine bodyPost_ret (results_cell3 rfl _ _ w.heap.size _ _ _ (.slice none 0 0) (.int .i64 3) rfl rfl rfl b6 Tryz.underlying42 rfl inoSize) rfl ⟨_, rfl, ?_, OwnA.nil _ _⟩
    exact x4.grown g6 (fun k e => by cases e; exact Nat.le_refl _)
  have d3 : decide (ext < 3 + (I + 1) / 2) = false := by simpa using c3
  cases c4 : usedB v ext with
  | false =>
    have HV := Lib.hid (show openP v I k = (zero12, [], 3) from HOP2.out.trans (if_pos (Or.inr (Or.inl c4))))
    rw [c4] at HU
    clear HOP2 c4
    go_enter Tryz.func16, Tryz.ntmps16
    go_wp2_with fail
    refine (HI.out _ (hv.ext ((Ext.refl _).alloc _))).mono ?_
    rintro e w1 ⟨rfl, x1⟩
    have x0 : Ext w w1 := ((Ext.refl w).alloc _).trans x1
    have bR : Box w1 w.heap.size 42 (intVals zero12) := (Box.new w 42 _).ext x1
    have hlt := bR.lt
    clear x1
    go_wp2_with (first
      | (refine wp_st_ino (.tmp 7) (.tmp 16) rfl rfl w1.heap.size _ zero12 42 rfl rfl (Box.new _ _ _) hxl rfl ?_; intro w2 b2 g2; have x2 : Ext w w2 := (x0.alloc _).grown g2 (fun k e => by cases e; exact x0.size); have bR2 := (bR.ext ((Ext.refl _).alloc _)).grown g2 (by simp; omega); have c0 := b2.at 0 (by omega); have c11 := b2.at 11 (by omega); rw [H0.out] at c0; rw [H11.out] at c11)
      | (go_at_call 46; refine (HOF.out _ (hv.ext x2)).mono ?_; rintro e w3 ⟨rfl, x3⟩; rw [geomV_eq])
      | (refine wp_st_geom (.tmp 9) (.tmp 33) rfl rfl w3.heap.size _ [0, 0, 0, 0, 0, 0] 68 rfl rfl (Box.new _ _ _) rfl rfl ?_; intro w4 b4 g4; have x4 : Ext w w4 := ((x2.trans x3).alloc _).grown g4 (fun k e => by cases e; exact (x2.trans x3).size); have bR4 := ((bR2.ext x3).ext ((Ext.refl _).alloc _)).grown g4 (by have := x3.size; have := bR2.lt; simp; omega); have b24 := ((b2.ext x3).ext ((Ext.refl _).alloc _)).grown g4 (by have := x3.size; have := b2.lt; simp; omega); have f5 : w4.cell? ⟨w3.heap.size, 5, none⟩ = some (.int .i64 (3 + (I + 1) / 2)) := b4.cell 5; have c11b := b24.at 11 (by omega); rw [H11.out] at c11b)
      | (go_at_call 47; refine (HU.out _ (hv.ext x4)).mono ?_; rintro e w5 ⟨rfl, x5⟩)
      | (refine wp_st_ino (.tmp 4) (.tmp 51) rfl rfl w.heap.size zero12 zero12 42 rfl rfl (bR4.ext x5) rfl rfl ?_; intro w6 b6 g6))
    rw [HV.out]
    refine bodyPost_ret (results_cell3 rfl _ _ w.heap.size _ _ _ (.slice none 0 0) (.int .i64 3) rfl rfl rfl b6 Tryz.underlying42 rfl inoSize) rfl ⟨_, rfl, ?_, OwnA.nil _ _⟩
    exact (x4.trans x5).grown g6 (fun k e => by cases e; exact Nat.le_refl _)
  | true =>
    have hext : ext < v.length := by
      unfold usedB at c4
      simp only [Bool.and_eq_true, decide_eq_true_eq] at c4
      exact c4.1.2
    obtain ⟨q, rfl⟩ := Int.eq_ofNat_of_zero_le hxe.1
    have hq : q < v.length := by omega
    have hbl : (v.getD q []).length = 128 := getD_len hg hq
    have ev : v.getD q [] = v[q] := by rw [List.getD_eq_getElem?_getD, List.getElem?_eq_getElem hq]; rfl
    obtain ⟨b, o, rfl, hcell⟩ := hv.2 (by have := hv.1; omega)
    have hcq : w.cell? ⟨b, o + q, none⟩ = some (.string (str (v.getD q []))) := by rw [ev]; exact hcell q hq
    have HAT := Lib.hid (fun w => attributes_any (v.getD q []) w hbl)
    have hnq : (q : Int) < (n : Int) := by have := hv.1; omega
    rw [show ((q : Int)).toNat = q from rfl] at HOP2
    rw [c4] at HU
    have HOP3 := Lib.hid (show openP v I k = if attrsB (v.getD q []) = false then (zero12, [], 3) else (x, attrsP (v.getD q []), 0) by
      rw [HOP2.out]
      by_cases h : attrsB (v.getD q []) = false
      · rw [if_pos (Or.inr (Or.inr h)), if_pos h]
      · rw [if_neg (fun h' => h'.elim c3 (fun h' => h'.elim (fun h' => Bool.noConfusion (c4.symm.trans h')) h)), if_neg h])
    clear HOP2 c4 hcell ev
    generalize v.getD q [] = blk at *
    cases c5 : attrsB blk with
    | false =>
      have HV := Lib.hid (show openP v I k = (zero12, [], 3) from HOP3.out.trans (if_pos c5))
      have HPN := Lib.hid (attrsP_no c5)
      rw [c5] at HAT
      clear HOP3 c5
      go_enter Tryz.func16, Tryz.ntmps16
      go_wp2_with fail
      refine (HI.out _ (hv.ext ((Ext.refl _).alloc _))).mono ?_
      rintro e w1 ⟨rfl, x1⟩
      have x0 : Ext w w1 := ((Ext.refl w).alloc _).trans x1
      have bR : Box w1 w.heap.size 42 (intVals zero12) := (Box.new w 42 _).ext x1
      have hlt := bR.lt
      clear x1
      go_wp2_with (first
        | (refine wp_st_ino (.tmp 7) (.tmp 16) rfl rfl w1.heap.size _ zero12 42 rfl rfl (Box.new _ _ _) hxl rfl ?_; intro w2 b2 g2; have x2 : Ext w w2 := (x0.alloc _).grown g2 (fun k e => by cases e; exact x0.size); have bR2 := (bR.ext ((Ext.refl _).alloc _)).grown g2 (by simp; omega); have c0 := b2.at 0 (by omega); have c11 := b2.at 11 (by omega); rw [H0.out] at c0; rw [H11.out] at c11)
        | (go_at_call 46; refine (HOF.out _ (hv.ext x2)).mono ?_; rintro e w3 ⟨rfl, x3⟩; rw [geomV_eq])
        | (refine wp_st_geom (.tmp 9) (.tmp 33) rfl rfl w3.heap.size _ [0, 0, 0, 0, 0, 0] 68 rfl rfl (Box.new _ _ _) rfl rfl ?_; intro w4 b4 g4; have x4 : Ext w w4 := ((x2.trans x3).alloc _).grown g4 (fun k e => by cases e; exact (x2.trans x3).size); have bR4 := ((bR2.ext x3).ext ((Ext.refl _).alloc _)).grown g4 (by have := x3.size; have := bR2.lt; simp; omega); have b24 := ((b2.ext x3).ext ((Ext.refl _).alloc _)).grown g4 (by have := x3.size; have := b2.lt; simp; omega); have f5 : w4.cell? ⟨w3.heap.size, 5, none⟩ = some (.int .i64 (3 + (I + 1) / 2)) := b4.cell 5; have c11b := b24.at 11 (by omega); rw [H11.out] at c11b)
        | (go_at_call 47; refine (HU.out _ (hv.ext x4)).mono ?_; rintro e w5 ⟨rfl, x5⟩; have cq5 := (x4.trans x5).keep hcq; have c11c := x5.keep c11b)
        | (go_at_call 48; refine (HAT.out _).mono ?_; rintro e w6 ⟨u, rfl, x6, own6⟩)
        | (refine wp_st_ino (.tmp 4) (.tmp 63) rfl rfl w.heap.size zero12 zero12 42 rfl rfl ((bR4.ext x5).ext x6) rfl rfl ?_; intro w7 b7 g7))
      rw [HV.out]
      refine bodyPost_ret (results_cell3 rfl _ _ w.heap.size _ _ _ (.slice none 0 0) (.int .i64 3) rfl rfl rfl b7 Tryz.underlying42 rfl inoSize) rfl ⟨_, rfl, ?_, OwnA.nil _ _⟩
      exact ((x4.trans x5).trans x6).grown g7 (fun k e => by cases e; exact Nat.le_refl _)
    | true =>
      have HV := Lib.hid (show openP v I k = (x, attrsP blk, 0) from HOP3.out.trans (if_neg (by rw [c5]; simp)))
      rw [c5] at HAT
      clear HOP3 c5
      go_enter Tryz.func16, Tryz.ntmps16
      go_wp2_with fail
      refine (HI.out _ (hv.ext ((Ext.refl _).alloc _))).mono ?_
      rintro e w1 ⟨rfl, x1⟩
      have x0 : Ext w w1 := ((Ext.refl w).alloc _).trans x1
      have bR : Box w1 w.heap.size 42 (intVals zero12) := (Box.new w 42 _).ext x1
      have hlt := bR.lt
      clear x1
      go_wp2_with (first
        | (refine wp_st_ino (.tmp 7) (.tmp 16) rfl rfl w1.heap.size _ zero12 42 rfl rfl (Box.new _ _ _) hxl rfl ?_; intro w2 b2 g2; have x2 : Ext w w2 := (x0.alloc _).grown g2 (fun k e => by cases e; exact x0.size); have bR2 := (bR.ext ((Ext.refl _).alloc _)).grown g2 (by simp; omega); have c0 := b2.at 0 (by omega); have c11 := b2.at 11 (by omega); rw [H0.out] at c0; rw [H11.out] at c11)
        | (go_at_call 46; refine (HOF.out _ (hv.ext x2)).mono ?_; rintro e w3 ⟨rfl, x3⟩; rw [geomV_eq])
        | (refine wp_st_geom (.tmp 9) (.tmp 33) rfl rfl w3.heap.size _ [0, 0, 0, 0, 0, 0] 68 rfl rfl (Box.new _ _ _) rfl rfl ?_; intro w4 b4 g4; have x4 : Ext w w4 := ((x2.trans x3).alloc _).grown g4 (fun k e => by cases e; exact (x2.trans x3).size); have bR4 := ((bR2.ext x3).ext ((Ext.refl _).alloc _)).grown g4 (by have := x3.size; have := bR2.lt; simp; omega); have b24 := ((b2.ext x3).ext ((Ext.refl _).alloc _)).grown g4 (by have := x3.size; have := b2.lt; simp; omega); have f5 : w4.cell? ⟨w3.heap.size, 5, none⟩ = some (.int .i64 (3 + (I + 1) / 2)) := b4.cell 5; have c11b := b24.at 11 (by omega); rw [H11.out] at c11b)
        | (go_at_call 47; refine (HU.out _ (hv.ext x4)).mono ?_; rintro e w5 ⟨rfl, x5⟩; have cq5 := (x4.trans x5).keep hcq; have c11c := x5.keep c11b)
        | (go_at_call 48; refine (HAT.out _).mono ?_; rintro e w6 ⟨u, rfl, x6, own6⟩)
        | (refine wp_ld_ino (.tmp 7) rfl rfl w1.heap.size _ 42 rfl ((b24.ext x5).ext x6) hxl ?_)
        | (refine wp_st_ino (.tmp 4) (.tmp 64) rfl rfl w.heap.size _ zero12 42 rfl rfl ((bR4.ext x5).ext x6) hxl rfl ?_; intro w7 b7 g7))
      rw [HV.out]
      refine bodyPost_ret (results_cell3 rfl _ _ w.heap.size _ _ _ u (.int .i64 0) rfl rfl rfl b7 Tryz.underlying42 rfl (inoSize' hxl)) rfl ⟨_, rfl, ?_, ?_⟩
      · exact ((x4.trans x5).trans x6).grown g7 (fun k e => by cases e; exact Nat.le_refl _)
      · have hb6 := (x4.trans x5).size
        exact OwnA.base (World.ownsRow.kept own6 g7 (.inr (fun e => (by have := own_low own6 e; have := bR4.lt; have := x5.size; omega)))) hb6
end Go.Proofs.YtmcoepkopfcbdaaGreat
/- The walks of xattr.List and xattr.Get on a volume that is one. -/
namespace Go.Proofs.YtmcoepkopfcbdaaGreat
set_option linter.unusedVariables false
open Go.RowKit

theorem openP_len (v : List (List UInt8)) (I k : Int) : (openP v I k).1.length = 12 := by
  unfold openP
  repeat' (split; · rfl)
  rfl
theorem attrsP_small (b : List UInt8) : (attrsP b).length ≤ 126 := by
  unfold attrsP
  split
  · rename_i h
    rw [pairsA_len]
    have h1 : numL (b.take 2) ≤ 126 := by unfold attrsB at h; simp only [Bool.and_eq_true, decide_eq_true_eq] at h; exact h.1.1.1.1.1
    have h2 := textsP_len (rowOf b)
    have h3 : (rowOf b).length ≤ 126 := by simp [rowOf]; omega
    omega
  · simp
theorem openP_small (v : List (List UInt8)) (I k : Int) : (openP v I k).2.1.length ≤ 126 := by
  unfold openP
  repeat' (split; · simp)
  exact attrsP_small _
set_option maxHeartbeats 1000000 in
set_option maxRecDepth 100000 in
theorem get_err (A : Option Addr) (n c : Nat) (v : List (List UInt8)) (I k : Int) (name : List UInt8) (w : World) (hv : Strs w A n v) (hg : Good v I) (he : (openP v I k).2.2 ≠ 0) :
    Calls Tryz.prog 12 #[.slice A n c, .int .i64 k, .string (str name)] w fun e w' => e = .returned (.tuple #[.string (str []), .int .i64 (openP v I k).2.2]) ∧ Ext w w' := by
  have HO := Lib.hid (fun w h => opened_any A n c v I k w h hg)
  have hl := openP_len v I k
  generalize openP v I k = op at *
  have d1 : (op.2.2 != 0) = true := by simpa using he
  clear he
  go_enter Tryz.func12, Tryz.ntmps12
  go_wp2_with fail
  refine (HO.out _ hv).mono ?_
  rintro e w1 ⟨u, rfl, x1, own1⟩
  go_wp2_with (refine wp_st_ino (.tmp 8) (.tmp 16) rfl rfl w1.heap.size _ zero12 42 rfl rfl (Box.new _ _ _) hl rfl ?_; intro w2 b2 g2)
  go_ret2
  exact ⟨rfl, (x1.alloc _).grown g2 (fun k e => by cases e; exact x1.size)⟩
theorem idxA_bd (l : List Att) (name : List UInt8) : -1 ≤ idxA l name ∧ idxA l name < l.length := by
  unfold idxA
  split
  · rename_i i h
    obtain ⟨hi, _⟩ := List.findIdx?_eq_some_iff_getElem.1 h
    omega
  · omega
set_option maxHeartbeats 1000000 in
set_option maxRecDepth 100000 in
theorem get_none (A : Option Addr) (n c : Nat) (v : List (List UInt8)) (I k : Int) (name : List UInt8) (w : World) (hv : Strs w A n v) (hg : Good v I) (he : (openP v I k).2.2 = 0) (hi : idxA (openP v I k).2.1 name < 0) :
    Calls Tryz.prog 12 #[.slice A n c, .int .i64 k, .string (str name)] w fun e w' => e = .returned (.tuple #[.string (str []), .int .i64 9]) ∧ Ext w w' := by
  have HO := Lib.hid (fun w h => opened_any A n c v I k w h hg)
  have hl := openP_len v I k
  have hsm := openP_small v I k
  rw [he] at HO
  generalize openP v I k = op at *
  clear he
  go_enter Tryz.func12, Tryz.ntmps12
  go_wp2_with fail
  refine (HO.out _ hv).mono ?_
  rintro e w1 ⟨u, rfl, x1, own1⟩
  obtain ⟨A2, cap2, rfl, at2⟩ := own1.form
  have HF := Lib.hid (fun w h => of_any A2 op.2.1.length cap2 op.2.1 name w h (by omega))
  have hlo := Lib.hid own1
  generalize idxA op.2.1 name = ix at *
  go_wp2_with (first
    | (refine wp_st_ino (.tmp 8) (.tmp 16) rfl rfl w1.heap.size _ zero12 42 rfl rfl (Box.new _ _ _) hl rfl ?_; intro w2 b2 g2; have x2 : Ext w1 w2 := ((Ext.refl w1).alloc _).grown g2 (fun k e => by cases e; exact Nat.le_refl _))
    | (go_at_call 18; refine (HF.out _ (at2.ext x2)).mono ?_; rintro e w3 ⟨rfl, x3⟩))
  go_ret2
  exact ⟨rfl, x1.trans (x2.trans x3)⟩
set_option maxHeartbeats 1000000 in
set_option maxRecDepth 100000 in
theorem get_yes (A : Option Addr) (n c i : Nat) (v : List (List UInt8)) (I k : Int) (name : List UInt8) (w : World) (hv : Strs w A n v) (hg : Good v I) (he : (openP v I k).2.2 = 0) (hi : idxA (openP v I k).2.1 name = i) (hil : i < (openP v I k).2.1.length) :
    Calls Tryz.prog 12 #[.slice A n c, .int .i64 k, .string (str name)] w fun e w' => e = .returned (.tuple #[.string (str ((openP v I k).2.1[i]).2), .int .i64 0]) ∧ Ext w w' := by
  have HO := Lib.hid (fun w h => opened_any A n c v I k w h hg)
  have hl := openP_len v I k
  have hsm := openP_small v I k
  rw [he] at HO
  generalize openP v I k = op at *
  clear he
  go_enter Tryz.func12, Tryz.ntmps12
  go_wp2_with fail
  refine (HO.out _ hv).mono ?_
  rintro e w1 ⟨u, rfl, x1, own1⟩
  obtain ⟨A2, cap2, rfl, at2⟩ := own1.form
  have HF := Lib.hid (fun w h => of_any A2 op.2.1.length cap2 op.2.1 name w h (by omega))
  have hlo := Lib.hid own1
  rw [hi] at HF
  clear hi
  obtain ⟨b, o, rfl, hcell⟩ := at2.2 (by omega)
  have hc2 := (hcell i hil).2
  clear hcell
  obtain ⟨at1, hat⟩ : ∃ a : Att, a = op.2.1[i] := ⟨_, rfl⟩
  rw [← hat] at hc2
  have HAT := Lib.hid hat
  clear hat
  go_wp2_with (first
    | (refine wp_st_ino (.tmp 8) (.tmp 16) rfl rfl w1.heap.size _ zero12 42 rfl rfl (Box.new _ _ _) hl rfl ?_; intro w2 b2 g2; have x2 : Ext w1 w2 := ((Ext.refl w1).alloc _).grown g2 (fun k e => by cases e; exact Nat.le_refl _))
    | (go_at_call 18; refine (HF.out _ (at2.ext x2)).mono ?_; rintro e w3 ⟨rfl, x3⟩; have hc3 := (x2.trans x3).keep hc2))
  go_ret2
  exact ⟨congrArg (fun a : Att => Ending.returned (.tuple #[.string (str a.2), .int .i64 0])) HAT.out, x1.trans (x2.trans x3)⟩
end Go.Proofs.YtmcoepkopfcbdaaGreat
/- Plain: attributes set and dropped. -/
namespace Go.Proofs.YtmcoepkopfcbdaaGreat
set_option linter.unusedVariables false

/-- one more, in its place -/
def insA (l : List Att) (x : Att) : List Att := (l.filter fun y => ltB y.1 x.1) ++ x :: (l.filter fun y => ltB x.1 y.1)
def delA (l : List Att) (name : List UInt8) : List Att := l.filter fun y => y.1 != name
/-- the first block that is free -/
def takeI (v : List (List UInt8)) (I : Int) : Option Nat := (List.range v.length).find? fun i => decide (dataOf I ≤ (i : Int)) && !bitB (v.getD 2 []) i
def takenV (v : List (List UInt8)) (i : Nat) : List (List UInt8) := (v.set 2 (flipL (v.getD 2 []) i)).set i (zs 128)
def givenV (v : List (List UInt8)) (i : Nat) : List (List UInt8) := v.set 2 (flipL (v.getD 2 []) i)
def extraOf (x : List Int) : Int := x.getD 11 0
/-- a volume with an attribute that is set, or the error -/
def setP (v : List (List UInt8)) (I k : Int) (name value : List UInt8) : List (List UInt8) × Int :=
  if (openP v I k).2.2 ≠ 0 then ([], (openP v I k).2.2) else
  if mayB name = false then ([], 7) else
  if 126 < (rowA (insA (openP v I k).2.1 (name, value))).length then ([], 6) else
  if extraOf (openP v I k).1 ≠ 0 then (v.set (extraOf (openP v I k).1).toNat (blockL (rowA (insA (openP v I k).2.1 (name, value)))), 0) else
  match takeI v I with
  | none => ([], 10)
  | some i => ((putAt (takenV v i) k ((openP v I k).1.set 11 i)).set i (blockL (rowA (insA (openP v I k).2.1 (name, value)))), 0)
/-- .. that is dropped -/
def dropP (v : List (List UInt8)) (I k : Int) (name : List UInt8) : List (List UInt8) × Int :=
  if (openP v I k).2.2 ≠ 0 then ([], (openP v I k).2.2) else
  if idxA (openP v I k).2.1 name < 0 then ([], 9) else
  if 1 < (openP v I k).2.1.length then (v.set (extraOf (openP v I k).1).toNat (blockL (rowA (delA (openP v I k).2.1 name))), 0) else
  (putAt (givenV v (extraOf (openP v I k).1).toNat) k ((openP v I k).1.set 11 0), 0)
theorem ltB_ne {a b : List UInt8} (h : ltB a b = true) : a ≠ b := by rintro rfl; rw [ltB_irrefl] at h; cases h
theorem rising_ins {l : List Att} (h : Rising l) (x : Att) : Rising (insA l x) := by
  unfold Rising insA at *
  rw [List.pairwise_append]
  refine ⟨h.filter _, ?_, ?_⟩
  · rw [List.pairwise_cons]
    refine ⟨fun y hy => ?_, h.filter _⟩
    exact (List.mem_filter.1 hy).2
  · intro a ha b hb
    have h1 : ltB a.1 x.1 = true := (List.mem_filter.1 ha).2
    rcases List.mem_cons.1 hb with rfl | hb
    · exact h1
    · exact ltB_trans _ _ _ h1 (List.mem_filter.1 hb).2
theorem rising_del {l : List Att} (h : Rising l) (name : List UInt8) : Rising (delA l name) := List.Pairwise.filter _ h
theorem rising_eq : ∀ {a b : List Att}, Rising a → Rising b → a.Perm b → a = b
  | [], b, _, _, hp => (List.nil_perm.1 hp).symm
  | x :: a, [], _, _, hp => absurd (List.perm_nil.1 hp) (by simp)
  | x :: a, y :: b, ha, hb, hp => by
    have hx : x ∈ y :: b := hp.mem_iff.1 (by simp)
    have hy : y ∈ x :: a := hp.mem_iff.2 (by simp)
    have e : x = y := by
      rcases List.mem_cons.1 hx with e | hx
      · exact e
      · rcases List.mem_cons.1 hy with e | hy
        · exact e.symm
        · have h1 := (List.pairwise_cons.1 ha).1 y hy
          have h2 := (List.pairwise_cons.1 hb).1 x hx
          have := ltB_asymm _ _ h1
          rw [h2] at this; cases this
    subst e
    rw [rising_eq (List.pairwise_cons.1 ha).2 (List.pairwise_cons.1 hb).2 (List.perm_cons x |>.1 hp)]
/-- sorted, no two of one name: rising -/
theorem rising_of_sorted {l : List Att} (h : l.Pairwise fun x y => ltB y.1 x.1 = false) (hn : (l.map (·.1)).Nodup) : Rising l := by
  unfold Rising
  rw [List.nodup_iff_pairwise_ne, List.pairwise_map] at hn
  refine (List.Pairwise.and h hn).imp ?_
  rintro x y ⟨h1, h2⟩
  cases h3 : ltB x.1 y.1 with
  | true => rfl
  | false => exact absurd (ltB_tri _ _ h3 h1) h2
theorem rising_names {l : List Att} (h : Rising l) : (l.map (·.1)).Nodup := by
  rw [List.nodup_iff_pairwise_ne, List.pairwise_map]
  exact List.Pairwise.imp (fun hxy => ltB_ne hxy) h
theorem filter_all {α : Type} {p : α → Bool} {l : List α} (h : ∀ x ∈ l, p x = true) : l.filter p = l := List.filter_eq_self.2 h
theorem filter_none {α : Type} {p : α → Bool} {l : List α} (h : ∀ x ∈ l, p x = false) : l.filter p = [] := by
  rw [List.filter_eq_nil_iff]; intro x hx; rw [h x hx]; simp
theorem ins_set {l : List Att} (h : Rising l) {i : Nat} (hi : i < l.length) {name value : List UInt8} (hn : l[i].1 = name) : insA l (name, value) = l.set i (name, value) := by
  have hs : l = l.take i ++ l[i] :: l.drop (i + 1) := by rw [← List.drop_eq_getElem_cons hi, List.take_append_drop]
  have hset : l.set i (name, value) = l.take i ++ (name, value) :: l.drop (i + 1) := List.set_eq_take_append_cons_drop.trans (if_pos hi)
  have hp : Rising (l.take i ++ l[i] :: l.drop (i + 1)) := by rw [← hs]; exact h
  unfold Rising at hp
  rw [List.pairwise_append] at hp
  obtain ⟨_, hp2, hp3⟩ := hp
  rw [List.pairwise_cons] at hp2
  have a1 : ∀ y ∈ l.take i, ltB y.1 name = true := fun y hy => by rw [← hn]; exact hp3 y hy _ (List.mem_cons_self ..)
  have a2 : ∀ y ∈ l.drop (i + 1), ltB name y.1 = true := fun y hy => by rw [← hn]; exact hp2.1 y hy
  rw [hset]
  unfold insA
  have f1 : (l.filter fun y => ltB y.1 name) = l.take i := by
    conv => lhs; rw [hs]
    rw [List.filter_append, filter_all a1, List.filter_cons, if_neg (by rw [hn, ltB_irrefl]; simp), filter_none (fun y hy => ltB_asymm _ _ (a2 y hy)), List.append_nil]
  have f2 : (l.filter fun y => ltB name y.1) = l.drop (i + 1) := by
    conv => lhs; rw [hs]
    rw [List.filter_append, filter_none (fun y hy => ltB_asymm _ _ (a1 y hy)), List.filter_cons, if_neg (by rw [hn, ltB_irrefl]; simp), filter_all a2, List.nil_append]
  simp only [f1, f2]
theorem ins_perm {l : List Att} {name value : List UInt8} (hn : ∀ y ∈ l, y.1 ≠ name) : (l ++ [(name, value)]).Perm (insA l (name, value)) := by
  have h1 : (l.filter fun y => ltB name y.1) = l.filter fun y => !ltB y.1 name := by
    apply List.filter_congr
    intro y hy
    cases h : ltB y.1 name with
    | true => rw [ltB_asymm _ _ h]; rfl
    | false =>
      cases h2 : ltB name y.1 with
      | true => rfl
      | false => exact absurd (ltB_tri _ _ h h2) (hn y hy)
  unfold insA
  simp only [h1]
  refine (List.perm_append_comm).trans ?_
  refine (List.Perm.cons _ (List.filter_append_perm (fun y => ltB y.1 name) l).symm).trans ?_
  exact List.perm_middle.symm
/-- the program's list, sorted, is the one with the attribute in its place -/
theorem sorted_ins {l l1 l' : List Att} {name value : List UInt8} (h : Rising l) (h1 : l1.Perm (insA l (name, value))) (hp : l'.Perm l1) (hs : l'.Pairwise fun x y => ltB y.1 x.1 = false) : l' = insA l (name, value) := by
  have hr := rising_ins h (name, value)
  have hpp := hp.trans h1
  refine rising_eq (rising_of_sorted hs ?_) hr hpp
  exact (List.Perm.nodup_iff (hpp.map _)).2 (rising_names hr)
theorem idxA_cases (l : List Att) (name : List UInt8) : (idxA l name = -1 ∧ ∀ y ∈ l, y.1 ≠ name) ∨ ∃ i : Nat, ∃ h : i < l.length, idxA l name = i ∧ l[i].1 = name := by
  cases h : l.findIdx? (fun x => x.1 == name) with
  | none =>
    left
    refine ⟨by unfold idxA; rw [h], fun y hy e => ?_⟩
    rw [List.findIdx?_eq_none_iff] at h
    have := h y hy
    simp [e] at this
  | some i =>
    right
    obtain ⟨hi, h1, _⟩ := List.findIdx?_eq_some_iff_getElem.1 h
    exact ⟨i, hi, by unfold idxA; rw [h], by simpa using h1⟩
theorem pairsA_names : ∀ (t : List (List UInt8)) (j : Nat) (h : j < (pairsA t).length), (pairsA t)[j].1 = t.getD (j * 2) []
  | a :: b :: l, 0, _ => rfl
  | a :: b :: l, j + 1, h => by
    have ih := pairsA_names l j (by simpa [pairsA] using h)
    have e3 : (a :: b :: l).getD ((j + 1) * 2) [] = l.getD (j * 2) [] := by rw [show (j + 1) * 2 = j * 2 + 1 + 1 by omega]; rfl
    rw [e3, ← ih]; rfl
  | [], j, h => by simp [pairsA] at h
  | [_], j, h => by simp [pairsA] at h
theorem pairwise_of_next {R : Att → Att → Prop} (ht : ∀ a b c, R a b → R b c → R a c) : ∀ (l : List Att), (∀ (j : Nat) (h : j + 1 < l.length), R l[j] l[j + 1]) → l.Pairwise R
  | [], _ => List.Pairwise.nil
  | [x], _ => by simp
  | x :: y :: l, h => by
    have ih := pairwise_of_next ht (y :: l) (fun j hj => h (j + 1) (by simpa using hj))
    rw [List.pairwise_cons]
    refine ⟨fun z hz => ?_, ih⟩
    have h0 : R x y := h 0 (by simp)
    rcases List.mem_cons.1 hz with rfl | hz
    · exact h0
    · exact ht _ _ _ h0 ((List.pairwise_cons.1 ih).1 z hz)
theorem rising_pairs (t : List (List UInt8)) (hl : t.length % 2 = 0) (h : okAll t = true) : Rising (pairsA t) := by
  refine pairwise_of_next (fun a b c => ltB_trans a.1 b.1 c.1) _ (fun j hj => ?_)
  have hp := pairsA_len t
  unfold okAll at h
  rw [List.all_eq_true] at h
  have h1 := h (j + 1) (List.mem_range.2 (by omega))
  unfold okAt at h1
  simp only [Bool.and_eq_true, Bool.or_eq_true, decide_eq_true_eq] at h1
  have h2 := h1.2.resolve_left (by omega)
  rw [show (j + 1) * 2 - 2 = j * 2 by omega] at h2
  show ltB (pairsA t)[j].1 (pairsA t)[j + 1].1 = true
  rw [pairsA_names, pairsA_names]; exact h2
theorem rising_attrs (b : List UInt8) : Rising (attrsP b) := by
  unfold attrsP
  split
  · rename_i h
    unfold attrsB at h
    simp only [Bool.and_eq_true, decide_eq_true_eq] at h
    exact rising_pairs _ h.1.1.2 h.2
  · exact List.Pairwise.nil
theorem rising_open (v : List (List UInt8)) (I k : Int) : Rising (openP v I k).2.1 := by
  unfold openP
  repeat' (split; · exact List.Pairwise.nil)
  exact rising_attrs _
end Go.Proofs.YtmcoepkopfcbdaaGreat
/- Plain: volumes stay volumes. -/
namespace Go.Proofs.YtmcoepkopfcbdaaGreat
set_option linter.unusedVariables false

theorem bitB_test (m : List UInt8) (i : Nat) : bitB m i = (m.getD (i / 8) 0).toNat.testBit (i % 8) := by
  unfold bitB
  rw [Nat.testBit_eq_decide_div_mod_eq]
theorem flipL_len (m : List UInt8) (i : Nat) : (flipL m i).length = m.length := by simp [flipL]
theorem bit_flip (m : List UInt8) (i j : Nat) (hi : i / 8 < m.length) : bitB (flipL m i) j = (bitB m j ^^ decide (i = j)) := by
  rw [bitB_test, bitB_test]
  unfold flipL
  by_cases h : i / 8 = j / 8
  · have e : (m.set (i / 8) (b8 (((m.getD (i / 8) 0).toNat ^^^ 2 ^ (i % 8) : Nat) : Int))).getD (j / 8) 0 = b8 (((m.getD (i / 8) 0).toNat ^^^ 2 ^ (i % 8) : Nat) : Int) := by
      rw [← h]; simp [List.getD, hi]
    have h8 : i % 8 < 8 := Nat.mod_lt _ (by omega)
    have hx : (m.getD (i / 8) 0).toNat ^^^ 2 ^ (i % 8) < 2 ^ 8 := Nat.xor_lt_two_pow (m.getD (i / 8) 0).toNat_lt (Nat.pow_lt_pow_right (by omega) h8)
    have hb := b8_toNat (((m.getD (i / 8) 0).toNat ^^^ 2 ^ (i % 8) : Nat) : Int) (by omega) (by omega)
    have hb' : (b8 (((m.getD (i / 8) 0).toNat ^^^ 2 ^ (i % 8) : Nat) : Int)).toNat = (m.getD (i / 8) 0).toNat ^^^ 2 ^ (i % 8) := by exact_mod_cast hb
    rw [e, hb', Nat.testBit_xor, Nat.testBit_two_pow, ← h]
    congr 1
    by_cases e2 : i = j
    · subst e2; simp
    · have : ¬ i % 8 = j % 8 := by omega
      simp [e2, this]
  · have e : (m.set (i / 8) (b8 (((m.getD (i / 8) 0).toNat ^^^ 2 ^ (i % 8) : Nat) : Int))).getD (j / 8) 0 = m.getD (j / 8) 0 := by
      simp [List.getD, h]
    have e2 : ¬ i = j := by intro e2; subst e2; exact h rfl
    rw [e]; simp [e2]
theorem getD_set_ne' (v : List (List UInt8)) {i j : Nat} (b : List UInt8) (h : i ≠ j) : (v.set i b).getD j [] = v.getD j [] := by simp [List.getD, h]
theorem getD_set_eq' (v : List (List UInt8)) {i : Nat} (b : List UInt8) (h : i < v.length) : (v.set i b).getD i [] = b := by simp [List.getD, h]
theorem Good.set {v : List (List UInt8)} {I : Int} (h : Good v I) {i : Nat} {b : List UInt8} (h0 : i ≠ 0) (h2 : i ≠ 2) (hb : b.length = 128) : Good (v.set i b) I := by
  refine ⟨fun j hj => ?_, by simpa using h.plan, ?_, fun j hj => ?_, fun j hj hl => ?_⟩
  · rw [List.getElem_set]
    split
    · exact hb
    · exact h.all j (by simpa using hj)
  · rw [getD_set_ne' v b h0, h.head]; simp
  · rw [getD_set_ne' v b h2]; exact h.low j hj
  · rw [getD_set_ne' v b h2]; exact h.high j hj (by simpa using hl)
theorem Good.flip {v : List (List UInt8)} {I : Int} (h : Good v I) {i : Nat} (h1 : dataOf I ≤ (i : Int)) (h2 : i < v.length) : Good (v.set 2 (flipL (v.getD 2 []) i)) I := by
  have hp := plan_bd h.plan
  have hl2 : (v.getD 2 []).length = 128 := getD_len h (by omega)
  unfold dataOf at h1
  refine ⟨fun j hj => ?_, by simpa using h.plan, ?_, fun j hj => ?_, fun j hj hl => ?_⟩
  · rw [List.getElem_set]
    split
    · rw [flipL_len, hl2]
    · exact h.all j (by simpa using hj)
  · rw [getD_set_ne' v _ (by decide), h.head]; simp
  · rw [getD_set_eq' v _ (by omega), bit_flip _ _ _ (by omega), h.low j hj]
    have : ¬ i = j := by omega
    simp [this]
  · rw [getD_set_eq' v _ (by omega), bit_flip _ _ _ (by omega), h.high j hj (by simpa using hl)]
    have : ¬ i = j := by have hl' : v.length ≤ j := by simpa using hl
                         omega
    simp [this]
theorem takeI_some {v : List (List UInt8)} {I : Int} {i : Nat} (h : takeI v I = some i) : dataOf I ≤ (i : Int) ∧ i < v.length ∧ bitB (v.getD 2 []) i = false ∧ ∀ j : Nat, dataOf I ≤ (j : Int) → j < i → bitB (v.getD 2 []) j = true := by
  unfold takeI at h
  rw [List.find?_range_eq_some] at h
  obtain ⟨h1, h2, h3⟩ := h
  simp only [Bool.and_eq_true, decide_eq_true_eq, Bool.not_eq_true'] at h1
  refine ⟨h1.1, List.mem_range.1 h2, h1.2, fun j hj hlt => ?_⟩
  have := h3 j hlt
  simp only [Bool.not_and, Bool.not_not, Bool.or_eq_true, Bool.not_eq_true', decide_eq_false_iff_not] at this
  rcases this with h | h
  · exact absurd hj h
  · exact h
theorem takeI_none {v : List (List UInt8)} {I : Int} (h : takeI v I = none) : ∀ j : Nat, dataOf I ≤ (j : Int) → j < v.length → bitB (v.getD 2 []) j = true := by
  unfold takeI at h
  rw [List.find?_eq_none] at h
  intro j hj hlt
  have := h j (List.mem_range.2 hlt)
  cases hb : bitB (v.getD 2 []) j with
  | true => rfl
  | false => exact absurd (by rw [hb]; simp [hj]) this
theorem Good.taken {v : List (List UInt8)} {I : Int} (h : Good v I) {i : Nat} (ht : takeI v I = some i) : Good (takenV v i) I := by
  have hp := plan_bd h.plan
  obtain ⟨h1, h2, _⟩ := takeI_some ht
  unfold dataOf at h1
  exact (h.flip (by unfold dataOf; exact h1) h2).set (by omega) (by omega) (zs_len 128)
theorem takenV_len (v : List (List UInt8)) (i : Nat) : (takenV v i).length = v.length := by simp [takenV]
theorem putAt_len (v : List (List UInt8)) (k : Int) (x : List Int) : (putAt v k x).length = v.length := by simp [putAt]
theorem Good.putAt {v : List (List UInt8)} {I k : Int} (h : Good v I) (h1 : 1 ≤ k) (h2 : k ≤ I) (x : List Int) : Good (putAt v k x) I := by
  have hp := plan_bd h.plan
  have hi : (3 + (k - 1) / 2).toNat < v.length := by omega
  refine h.set (by omega) (by omega) ?_
  rw [overL_len, getD_len h hi]
  rw [inoB_len, getD_len h hi]; omega
/-- what opened says, if it says OK -/
theorem open_ok {v : List (List UInt8)} {I k : Int} (h : (openP v I k).2.2 = 0) : 1 ≤ k ∧ k ≤ I ∧ (openP v I k).1 = inoAt v k ∧ (inoAt v k).getD 0 0 ≠ 0 ∧
    ((extraOf (inoAt v k) = 0 ∧ (openP v I k).2.1 = []) ∨ (extraOf (inoAt v k) ≠ 0 ∧ dataOf I ≤ extraOf (inoAt v k) ∧ usedB v (extraOf (inoAt v k)) = true ∧ attrsB (v.getD (extraOf (inoAt v k)).toNat []) = true ∧ (openP v I k).2.1 = attrsP (v.getD (extraOf (inoAt v k)).toNat []))) := by
  unfold openP extraOf at *
  by_cases h1 : k < 1 ∨ I < k
  · rw [if_pos h1] at h; simp at h
  rw [if_neg h1] at h ⊢
  by_cases h2 : (inoAt v k).getD 0 0 = 0
  · rw [if_pos h2] at h; simp at h
  rw [if_neg h2] at h ⊢
  by_cases h3 : (inoAt v k).getD 11 0 = 0
  · rw [if_pos h3] at h ⊢
    exact ⟨by omega, by omega, rfl, h2, .inl ⟨h3, rfl⟩⟩
  rw [if_neg h3] at h ⊢
  by_cases h4 : (inoAt v k).getD 11 0 < dataOf I ∨ usedB v ((inoAt v k).getD 11 0) = false ∨ attrsB (v.getD ((inoAt v k).getD 11 0).toNat []) = false
  · rw [if_pos h4] at h; simp at h
  rw [if_neg h4] at h ⊢
  refine ⟨by omega, by omega, rfl, h2, .inr ⟨h3, ?_, ?_, ?_, rfl⟩⟩
  · exact Int.not_lt.1 fun h' => h4 (.inl h')
  · cases h' : usedB v ((inoAt v k).getD 11 0) with
    | true => rfl
    | false => exact absurd (.inr (.inl h')) h4
  · cases h' : attrsB (v.getD ((inoAt v k).getD 11 0).toNat []) with
    | true => rfl
    | false => exact absurd (.inr (.inr h')) h4
theorem fnum_lt (b : List UInt8) (o z : Nat) : 0 ≤ fnum b o z ∧ fnum b o z < 256 ^ z := by
  unfold fnum
  have h1 := numL_lt ((b.drop o).take z)
  have h2 : ((b.drop o).take z).length ≤ z := by simp [List.length_take]; omega
  have h3 : (256 : Nat) ^ ((b.drop o).take z).length ≤ 256 ^ z := Nat.pow_le_pow_right (by omega) h2
  refine ⟨by omega, ?_⟩
  have h4 : (numL ((b.drop o).take z)) < 256 ^ z := by omega
  rw [show (256 : Int) ^ z = ((256 ^ z : Nat) : Int) by rw [Int.natCast_pow]; rfl]
  exact Int.ofNat_lt.2 h4
theorem fits_ino (b : List UInt8) (o : Nat) : fitsB (inoL b o) = true := by
  unfold fitsB
  rw [List.all_eq_true]
  intro k _
  refine decide_eq_true ?_
  rcases k with ⟨k, hk⟩
  rcases (by omega : k = 0 ∨ k = 1 ∨ k = 2 ∨ k = 3 ∨ k = 4 ∨ k = 5 ∨ k = 6 ∨ k = 7 ∨ k = 8 ∨ k = 9 ∨ k = 10 ∨ k = 11) with rfl | rfl | rfl | rfl | rfl | rfl | rfl | rfl | rfl | rfl | rfl | rfl <;> exact fnum_lt _ _ _
theorem fits_set {x : List Int} (h : fitsB x = true) (hx : x.length = 12) {i : Int} (h0 : 0 ≤ i) (h1 : i < 65536) : fitsB (x.set 11 i) = true := by
  unfold fitsB at *
  rw [List.all_eq_true] at *
  intro k hk
  have hk2 := of_decide_eq_true (h k hk)
  refine decide_eq_true ?_
  by_cases e : fplace k = 11
  · have e2 : fsize k = 2 := by
      unfold fplace at e
      unfold fsize
      repeat' (split at e)
      all_goals (first | (exfalso; omega) | skip)
      rw [if_neg (by omega), if_neg (by omega)]
    rw [e, e2]
    have : (x.set 11 i).getD 11 0 = i := by simp [List.getD, hx]
    rw [this]
    exact ⟨h0, by simpa using h1⟩
  · have : (x.set 11 i).getD (fplace k) 0 = x.getD (fplace k) 0 := by simp [List.getD, Ne.symm e]
    rw [this]; exact hk2
theorem i64_of_fits {x : List Int} (h : fitsB x = true) (hx : x.length = 12) (i : Nat) : I64 (x.getD i 0) := by
  unfold I64
  by_cases hi : i < 12
  · have : ∃ k : Fin 12, fplace k = i := by
      rcases (by omega : i = 0 ∨ i = 1 ∨ i = 2 ∨ i = 3 ∨ i = 4 ∨ i = 5 ∨ i = 6 ∨ i = 7 ∨ i = 8 ∨ i = 9 ∨ i = 10 ∨ i = 11) with rfl | rfl | rfl | rfl | rfl | rfl | rfl | rfl | rfl | rfl | rfl | rfl
      · exact ⟨0, rfl⟩
      · exact ⟨2, rfl⟩
      · exact ⟨1, rfl⟩
      · exact ⟨3, rfl⟩
      · exact ⟨4, rfl⟩
      · exact ⟨5, rfl⟩
      · exact ⟨6, rfl⟩
      · exact ⟨7, rfl⟩
      · exact ⟨8, rfl⟩
      · exact ⟨9, rfl⟩
      · exact ⟨10, rfl⟩
      · exact ⟨11, rfl⟩
    obtain ⟨k, rfl⟩ := this
    unfold fitsB at h
    rw [List.all_eq_true] at h
    have hk := of_decide_eq_true (h k (mem_allF k))
    generalize x.getD (fplace k) 0 = z at *
    rcases fsize_is k with e | e | e <;> rw [e] at hk <;> simp at hk <;> omega
  · have : x.getD i 0 = 0 := by simp [List.getD, show 12 ≤ i by omega, hx]
    rw [this]; omega
end Go.Proofs.YtmcoepkopfcbdaaGreat
/- The document's geometry: turn, With. -/
namespace Go.Proofs.YtmcoepkopfcbdaaGreat
set_option linter.unusedVariables false
open Go.RowKit

theorem conv_one_drew (w : World) (x : Int) : (convert 77 9 (.slice (some ⟨w.heap.size, 0, none⟩) 1 1)).run Tryz.prog (w.alloc (.cells #[.int .u8 x] 5)).drew = .ok (.string (str [b8 x])) (w.alloc (.cells #[.int .u8 x] 5)).drew := by
  refine run_convert_bytes_arg (P := Tryz.prog) _ 77 5 Tryz.underlying77 Tryz.underlying5 _ _ _ 1 [x] rfl (fun i hi => ?_) 9 Tryz.underlying9
  rcases (show i = 0 by simp at hi; omega) with rfl
  exact ((Box.new w 5 #[.int .u8 x]).drew).cell 0
theorem flip_parts (m : List UInt8) (i : Nat) (h : i / 8 < m.length) : flipL m i = m.take (i / 8) ++ ([b8 (((m.getD (i / 8) 0).toNat ^^^ 2 ^ (i % 8) : Nat) : Int)] ++ m.drop (i / 8 + 1)) := by
  unfold flipL
  rw [List.set_eq_take_append_cons_drop, if_pos h]; rfl
set_option maxHeartbeats 1000000 in
set_option maxRecDepth 100000 in
theorem rturn_any (i : Nat) (m : List UInt8) (w : World) (hm : m.length = 128) (hi : i < 1024) :
    Calls Tryz.prog 44 #[.string (str m), .int .i64 i] w fun e w' => e = .returned (.string (str (flipL m i))) ∧ Ext w w' := by
  have hsz : (str m).size = 128 := by rw [str_size, hm]
  have hz := str_size
  have hse := str_ext
  have hap := str_app
  have kc := conv_one_drew w
  have t0 : IntKind.i64.wrap ((i : Int) / 8) = (i : Int) / 8 := IntWalk.i64_in _ (by omega)
  have t1 : (0 : Int) ≤ (i : Int) / 8 := by omega
  have t2 : (i : Int) / 8 < 128 := by omega
  have t3 : ((i : Int) / 8).toNat = i / 8 := by omega
  have t4 : (0 : Int) ≤ (i : Int) % 8 := by omega
  have t5 : (i : Int) % 8 < 8 := by omega
  have t6 : (0 : Int) ≤ (i : Int) / 8 + 1 := by omega
  have t7 : ((i : Int) / 8 + 1).toNat = i / 8 + 1 := by omega
  have t8 : IntKind.i64.wrap ((i : Int) / 8 + 1) = (i : Int) / 8 + 1 := IntWalk.i64_in _ (by omega)
  have t9 : i / 8 < 128 := by omega
  have l1 : min (i / 8) 128 = i / 8 := by omega
  go_enter Tryz.func44, Tryz.ntmps44
  go_wp2_with fail
  go_region
  rename_i Q' K hK
  refine hK _ _ ?_
  show Code.wp _ _ (bodyPost _ _ _) _ _
  clear hK
  clear K Q'
  go_wp2_with fail
  go_ret
  refine ⟨?_, ((Ext.refl _).alloc _).drew⟩
  have hl : i / 8 < m.length := by omega
  rw [flip_parts m i hl, xor_val, show ((str m)[i / 8]'(by omega)).toNat = (m.getD (i / 8) 0).toNat by rw [List.getD_eq_getElem?_getD, List.getElem?_eq_getElem hl]; rfl, List.take_of_length_le (l := m.drop (i / 8 + 1)) (by simp; omega)]
  rfl
end Go.Proofs.YtmcoepkopfcbdaaGreat
