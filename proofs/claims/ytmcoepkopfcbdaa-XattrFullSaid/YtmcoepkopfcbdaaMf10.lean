/- For every input the law XattrFull returns true: attributes are set just as long as their row fits; the one that does not fit leaves all as it was; with no block left the first one is refused. No condition. -/
import Derived.Test.YtmcoepkopfcbdaaMf9
import Derived.Deep.LoopGhost
import Derived.Test.YtmcoepkopfcbdaaMf1
namespace Go.Proofs.Ytmcoepkopfcbdaa
open Go.RowKit

theorem own_len {w : World} {base n size : Nat} {t : TypeId} {u : Value} {xs : List Value} (h : w.ownsRow base t size u n xs) : ∃ A c, u = .slice A n c := by
  rcases h.2 with ⟨rfl, h0⟩ | ⟨g, cap, cur, rfl, _⟩
  · exact ⟨none, 0, by rw [h0]⟩
  · exact ⟨_, _, rfl⟩
/-- the slice with the address A and n places holds these bytes -/
def Byts (w : World) (A : Option Addr) (n : Nat) (l : List UInt8) : Prop :=
  n = l.length ∧ (0 < n → ∃ b o, A = some ⟨b, o, none⟩ ∧ ∀ (j : Nat) (h : j < l.length), w.cell? ⟨b, o + j, none⟩ = some (.int .u8 (l[j].toNat : Int)))
theorem Byts.ext {w w' : World} {A : Option Addr} {n : Nat} {l : List UInt8} (h : Byts w A n l) (k : Ext w w') : Byts w' A n l :=
  ⟨h.1, fun hn => by obtain ⟨b, o, e, hc⟩ := h.2 hn; exact ⟨b, o, e, fun j hj => k.keep (hc j hj)⟩⟩
theorem full_big (A : Option Addr) (n c : Nat) (f : Bool) (w : World) (hn : 15 < n) (hn2 : n ≤ 9223372036854775807) :
    Calls Try.prog 3 #[.slice A n c, .bool f] w fun e w' => e = .returned (.bool true) ∧ Ext w w' := by
  go_enter Try.func3, Try.ntmps3
  go_wp2_with (go_at_call 6; refine (alive_any _).mono ?_; rintro e w1 ⟨rfl, x1⟩)
  go_ret
  exact ⟨rfl, x1⟩
set_option maxHeartbeats 1000000 in
set_option maxRecDepth 100000 in
theorem full_fill (A : Option Addr) (n c : Nat) (w : World) (hn : n ≤ 15) :
    Calls Try.prog 3 #[.slice A n c, .bool true] w fun e w' => e = .returned (.bool true) ∧ Ext w w' := by
  have HS := Lib.hid (fun A c w h => set_any A 24 c (begV 3) 6 2 keptL [120] w h (good_beg 3 (by omega)) (by decide) (by decide))
  rw [kept_ok.1, show (setP (begV 3) 6 2 keptL [120]).1 = keptV from rfl, show keptV.length = 24 from kept_ok.2.len.trans (beg_len 3)] at HS
  have HK := Lib.hid fill_kept
  generalize keptV = V0 at *
  go_enter Try.func3, Try.ntmps3
  go_wp2_with (go_at_call 6; refine (alive_any _).mono ?_; rintro e w1 ⟨rfl, x1⟩)
  refine (begin_any _).mono ?_
  rintro e w2 ⟨u2, rfl, x2, own2⟩
  obtain ⟨g2, c2, rfl, hg2, s2⟩ := Strs.own' own2 (by omega)
  go_wp2_with fail
  refine (HS.out _ _ _ s2).mono ?_
  rintro e w3 ⟨u3, rfl, x3, own3⟩
  have x4 := (x1.trans x2).trans x3
  have own4 := own_base own3 (x1.trans x2).size
  clear own3 own2 s2 hg2 x1 x2 x3
  go_wp2_with fail
  go_loopg [5] (roomN V0) (fun k t wx => ∃ v, roomN v = k ∧ Fill v ∧ Ext w wx ∧ wx.ownsRow w.heap.size 9 1 t 24 (strL v))
  case atStart => exact ⟨V0, rfl, HK.out, x4, own4⟩
  case round =>
    clear own4 x4 HK
    obtain ⟨v, hr, hf, xk, ok⟩ := hrel
    obtain ⟨g, cp, rfl, hgW, sk⟩ := Strs.own' ok (by omega)
    have HR := Lib.hid (fun w h => rroom_yes (some ⟨g, 0, none⟩) 24 cp v 6 w h hf.fine.good)
    rw [hr] at HR
    have Hr := Lib.hid hr
    clear hr
    by_cases hlt : 0 < gk
    · obtain ⟨i, ht⟩ := room_pos hf.fine.good (by rw [Hr.out]; exact hlt)
      obtain ⟨t1, t2, t3, t4⟩ := takeI_some ht
      have HT := Lib.hid (fun w h => rtake_yes (some ⟨g, 0, none⟩) 24 cp i v 6 w h hf.fine.good t1 t2 t3 t4)
      have hrm := room_taken hf.fine.good ht
      have hf2 := hf.take ht
      clear t1 t2 t3 t4 ht
      go_wp2_with fail
      refine (HR.out _ sk).mono ?_
      rintro e w5 ⟨rfl, x5⟩
      go_wp2_with fail
      refine (HT.out _ (sk.ext x5)).mono ?_
      rintro e w6 ⟨u6, rfl, x6, own6⟩
      go_wp2_with fail
      go_roundg (gk - 1)
      case rel => exact ⟨_, by rw [Hr.out] at hrm; omega, hf2, (xk.trans x5).trans x6, own_base own6 (xk.trans x5).size⟩
      case measure => omega
    · obtain rfl : gk = 0 := by omega
      have HF := Lib.hid (fun w h => set_any (some ⟨g, 0, none⟩) 24 cp v 6 1 [97] [] w h hf.fine.good (by decide) (by decide))
      rw [hf.full Hr.out] at HF
      have HM := Lib.hid (fun w h => set_any (some ⟨g, 0, none⟩) 24 cp v 6 2 moreL [121] w h hf.fine.good (by decide) (by decide))
      rw [hf.more.1, hf.more.2] at HM
      go_wp2_with fail
      refine (HR.out _ sk).mono ?_
      rintro e w5 ⟨rfl, x5⟩
      go_wp2_with fail
      refine (HF.out _ (sk.ext x5)).mono ?_
      rintro e w6 ⟨u6, rfl, x6, own6⟩
      obtain ⟨A6, c6, rfl⟩ := own_len own6
      go_wp2_with fail
      refine (HM.out _ ((sk.ext x5).ext x6)).mono ?_
      rintro e w7 ⟨u7, rfl, x7, own7⟩
      obtain ⟨A7, c7, rfl⟩ := own_len own7
      go_wp2_with fail
      go_ret
      exact ⟨rfl, ((xk.trans x5).trans x6).trans x7⟩
end Go.Proofs.Ytmcoepkopfcbdaa
/- The walk of XattrFull, without 'fill'. -/
namespace Go.Proofs.Ytmcoepkopfcbdaa
open Go.RowKit

theorem made_zs (m : Nat) : madeCells #[.int .u8 0] m = byteVals (zs m) := by
  apply Array.toList_inj.1
  rw [toList_madeCells_one]; simp [byteVals, zs]
theorem make_zs (m : Nat) (hm : m ≤ 1000) (w : World) : (Instr.makeSlice 22 (.int .i64 (m : Int)) (.int .i64 (m : Int))).run Try.prog w = .ok (.slice (some ⟨w.heap.size, 0, none⟩) m m) (w.alloc (.cells (byteVals (zs m)) 5)) := by
  rw [← made_zs]
  exact run_make_row' 22 5 (.int .u8 0) 1 Try.underlying22 byteInfo rfl .i64 .i64 m (by omega) (by omega) w
set_option maxHeartbeats 1000000 in
set_option maxRecDepth 100000 in
theorem full_sizes (A : Option Addr) (n c : Nat) (l : List UInt8) (w : World) (hb : Byts w A n l) (hn : n ≤ 15) :
    Calls Try.prog 3 #[.slice A n c, .bool false] w fun e w' => e = .returned (.bool true) ∧ Ext w w' := by
  have HB := Lib.hid full_beg
  generalize hV : begV 3 = V0 at HB
  have HV := Lib.hid hV
  clear hV
  obtain ⟨rfl, hc⟩ := hb
  have HC := Lib.hid hc
  clear hc
  go_enter Try.func3, Try.ntmps3
  go_wp2_with (go_at_call 6; refine (alive_any _).mono ?_; rintro e w1 ⟨rfl, x1⟩)
  refine (begin_any _).mono ?_
  rintro e w2 ⟨u2, rfl, x2, own2⟩
  rw [HV.out] at own2
  have x3 := x1.trans x2
  have own3 := own_base own2 x1.size
  clear own2 x1 x2
  go_wp2_with fail
  go_loopw [5, 10, 67] (fun t r i wx => ∃ (k row : Nat) (v : List (List UInt8)), k ≤ l.length ∧ row ≤ 126 ∧ i = .int .i64 k ∧ r = .int .i64 row ∧ Full v k row ∧ Ext w wx ∧ wx.ownsRow w.heap.size 9 1 t 24 (strL v)) (fun _ _ i _ => l.length - (intOf i).toNat)
  case atStart => exact ⟨0, 0, V0, by omega, by omega, rfl, rfl, HB.out, x3, own3⟩
  case round =>
    clear own3 x3 HB HV
    obtain ⟨k, row, v, hk, hrow, rfl, rfl, hf, xk, ok⟩ := hrel
    by_cases hlt : k < l.length
    · obtain ⟨b, o, rfl, hcell⟩ := HC.out (by omega)
      have hck := xk.keep (hcell k hlt)
      clear hcell
      have hs := l[k].toNat_lt
      generalize hsk : l[k].toNat = s at *
      clear hsk
      obtain ⟨m, hm, hm2⟩ : ∃ m : Nat, m < 120 ∧ s % 120 = m := ⟨s % 120, by omega, rfl⟩
      have hmod : (s : Int) % 120 = (m : Int) := by omega
      have hset := hf.set (k := k) (by omega) (zs m) (by rw [zs_len]; omega)
      rw [zs_len] at hset
      have hnm : b8 (97 + (k : Int)) = UInt8.ofNat (97 + k) := by unfold b8; rw [show (97 + (k : Int)).toNat = 97 + k by omega]
      have q1 := conv_one wr (97 + k) wr.heap.size rfl
      rw [hnm] at q1
      have q2 := make_zs m (by omega) (wr.alloc (.cells #[.int .u8 (97 + (k : Int))] 5))
      have q3 := conv_box (k := m) (c := m) (Box.new (wr.alloc (.cells #[.int .u8 (97 + (k : Int))] 5)) 5 (byteVals (zs m))) (zs_len m)
      have hzl : (str (zs m)).size = m := by rw [str_size, zs_len]
      obtain ⟨g, cp, rfl, hgW, sk⟩ := Strs.own' ok (by omega)
      have HS := Lib.hid (fun w h => set_any (some ⟨g, 0, none⟩) 24 cp v 6 1 [UInt8.ofNat (97 + k)] (zs m) w h hf.fine.good (by simp) (by rw [zs_len]; omega))
      have Hm := Lib.hid hm2
      clear hm2 hnm
      rw [World.size_alloc] at q3
      generalize UInt8.ofNat (97 + k) = nm at q1 HS hset
      by_cases hr : row + 3 + m ≤ 126
      · obtain ⟨e1, e2, hf2⟩ := hset.2 hr
        rw [e1, e2] at HS
        have H1 := Lib.hid (And.intro e1 e2)
        clear e1 e2 hset
        go_wp2_with fail
        refine (HS.out _ (sk.ext (((Ext.refl _).alloc _).alloc _))).mono ?_
        rintro e w4 ⟨u4, rfl, x4, own4⟩
        clear q1 q2 q3
        obtain ⟨A4, c4, rfl⟩ := own_len own4
        have x5 : Ext w w4 := ((xk.alloc _).alloc _).trans x4
        go_wp2_with fail
        go_roundw
        case rel => exact ⟨k + 1, row + 3 + m, _, by omega, by omega, by go_num, by go_num, hf2, x5, own_base own4 (by have := xk.size; simp; omega)⟩
        case measure => simp [intOf]; omega
      · have e1 := hset.1 (by omega)
        rw [e1] at HS
        clear e1 hset
        have hf2 := hf.next
        go_wp2_with fail
        refine (HS.out _ (sk.ext (((Ext.refl _).alloc _).alloc _))).mono ?_
        rintro e w4 ⟨u4, rfl, x4, own4⟩
        clear q1 q2 q3
        obtain ⟨A4, c4, rfl⟩ := own_len own4
        have x5 : Ext w w4 := ((xk.alloc _).alloc _).trans x4
        go_wp2_with fail
        go_roundw
        case rel => exact ⟨k + 1, row, v, by omega, by omega, by go_num, rfl, hf2, x5, own_ext ok (((Ext.refl _).alloc _).alloc _ |>.trans x4)⟩
        case measure => simp [intOf]; omega
    · obtain rfl : k = l.length := by omega
      go_wp2_with fail
      go_ret
      exact ⟨rfl, xk⟩
end Go.Proofs.Ytmcoepkopfcbdaa
/- For every input the law XattrFull returns true: attributes are set just as long as their row fits; the one that does not fit leaves all as it was; with no block left the first one is refused. No condition. -/
namespace Go.Proofs.Ytmcoepkopfcbdaa.xattrFull
open Go.ChangeShapes Go.WideShapes Go.ChangeAt Go.RowKit

theorem byteCells : Try.prog.cellsOf 5 = 1 := by kernel_rfl
set_option maxRecDepth 100000 in
theorem bytes_in {H : Type} {enc : TypeId × Value → H} {W : World} {r : Reach} {b0 : Nat} {v : Value} {d : DataW H} {ps : List MemPlace} (hv : Value.okWide Try.prog W r b0 22 v) (h : DataW.Trod enc Try.prog W 0 (fun _ => true) true 22 v d ps) :
    ∃ A n c l, v = .slice A n c ∧ n ≤ maxLen ∧ Byts W A n l := by
  obtain ⟨a0, len, cap, rfl⟩ := okWide_slice Try.underlying22 hv
  obtain ⟨fuel, hf⟩ := h
  rcases open_ints Try.underlying22 Try.underlying5 byteCells hf with ⟨hcs, hx⟩ | ⟨a, len', cap', zs, hcs, _, hl, hm, hz, hx, hcell, hwz⟩
  · simp [Value.cells] at hcs
    obtain ⟨rfl, rfl, rfl⟩ := hcs
    exact ⟨none, 0, 0, [], rfl, by unfold maxLen; omega, rfl, fun h => by omega⟩
  · simp [Value.cells] at hcs
    obtain ⟨rfl, rfl, rfl⟩ := hcs
    simp only [if_true] at hz
    refine ⟨some a, len, cap, (zs.take len).map fun z => UInt8.ofNat z.toNat, rfl, by omega, by simp; omega, fun hn => ?_⟩
    obtain ⟨b, off, spot⟩ := a
    have hspot : spot = none := by simpa [Addr.add] using World.cell?_spot (hcell 0 (by omega))
    subst hspot
    refine ⟨b, off, rfl, fun j hj => ?_⟩
    have hjl : j < zs.length := by simp at hj; omega
    have hjn : j < len := by simp at hj; omega
    have hc := hcell j hjl
    rw [add_plain] at hc
    rw [hc]
    have hb := bounds_u8 (hwz zs[j] (List.getElem_mem hjl))
    have e : zs.getD j 0 = zs[j] := by simp [List.getD, hjl]
    rw [e]
    simp only [List.getElem_map, List.getElem_take]
    have : ((UInt8.ofNat zs[j].toNat).toNat : Int) = zs[j] := b8_toNat _ hb.1 hb.2
    rw [this]
theorem walk (A : Option Addr) (n c : Nat) (l : List UInt8) (f : Bool) (w : World) (hn : n ≤ maxLen) (hb : Byts w A n l) :
    Calls Try.prog 3 #[.slice A n c, .bool f] w fun e w' => e = .returned (.bool true) ∧ Ext w w' := by
  unfold maxLen at hn
  by_cases h : 15 < n
  · exact full_big A n c f w h (by omega)
  · cases f with
    | true => exact full_fill A n c w (by omega)
    | false => exact full_sizes A n c l w hb (by omega)
theorem reads : ∀ t ∈ Try.f3.params.toList, ReadT t := by
  rw [Try.params3]
  intro t ht
  rcases (by simpa using ht : t = 22 ∨ t = 4) with rfl | rfl <;> exact ⟨by kernel_rfl, of_decide_eq_true (by kernel_rfl)⟩
set_option maxRecDepth 100000 in
theorem lifted (os : Os) (started : os.Started) (H : Type) (enc : TypeId × Value → H) :
    ReturnsInHanded {} Try.checked os 3 .any (Rows.xattrFullSpec.pre6 enc Try.prog Try.f3 Rows.xattrFullRow.domain false) (Rows.xattrFullSpec.post enc Try.prog Try.f3 false true false false) := by
  refine returnsInHanded_of_change (C := Try.checked) ownKnobNone started (by kernel_rfl) Try.func3
    (ChangeSpec.witness6 (enc := enc) (C := Try.checked) false ⟨#[], #[.slice none 0 0, .bool true], []⟩ 8 (by kernel_rfl) (by kernel_rfl) (by kernel_rfl) (by kernel_rfl)) ?_
  intro W base args ds gs before hval0 hW hcnd _
  have hval : ∀ (j : Nat) t v, Try.f3.params[j]? = some t → args[j]? = some v → Value.okWide Try.prog W .any base t v := hval0
  have hW' := hW
  obtain ⟨p, q, hA0, hV, rfl, hfz, hnd⟩ := hW
  have hA : DataW.TrodAll enc Try.prog W 0 (fun _ => true) true Try.f3.params.toList args.toList ds p := hA0
  rw [Try.params3] at hA hval
  obtain ⟨v0, vs0, d0, ds0, p0, q0, hargs, rfl, rfl, h0, r0⟩ := trodAll_cons hA
  obtain ⟨v1, vs1, d1, ds1, p1, q1, rfl, rfl, rfl, h1, r1⟩ := trodAll_cons r0
  obtain ⟨rfl, rfl, rfl⟩ := trodAll_nil r1
  obtain rfl : args = #[v0, v1] := by cases args; simp_all
  obtain ⟨rfl, rfl⟩ := trodVars_none hV
  obtain ⟨A, n, c, l, rfl, hn, hb⟩ := bytes_in (hval 0 22 v0 rfl rfl) h0
  obtain ⟨a1, rfl, rfl, rfl⟩ := open_bool Try.underlying4 (hval 1 4 v1 rfl rfl) h1
  clear hA0 hval0
  refine (walk A n c l a1 W hn hb).mono fun e W' ⟨he, hg⟩ => ?_
  subst he
  exact ⟨_, rfl, law_post rfl hW' (by kernel_rfl) reads rfl hg⟩
theorem over : Rows.xattrFullRow.holds Try.pinned (OpenSpec.ofChange Rows.xattrFullSpec) :=
  OpenClaim.holds_of_wide 3 Try.f3 rfl rfl rfl rfl rfl rfl rfl ⟨rfl, rfl, rfl, rfl, rfl⟩ rfl rfl rfl rfl rfl (by kernel_rfl) Try.func3 (by kernel_rfl)
    (of_decide_eq_true (by kernel_rfl)) (by unfold Func.isWrapper; first | (rw [if_pos (by decide +kernel)]; kernel_rfl) | (rw [if_neg (by decide +kernel)]; exact ⟨rfl, rfl⟩))
    (fun os started H enc _ => lifted os started H enc)
theorem proved : Rows.XattrFullSaid := over
#print axioms proved
end Go.Proofs.Ytmcoepkopfcbdaa.xattrFull
