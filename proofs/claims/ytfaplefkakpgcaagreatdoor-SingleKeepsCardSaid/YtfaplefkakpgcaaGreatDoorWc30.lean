/- image.Machine of the image of a machine that may be. -/
import Derived.Test.YtfaplefkakpgcaaGreatDoorWc26
import Derived.Test.YtfaplefkakpgcaaGreatDoorWc29
namespace Go.Proofs.YtfaplefkakpgcaaGreatDoor
set_option linter.unusedVariables false
set_option linter.unusedSimpArgs false
open Go.RowKit
set_option maxHeartbeats 8000000 in
set_option maxRecDepth 100000 in
theorem imach_yes (fr bl : Sl) (m : Mac) (d : MacD) (w : World) (hF : RowOf stL w fr.A fr.n d.fr) (hfk : fr.ok) (hfs : fr.n ≤ 100000) (hB : RowOf stL w bl.A bl.n d.bl) (hbk : bl.ok) (hbs : bl.n ≤ 100000)
  (hR : RestFit m d) (hS : StateOk m d) (hfn : m.fr.n = d.fr.length) (hrn : m.pr.n = d.pr.length) (hpn : m.pi.n = d.pi.length) (hik : m.init.length ≤ maxLen) (hnk : m.inn.length ≤ maxLen) (hlk : (Lit.int .i64 m.dleft).wf = true) (hD0 : Dec10 w) :
  Calls Tryz.prog 27 #[.agg #[.slice fr.A fr.n fr.c, .slice bl.A bl.n bl.c, .string (str (restT m d))]] w fun e w' => ∃ z : Mac, e = .returned (.tuple #[.agg z.cells, .int .i64 0]) ∧ Ext w w' ∧ SameSc z m ∧ MacIn w' z d := by
 obtain ⟨z, e0, hq, hsc, epr, epi, epe, edi⟩ := restQ_restT hR
 have HR := Lib.hid (fun w hD => readRest_yes (restT m d) z e0 w hq (restT_len hR) hD)
 have HC1 := Lib.hid (fun w h => clone_any fr d.fr w h hfk hfs)
 have HC2 := Lib.hid (fun w h => clone_any bl d.bl w h hbk hbs)
 have x0 := ((Ext.refl w).alloc (.cells #[.slice fr.A fr.n fr.c, .slice bl.A bl.n bl.c, .string (str (restT m d))] 24)).alloc (.cells mac0.cells 38)
 have bx := (Box.new w 24 #[.slice fr.A fr.n fr.c, .slice bl.A bl.n bl.c, .string (str (restT m d))]).ext ((Ext.refl _).alloc (.cells mac0.cells 38))
 have br := Box.new (w.alloc (.cells #[.slice fr.A fr.n fr.c, .slice bl.A bl.n bl.c, .string (str (restT m d))] 24)) 38 mac0.cells
 rw [World.size_alloc] at br
 have HD := Lib.hid (hD0.ext x0)
 have HF := Lib.hid (hF.ext x0)
 have HB := Lib.hid (hB.ext x0)
 have HSO := Lib.hid hS
 have HSC0 := Lib.hid hsc
 have HRF := Lib.hid hR
 have HEpr := Lib.hid (flat_map_eq epr)
 have HEpn := Lib.hid (show e0.pr.length = d.pr.length by have := congrArg List.length epr; simpa using this)
 have HEpi := Lib.hid epi
 have HEpe := Lib.hid epe
 have HEdi := Lib.hid edi
 have HFN := Lib.hid hfn
 have HRN := Lib.hid hrn
 have HPN := Lib.hid hpn
 have HIK := Lib.hid hik
 have HNK := Lib.hid hnk
 have HLK := Lib.hid hlk
 have HFS := Lib.hid (show d.fr.length ≤ 100000 by rw [← hF.1]; exact hfs)
 have HBS := Lib.hid (show d.bl.length ≤ 100000 by rw [← hB.1]; exact hbs)
 clear hF hfk hfs hB hbk hbs hR hS hfn hrn hpn hik hnk hlk hD0 hq hsc epr epi epe edi
 go_enter Tryz.func27, Tryz.ntmps27
 go_upto_region 1 with fail
 change Code.wp _ _ _ _ ((w.alloc (.cells #[.slice fr.A fr.n fr.c, .slice bl.A bl.n bl.c, .string (str (restT m d))] 24)).alloc (.cells mac0.cells 38))
 generalize (w.alloc (.cells #[.slice fr.A fr.n fr.c, .slice bl.A bl.n bl.c, .string (str (restT m d))] 24)).alloc (.cells mac0.cells 38) = w0 at x0 bx br HD HF HB ⊢
 obtain ⟨G, hG⟩ : ∃ G, G = w.heap.size := ⟨_, rfl⟩
 rw [← hG] at bx br ⊢
 have HG := Lib.hid hG
 clear hG
 have hgr : G + 1 < w0.heap.size := br.lt
 have q2 : w0.cell? ⟨G, 2, none⟩ = some (.string (str (restT m d))) := bx.cell 2
 go_upto_region 2 with (first
  | (go_at_call 68; refine (HR.out _ HD.out).mono ?_; rintro e w1 ⟨pr, pi, pe, di, rfl, x1, n1, n2, n3, n4, oPr, oPi, oPe, oDi⟩; have HN1 := Lib.hid n1; have HN2 := Lib.hid n2; have HN3 := Lib.hid n3; have HN4 := Lib.hid n4; clear n1 n2 n3 n4)
  | (refine wp_st_mac _ _ rfl rfl w1.heap.size ({ z with pr := pr, pi := pi, pe := pe, di := di } : Mac) _ _ rfl rfl (Box.new _ _ _) rfl ?_; intro w2 b2 g2))
 have y2 : Ext w1 w2 := ((Ext.refl w1).alloc _).grown g2 (fun j e => by cases e; exact Nat.le_refl _)
 have X2 := x1.trans y2
 have hgM : w0.heap.size ≤ w1.heap.size := x1.size
 replace oPr := own_ext oPr y2
 replace oPi := own_ext oPi y2
 replace oPe := own_ext oPe y2
 replace oDi := own_ext oDi y2
 clear y2 g2 x1 q2 HR
 generalize w1.heap.size = gM at *
 clear w1
 have q0 : w2.cell? ⟨G, 0, none⟩ = some (.slice fr.A fr.n fr.c) := (bx.ext X2).cell 0
 go_upto_region 5 with (first
  | (go_at_call 53; refine (HC1.out _ (HF.out.ext X2)).mono ?_; rintro e w3 ⟨A1, c1, rfl, o3, x3⟩)
  | (refine wp_st_cell _ _ _ rfl rfl gM 4 _ _ ({ z with pr := pr, pi := pi, pe := pe, di := di, fr := ⟨A1, d.fr.length, c1⟩ } : Mac).cells _ rfl rfl rfl szStrs (b2.ext x3) (show 4 < 17 by decide) rfl ?_; intro w4 b4 d4))
 have b23 := b2.ext x3
 have oFr := own_base (own_but o3 d4 b23 (by decide)) X2.size
 replace oPr := own_but (own_ext oPr x3) d4 b23 (by decide)
 replace oPi := own_but (own_ext oPi x3) d4 b23 (by decide)
 replace oPe := own_but (own_ext oPe x3) d4 b23 (by decide)
 replace oDi := own_but (own_ext oDi x3) d4 b23 (by decide)
 have X4 := d4.past (X2.trans x3) hgM
 clear b2 b23 o3 x3 d4 q0 X2
 clear w2 w3
 have q1 : w4.cell? ⟨G, 1, none⟩ = some (.slice bl.A bl.n bl.c) := (bx.ext X4).cell 1
 go_upto_region 6 with (first
  | (go_at_call 53; refine (HC2.out _ (HB.out.ext X4)).mono ?_; rintro e w5 ⟨A2, c2, rfl, o5, x5⟩)
  | (refine wp_st_cell _ _ _ rfl rfl gM 13 _ _ ({ z with pr := pr, pi := pi, pe := pe, di := di, fr := ⟨A1, d.fr.length, c1⟩, bl := ⟨A2, d.bl.length, c2⟩ } : Mac).cells _ rfl rfl rfl szStrs (b4.ext x5) (show 13 < 17 by decide) rfl ?_; intro w6 b6 d6))
 have b45 := b4.ext x5
 have oBl := own_base (own_but o5 d6 b45 (by decide)) X4.size
 replace oFr := own_but (own_ext oFr x5) d6 b45 (by decide)
 replace oPr := own_but (own_ext oPr x5) d6 b45 (by decide)
 replace oPi := own_but (own_ext oPi x5) d6 b45 (by decide)
 replace oPe := own_but (own_ext oPe x5) d6 b45 (by decide)
 replace oDi := own_but (own_ext oDi x5) d6 b45 (by decide)
 have X6 := Lib.hid (d6.past (X4.trans x5) hgM)
 clear b4 b45 o5 x5 d6 q1 X4
 clear w4 w5
 have bx6 := bx.ext X6.out
 have br6 := br.ext X6.out
 have HSC : Hid (SameSc ({ z with pr := pr, pi := pi, pe := pe, di := di, fr := ⟨A1, d.fr.length, c1⟩, bl := ⟨A2, d.bl.length, c2⟩ } : Mac) m) := Lib.hid ⟨HSC0.out.clock, HSC0.out.quantum, HSC0.out.cur, HSC0.out.left, HSC0.out.next, HSC0.out.init, HSC0.out.newPipe, HSC0.out.inn, HSC0.out.fin, HSC0.out.told, HSC0.out.dleft⟩
 have HTY : Hid (MacTy w6 ({ z with pr := pr, pi := pi, pe := pe, di := di, fr := ⟨A1, d.fr.length, c1⟩, bl := ⟨A2, d.bl.length, c2⟩ } : Mac)) := Lib.hid ⟨ty_of_own oFr (by decide), ty_of_own oPr (by decide), ty_of_own oPi (by decide), ty_of_own oBl (by decide), ty_of_own oPe (by decide), ty_of_own oDi (by decide)⟩
 have HMI : Hid (MacIn w6 ({ z with pr := pr, pi := pi, pe := pe, di := di, fr := ⟨A1, d.fr.length, c1⟩, bl := ⟨A2, d.bl.length, c2⟩ } : Mac) d) := Lib.hid (by
  have k1 := HRF.out.prl
  have k2 := HRF.out.pil
  have k3 := HRF.out.pel
  have k4 := HRF.out.dil
  rw [HEpr.out] at oPr
  rw [HEpi.out] at oPi HN2
  rw [HEpe.out] at oPe HN3
  rw [HEdi.out] at oDi HN4
  rw [HEpn.out] at HN1
  refine ⟨own_row oFr (fun _ _ => rfl) rfl rfl, own_row oPr (fun _ _ => prL_len _) HN1.out rfl, own_row oPi (fun _ _ => rfl) HN2.out rfl, own_row oBl (fun _ _ => rfl) rfl rfl, own_row oPe (fun _ _ => rfl) HN3.out rfl, own_row oDi (fun _ _ => rfl) HN4.out rfl,
   own_ok (s := ⟨A1, d.fr.length, c1⟩) oFr HFS.out, own_ok oPr (by rw [HN1.out]; omega), own_ok oPi (by rw [HN2.out]; omega), own_ok (s := ⟨A2, d.bl.length, c2⟩) oBl HBS.out, own_ok oPe (by rw [HN3.out]; omega), own_ok oDi (by rw [HN4.out]; omega), ?_, ?_, ?_⟩
  ·show z.init.length ≤ maxLen
   rw [HSC0.out.init]; exact HIK.out
  ·show z.inn.length ≤ maxLen
   rw [HSC0.out.inn]; exact HNK.out
  ·show (Lit.int .i64 z.dleft).wf = true
   rw [HSC0.out.dleft]; exact HLK.out)
 have HST : Hid (StateOk ({ z with pr := pr, pi := pi, pe := pe, di := di, fr := ⟨A1, d.fr.length, c1⟩, bl := ⟨A2, d.bl.length, c2⟩ } : Mac) d) := Lib.hid (stateOk_same HSO.out HSC.out HFN.out.symm (by show pr.n = _; rw [HN1.out, HEpn.out, HRN.out]) (by show pi.n = _; rw [HN2.out, HEpi.out, HPN.out]))
 generalize ({ z with pr := pr, pi := pi, pe := pe, di := di, fr := ⟨A1, d.fr.length, c1⟩, bl := ⟨A2, d.bl.length, c2⟩ } : Mac) = M3 at b6 HSC HTY HMI HST
 clear oFr oPr oPi oBl oPe oDi HN1 HN2 HN3 HN4 HSO HSC0 HEpr HEpn HEpi HEpe HEdi HFN HRN HPN HIK HNK HLK HFS HBS HC1 HC2 HF HB
 have HRO := Lib.hid (fun w hi hD => (restOf_any M3 d w (restFit_same HRF.out HSC.out) hi hD).mono (fun e w' h => (⟨h.1.trans (by rw [rest_sameT HSC.out]), h.2⟩ : e = .returned (.string (str (restT m d))) ∧ Ext w w')))
 go_upto_region 7 with (first
  | (refine wp_ld_mac _ rfl rfl gM _ _ rfl b6 rfl ?_)
  | (go_at_call 17; refine (scheck_ok M3 d _ HMI.out HST.out).mono ?_; rintro e w7 ⟨rfl, x7⟩))
 replace b6 := b6.ext x7
 replace bx6 := bx6.ext x7
 replace br6 := br6.ext x7
 replace HMI := Lib.hid (HMI.out.ext x7)
 replace HTY := Lib.hid (HTY.out.ext x7)
 replace X6 := Lib.hid (X6.out.trans x7)
 clear x7 HST bx br
 go_upto_region 9 with fail
 refine wp_region_web' 4 [[], [0], [], [2]] (listV [isV (.agg M3.cells), isV (.string (str (restT m d))), isV (.pointer (some ⟨G, 2, none⟩)), isV (.string (str (restT m d)))]) (by kernel_rfl) (by kernel_rfl) (listV_ext (fun p hp => by simp only [List.mem_cons, List.not_mem_nil, or_false] at hp; rcases hp with rfl | rfl | rfl | rfl <;> first | exact lasts_is _)) (fun us => ?_)
 simp only [List.take_succ_cons, List.take_zero, List.drop_succ_cons, List.drop_zero]
 rw [webWalk]
 refine And.intro (fun w' hx hd => ?_) ?_
 ·clear hd
  refine web_of_list 31 rfl (by simp) rfl ?_
  go_wp2_with (refine wp_ld_mac _ rfl rfl gM _ _ rfl (b6.ext hx) rfl ?_)
  exact ⟨Ext.refl _, rfl⟩
 simp only [Act.put, List.setIfInBounds_toArray, List.set_cons_zero, List.set_cons_succ]
 rw [webWalk]
 refine And.intro (fun w' hx hd => ?_) ?_
 ·have h0 := hd 0 (by simp)
  clear hd
  generalize us 0 = u0 at *
  obtain rfl : u0 = .agg M3.cells := h0
  refine web_of_list 32 rfl (by simp [Act.put]) rfl ?_
  go_wp2_with (go_at_call 54; refine (HRO.out _ (HMI.out.ext hx) (HD.out.ext (X6.out.trans hx))).mono ?_; rintro e w2 ⟨rfl, x2⟩)
  first | exact ⟨x2, rfl⟩ | exact rfl
 simp only [Act.put, List.setIfInBounds_toArray, List.set_cons_zero, List.set_cons_succ]
 rw [webWalk]
 refine And.intro (fun w' hx hd => ?_) ?_
 ·clear hd
  refine web_of_list 33 rfl (by simp [Act.put]) rfl ?_
  go_wp2_with fail
  exact ⟨Ext.refl _, rfl⟩
 simp only [Act.put, List.setIfInBounds_toArray, List.set_cons_zero, List.set_cons_succ]
 rw [webWalk]
 refine And.intro (fun w' hx hd => ?_) ?_
 ·have h2 := hd 2 (by simp)
  clear hd
  generalize us 2 = u2 at *
  obtain rfl : u2 = .pointer (some ⟨G, 2, none⟩) := h2
  have q0 : w'.cell? ⟨G, 2, none⟩ = some (.string (str (restT m d))) := (bx6.ext hx).cell 2
  refine web_of_list 34 rfl (by simp [Act.put]) rfl ?_
  go_wp2_with fail
  exact ⟨Ext.refl _, rfl⟩
 simp only [Act.put, List.setIfInBounds_toArray, List.set_cons_zero, List.set_cons_succ]
 rw [webWalk]
 intro w' hx hv
 have h1 := hv 1 (by omega)
 have h3 := hv 3 (by omega)
 clear hv
 generalize us 0 = u0 at *
 generalize us 1 = u1 at *
 generalize us 2 = u2 at *
 generalize us 3 = u3 at *
 obtain rfl : u1 = .string (str (restT m d)) := h1
 obtain rfl : u3 = .string (str (restT m d)) := h3
 have bf := b6.ext hx
 have rf := br6.ext hx
 have xf := Lib.hid (X6.out.trans hx)
 have Hf := Lib.hid (HMI.out.ext hx)
 have hq : ((str (restT m d)).toList == (str (restT m d)).toList) = true := by simp
 go_wp2_with (first
  | (refine wp_ld_mac _ rfl rfl gM _ _ rfl bf rfl ?_)
  | (refine wp_st_mac _ _ rfl rfl (G + 1) M3 _ _ rfl rfl rf rfl ?_; intro w9 b9 g9))
 refine bodyPost_ret (results_cell2 rfl _ _ (G + 1) _ _ _ _ rfl rfl b9 Tryz.underlying38 rfl macSz) rfl ⟨M3, rfl, (x0.trans xf.out).grown g9 (fun j e => by cases e; rw [← HG.out]; exact Nat.le_succ _), HSC.out, ?_⟩
 have hMI := Hf.out
 exact hMI.grown (MacTy.ext HTY.out hx) rf g9
end Go.Proofs.YtfaplefkakpgcaaGreatDoor
/- image.Of of a machine that may be; image.Machine of no texts. -/
namespace Go.Proofs.YtfaplefkakpgcaaGreatDoor
set_option linter.unusedVariables false
set_option linter.unusedSimpArgs false
open Go.RowKit
def ownV (B : Nat) (l : List (List UInt8)) : World → Value → Prop := fun w u => ∃ A c, u = .slice A l.length c ∧ w.ownsRow B 9 1 (.slice A l.length c) l.length (l.flatMap stL)
theorem lasts_own (B : Nat) (l : List (List UInt8)) : Lasts (ownV B l) := fun _ _ _ hx ⟨A, c, e, o⟩ => ⟨A, c, e, own_ext o hx⟩
theorem img_one (A B : Option Addr) (n c n' c' : Nat) (s : ByteArray) : (#[.slice A n c, .slice B n' c', .string s] : Array Value).all (·.oneCell') = true := all_oneCell_toArray (cs := [.slice A n c, .slice B n' c', .string s]) (fun v hv => by
 simp only [List.mem_cons, List.not_mem_nil, or_false] at hv
 rcases hv with rfl | rfl | rfl <;> rfl)
theorem imgSz {a b c : Value} : (Tryz.prog.info? 24).map (·.size) = some (#[a, b, c] : Array Value).size := by kernel_rfl
set_option maxHeartbeats 8000000 in
set_option maxRecDepth 100000 in
theorem iof_yes (m : Mac) (d : MacD) (w : World) (hi : MacIn w m d) (hS : StateOk m d) (hR : RestFit m d) (hD0 : Dec10 w) (hfs : m.fr.n ≤ 100000) (hbs : m.bl.n ≤ 100000) :
  Calls Tryz.prog 20 #[.agg m.cells] w fun e w' => ∃ fr bl : Sl, e = .returned (.agg #[.slice fr.A fr.n fr.c, .slice bl.A bl.n bl.c, .string (str (restT m d))]) ∧ Ext w w' ∧ RowOf stL w' fr.A fr.n d.fr ∧ fr.ok ∧ fr.n ≤ 100000 ∧ RowOf stL w' bl.A bl.n d.bl ∧ bl.ok ∧ bl.n ≤ 100000 := by
 have HC1 := Lib.hid (fun w h => clone_any m.fr d.fr w h hi.frk hfs)
 have HC2 := Lib.hid (fun w h => clone_any m.bl d.bl w h hi.blk hbs)
 have HFS := Lib.hid (show d.fr.length ≤ 100000 by rw [← hi.fr.1]; exact hfs)
 have HBS := Lib.hid (show d.bl.length ≤ 100000 by rw [← hi.bl.1]; exact hbs)
 have HRO := Lib.hid (fun w hi hD => restOf_any m d w hR hi hD)
 have HSO := Lib.hid hS
 have x0 := ((Ext.refl w).alloc (.cells m.cells 38)).alloc (.cells #[.slice none 0 0, .slice none 0 0, .string ⟨#[]⟩] 24)
 have bm := (Box.new w 38 m.cells).ext ((Ext.refl _).alloc (.cells #[.slice none 0 0, .slice none 0 0, .string ⟨#[]⟩] 24))
 have bi := Box.new (w.alloc (.cells m.cells 38)) 24 #[.slice none 0 0, .slice none 0 0, .string ⟨#[]⟩]
 rw [World.size_alloc] at bi
 have HMI := Lib.hid (hi.ext x0)
 have HD := Lib.hid (hD0.ext x0)
 clear hi hS hR hD0 hfs hbs
 go_enter Tryz.func20, Tryz.ntmps20
 go_upto_region 1 with fail
 generalize (w.alloc (.cells m.cells 38)).alloc (.cells #[.slice none 0 0, .slice none 0 0, .string ⟨#[]⟩] 24) = w0 at x0 bm bi HMI HD ⊢
 obtain ⟨G, hG⟩ : ∃ G, G = w.heap.size := ⟨_, rfl⟩
 rw [← hG] at bm bi ⊢
 have HG := Lib.hid hG
 clear hG
 go_wp2_with (first
  | (refine wp_ld_mac _ rfl rfl G _ _ rfl bm rfl ?_)
  | (go_at_call 17; refine (scheck_ok m d _ HMI.out HSO.out).mono ?_; rintro e w7 ⟨rfl, x7⟩))
 replace bm := bm.ext x7
 replace bi := bi.ext x7
 replace HMI := Lib.hid (HMI.out.ext x7)
 replace HD := Lib.hid (HD.out.ext x7)
 have X7 := Lib.hid (x0.trans x7)
 clear x7 x0 HSO
 refine wp_region_web' 9 [[], [0], [1], [], [3], [4], [5], [], [7]] (listV [isV (.pointer (some ⟨G, 4, none⟩)), isV (.slice m.fr.A m.fr.n m.fr.c), ownV G d.fr, isV (.pointer (some ⟨G, 13, none⟩)), isV (.pointer (some ⟨G, 13, none⟩)), isV (.slice m.bl.A m.bl.n m.bl.c), ownV G d.bl, isV (.agg m.cells), isV (.string (str (restT m d)))]) (by kernel_rfl) (by kernel_rfl) (listV_ext (fun p hp => by simp only [List.mem_cons, List.not_mem_nil, or_false] at hp; rcases hp with rfl | rfl | rfl | rfl | rfl | rfl | rfl | rfl | rfl <;> first | exact lasts_is _ | exact lasts_own _ _)) (fun us => ?_)
 simp only [List.take_succ_cons, List.take_zero, List.drop_succ_cons, List.drop_zero]
 rw [webWalk]
 refine And.intro (fun w' hx hd => ?_) ?_
 ·clear hd
  refine web_of_list 7 rfl (by simp) rfl ?_
  go_wp2_with fail
  exact ⟨Ext.refl _, rfl⟩
 simp only [Act.put, List.setIfInBounds_toArray, List.set_cons_zero, List.set_cons_succ]
 rw [webWalk]
 refine And.intro (fun w' hx hd => ?_) ?_
 ·have h0 := hd 0 (by simp)
  clear hd
  generalize us 0 = u0 at *
  obtain rfl : u0 = .pointer (some ⟨G, 4, none⟩) := h0
  have q0 : w'.cell? ⟨G, 4, none⟩ = some (.slice m.fr.A m.fr.n m.fr.c) := (bm.ext hx).cell 4
  refine web_of_list 8 rfl (by simp [Act.put]) rfl ?_
  go_wp2_with fail
  exact ⟨Ext.refl _, rfl⟩
 simp only [Act.put, List.setIfInBounds_toArray, List.set_cons_zero, List.set_cons_succ]
 rw [webWalk]
 refine And.intro (fun w' hx hd => ?_) ?_
 ·have h1 := hd 1 (by simp)
  clear hd
  generalize us 1 = u1 at *
  obtain rfl : u1 = .slice m.fr.A m.fr.n m.fr.c := h1
  refine web_of_list 9 rfl (by simp [Act.put]) rfl ?_
  go_wp2_with (go_at_call 53; refine (HC1.out _ (HMI.out.ext hx).fr).mono ?_; rintro e w2 ⟨A, c, rfl, o2, x2⟩)
  have hsz := (X7.out.trans hx).size
  first | exact ⟨x2, A, c, rfl, own_base o2 (by rw [HG.out]; exact hsz)⟩ | exact ⟨A, c, rfl, own_base o2 (by rw [HG.out]; exact hsz)⟩
 simp only [Act.put, List.setIfInBounds_toArray, List.set_cons_zero, List.set_cons_succ]
 rw [webWalk]
 refine And.intro (fun w' hx hd => ?_) ?_
 ·clear hd
  refine web_of_list 10 rfl (by simp [Act.put]) rfl ?_
  go_wp2_with fail
  exact ⟨Ext.refl _, rfl⟩
 simp only [Act.put, List.setIfInBounds_toArray, List.set_cons_zero, List.set_cons_succ]
 rw [webWalk]
 refine And.intro (fun w' hx hd => ?_) ?_
 ·have h3 := hd 3 (by simp)
  clear hd
  generalize us 3 = u3 at *
  obtain rfl : u3 = .pointer (some ⟨G, 13, none⟩) := h3
  refine web_of_list 11 rfl (by simp [Act.put]) rfl ?_
  go_wp2_with fail
  exact ⟨Ext.refl _, rfl⟩
 simp only [Act.put, List.setIfInBounds_toArray, List.set_cons_zero, List.set_cons_succ]
 rw [webWalk]
 refine And.intro (fun w' hx hd => ?_) ?_
 ·have h4 := hd 4 (by simp)
  clear hd
  generalize us 4 = u4 at *
  obtain rfl : u4 = .pointer (some ⟨G, 13, none⟩) := h4
  have q0 : w'.cell? ⟨G, 13, none⟩ = some (.slice m.bl.A m.bl.n m.bl.c) := (bm.ext hx).cell 13
  refine web_of_list 12 rfl (by simp [Act.put]) rfl ?_
  go_wp2_with fail
  exact ⟨Ext.refl _, rfl⟩
 simp only [Act.put, List.setIfInBounds_toArray, List.set_cons_zero, List.set_cons_succ]
 rw [webWalk]
 refine And.intro (fun w' hx hd => ?_) ?_
 ·have h5 := hd 5 (by simp)
  clear hd
  generalize us 5 = u5 at *
  obtain rfl : u5 = .slice m.bl.A m.bl.n m.bl.c := h5
  refine web_of_list 13 rfl (by simp [Act.put]) rfl ?_
  go_wp2_with (go_at_call 53; refine (HC2.out _ (HMI.out.ext hx).bl).mono ?_; rintro e w2 ⟨A, c, rfl, o2, x2⟩)
  have hsz := (X7.out.trans hx).size
  first | exact ⟨x2, A, c, rfl, own_base o2 (by rw [HG.out]; exact hsz)⟩ | exact ⟨A, c, rfl, own_base o2 (by rw [HG.out]; exact hsz)⟩
 simp only [Act.put, List.setIfInBounds_toArray, List.set_cons_zero, List.set_cons_succ]
 rw [webWalk]
 refine And.intro (fun w' hx hd => ?_) ?_
 ·clear hd
  refine web_of_list 14 rfl (by simp [Act.put]) rfl ?_
  go_wp2_with (refine wp_ld_mac _ rfl rfl G _ _ rfl (bm.ext hx) rfl ?_)
  exact ⟨Ext.refl _, rfl⟩
 simp only [Act.put, List.setIfInBounds_toArray, List.set_cons_zero, List.set_cons_succ]
 rw [webWalk]
 refine And.intro (fun w' hx hd => ?_) ?_
 ·have h7 := hd 7 (by simp)
  clear hd
  generalize us 7 = u7 at *
  obtain rfl : u7 = .agg m.cells := h7
  refine web_of_list 15 rfl (by simp [Act.put]) rfl ?_
  go_wp2_with (go_at_call 54; refine (HRO.out _ (HMI.out.ext hx) (HD.out.ext hx)).mono ?_; rintro e w2 ⟨rfl, x2⟩)
  first | exact ⟨x2, rfl⟩ | exact rfl
 simp only [Act.put, List.setIfInBounds_toArray, List.set_cons_zero, List.set_cons_succ]
 rw [webWalk]
 intro w' hx hv
 have h2 := hv 2 (by omega)
 have h6 := hv 6 (by omega)
 have h8 := hv 8 (by omega)
 clear hv
 generalize us 0 = u0 at *
 generalize us 1 = u1 at *
 generalize us 2 = u2 at *
 generalize us 3 = u3 at *
 generalize us 4 = u4 at *
 generalize us 5 = u5 at *
 generalize us 6 = u6 at *
 generalize us 7 = u7 at *
 generalize us 8 = u8 at *
 obtain ⟨A1, c1, rfl, oA⟩ := h2
 obtain ⟨A2, c2, rfl, oB⟩ := h6
 obtain rfl : u8 = .string (str (restT m d)) := h8
 have ri := bi.ext hx
 have xf := X7.out.trans hx
 go_wp2_with (refine wp_st _ _ _ rfl rfl (G + 1) #[.slice A1 d.fr.length c1, .slice A2 d.bl.length c2, .string (str (restT m d))] _ _ rfl rfl ri imgSz rfl (img_one _ _ _ _ _ _ _) ?_; intro w9 b9 g9)
 have f1 := own_row (s := ⟨A1, d.fr.length, c1⟩) (oA.kept g9 (.inr (own_ne oA ri (by decide)).symm)) (fun _ _ => rfl) rfl rfl
 have f2 := own_row (s := ⟨A2, d.bl.length, c2⟩) (oB.kept g9 (.inr (own_ne oB ri (by decide)).symm)) (fun _ _ => rfl) rfl rfl
 refine bodyPost_ret (results_cell1 rfl _ _ (G + 1) _ _ _ rfl b9 Tryz.underlying24 rfl imgSz) rfl ⟨⟨A1, d.fr.length, c1⟩, ⟨A2, d.bl.length, c2⟩, rfl, xf.grown g9 (fun j e => by cases e; rw [← HG.out]; exact Nat.le_succ _), f1, own_ok (s := ⟨A1, d.fr.length, c1⟩) oA HFS.out, HFS.out, f2, own_ok (s := ⟨A2, d.bl.length, c2⟩) oB HBS.out, HBS.out⟩
set_option maxHeartbeats 4000000 in
set_option maxRecDepth 100000 in
theorem imach_none (w : World) :
  Calls Tryz.prog 27 #[.agg #[.slice none 0 0, .slice none 0 0, .string ⟨#[]⟩]] w fun e w' => e = .returned (.tuple #[.agg mac0.cells, .int .i64 3]) ∧ Ext w w' := by
 have HR := Lib.hid (fun w => readRest_none [] w (by decide) (by decide))
 have x0 := ((Ext.refl w).alloc (.cells #[.slice none 0 0, .slice none 0 0, .string (str [])] 24)).alloc (.cells mac0.cells 38)
 have bx := (Box.new w 24 #[.slice none 0 0, .slice none 0 0, .string (str [])]).ext ((Ext.refl _).alloc (.cells mac0.cells 38))
 have br := Box.new (w.alloc (.cells #[.slice none 0 0, .slice none 0 0, .string (str [])] 24)) 38 mac0.cells
 rw [World.size_alloc] at br
 go_enter Tryz.func27, Tryz.ntmps27
 go_upto_region 1 with fail
 change Code.wp _ _ _ _ ((w.alloc (.cells #[.slice none 0 0, .slice none 0 0, .string (str [])] 24)).alloc (.cells mac0.cells 38))
 generalize (w.alloc (.cells #[.slice none 0 0, .slice none 0 0, .string (str [])] 24)).alloc (.cells mac0.cells 38) = w0 at x0 bx br ⊢
 obtain ⟨G, hG⟩ : ∃ G, G = w.heap.size := ⟨_, rfl⟩
 rw [← hG] at bx br ⊢
 have HG := Lib.hid hG
 clear hG
 have q2 : w0.cell? ⟨G, 2, none⟩ = some (.string (str [])) := bx.cell 2
 go_upto_region 2 with (first
  | (go_at_call 68; refine (HR.out _).mono ?_; rintro e w1 ⟨rfl, x1⟩)
  | (refine wp_st_mac _ _ rfl rfl w1.heap.size mac0 _ _ rfl rfl (Box.new _ _ _) rfl ?_; intro w2 b2 g2))
 have y2 : Ext w1 w2 := ((Ext.refl w1).alloc _).grown g2 (fun j e => by cases e; exact Nat.le_refl _)
 have br2 := br.ext (x1.trans y2)
 go_wp2_with (refine wp_st_mac _ _ rfl rfl (G + 1) mac0 _ _ rfl rfl br2 rfl ?_; intro w9 b9 g9)
 exact bodyPost_ret (results_cell2 rfl _ _ (G + 1) _ _ _ _ rfl rfl b9 Tryz.underlying38 rfl macSz) rfl ⟨rfl, (x0.trans (x1.trans y2)).grown g9 (fun j e => by cases e; rw [← HG.out]; exact Nat.le_succ _)⟩
end Go.Proofs.YtfaplefkakpgcaaGreatDoor
