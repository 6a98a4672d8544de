/- Words for memory that every walk of this seat uses: a world that has only grown, texts as lists of bytes, rows of texts. -/
import Derived.WalkKit
import Derived.WalkSpells
import Derived.WalkLawsBesides
import Derived.RegionTactic
import Derived.ChangeAlike
import Derived.Lib.Hide
import Derived.Lib.Strings
import Derived.IntWalk
import Derived.Deep.QuietTactic
import Derived.BigQuiet
import Derived.Deep.RegionWith
import Derived.Below
import Derived.Laws.OwnMore
import Derived.Laws.BytesArg
import Derived.ShutString
import Derived.Test.YtmcoepkopfcbdaaRows
import Derived.ProofKit
import Derived.OpenShut
import Derived.WideKeyArgs
import Derived.ChangeSlices
import Derived.Laws.BitsAllLaws
import Derived.Shelf.Strings.Builder1
import Derived.Shelf.Strings.Builder2
import Derived.Shelf.Small.Bits
import Derived.Shelf.Small.Strs
import Derived.Shelf.Strings.BuilderF
import Derived.Shelf.Strings.BuilderK
import Derived.Shelf.Strings.Builder2Cap
import Derived.Shelf.Strconv.Itoa0
import Derived.Shelf.Strings.Prefix
import Derived.Shelf.Bits.Mul64
import Derived.Shelf.Strings.Repeat
import Derived.Shelf.Strings.BuilderCap
import Derived.Test.YtmcoepkopfcbdaaProg
import Derived.StillTail
namespace Go.Proofs.Ytmcoepkopfcbdaa
open Go.RowKit

/-- w' is w with new blocks, and writes into those alone -/
def Ext (w w' : World) : Prop := Below w.heap.size w w'
namespace Ext
variable {a b c w w' : World}
theorem refl (w : World) : Ext w w := Below.refl _ _
theorem size (h : Ext w w') : w.heap.size ≤ w'.heap.size := Below.size h
theorem trans (h : Ext a b) (k : Ext b c) : Ext a c := Below.trans h (Below.mono k h.size)
theorem alloc (h : Ext a w) (o : Obj) : Ext a (w.alloc o) := Below.alloc h h.size o
theorem drew (h : Ext a w) : Ext a w.drew := Below.drew h
theorem drewN (h : Ext a w) (n : Nat) : Ext a (w.drewN n) := by
  have k : Below a.heap.size a w := h
  exact ⟨k.os, k.tape, k.output, k.size, k.block⟩
theorem setCell (h : Ext a w) {p : Addr} (hp : a.heap.size ≤ p.block) (u : Value) : Ext a (w.setCell p u) := Below.setCell h hp u
theorem cell (h : Ext w w') {p : Addr} (hp : p.block < w.heap.size) : w'.cell? p = w.cell? p := Below.cell h hp
theorem frozen (h : Ext w w') {p : Addr} (hp : p.block < w.heap.size) : w'.frozen? p = w.frozen? p := Below.frozen h hp
theorem keep (h : Ext w w') {b o : Nat} {v : Value} (hc : w.cell? ⟨b, o, none⟩ = some v) : w'.cell? ⟨b, o, none⟩ = some v :=
  (h.cell (World.block_lt_of_cell? w _ hc)).trans hc
theorem undrew (h : Ext w.drew w') : Ext w w' := by
  have k : Below w.drew.heap.size w.drew w' := h
  exact ⟨k.os, k.tape, k.output, k.size, k.block⟩
end Ext

/-- the block g is just these cells, none of them frozen -/
def Box (w : World) (g : Nat) (t : TypeId) (cs : Array Value) : Prop := w.heap[g]? = some (.cells cs t (0, 0))
namespace Box
variable {w w' : World} {g : Nat} {t : TypeId} {cs : Array Value}
theorem lt (h : Box w g t cs) : g < w.heap.size := (Array.getElem?_eq_some_iff.1 h).1
theorem ext (h : Box w g t cs) (k : Ext w w') : Box w' g t cs := (Below.block k g h.lt).trans h
theorem new (w : World) (t : TypeId) (cs : Array Value) : Box (w.alloc (.cells cs t)) w.heap.size t cs := heap_alloc_new w _
theorem cell (h : Box w g t cs) (i : Nat) : w.cell? ⟨g, i, none⟩ = cs[i]? := cell_of_row w g i cs t (0, 0) h
theorem frozen (h : Box w g t cs) (i : Nat) : w.frozen? ⟨g, i, none⟩ = false := by
  have k : w.heap[g]? = some (.cells cs t (0, 0)) := h
  simp [World.frozen?, k]
theorem set (h : Box w g t cs) (i : Nat) (u : Value) : Box (w.setCell ⟨g, i, none⟩ u) g t (cs.setIfInBounds i u) := by
  have k : w.heap[g]? = some (.cells cs t (0, 0)) := h
  show (w.setCell ⟨g, i, none⟩ u).heap[g]? = _
  simp [World.setCell, Array.getElem?_modify, k]
theorem drew (h : Box w g t cs) : Box w.drew g t cs := h
end Box

/-- a world that has grown out of w -/
structure Later (w : World) where
  now : World
  ext : Ext w now
instance laterNonempty (w : World) : Nonempty (Later w) := ⟨⟨w, Ext.refl w⟩⟩
theorem wp_region_later {P : Program} {id : Nat} {Q : Exit → Act → World → Prop} {a : Act} {w : World} {l : List Oper} (hm : P.follows .mixedOrders = true) (hB : Region.lexB .any l.toArray = true)
    (h : wpQuiet P l.toArray (fun w' => ∃ x : Later w, w' = x.now) (fun a' => ∀ w', (∃ x : Later w, w' = x.now) → Q .normal a' w') l a) : (Code.region id l.toArray true).wp P Q a w :=
  wp_region_quiet (C := fun w' => ∃ x : Later w, w' = x.now) hm hB ⟨⟨_, (Ext.refl w).drew⟩, rfl⟩ (by simpa using h)
theorem later_of {P : Program} {f : FuncId} {args : Array Value} {w : World} {x : Later w} {v : Value}
    (h : Calls P f args x.now fun e w' => e = .returned v ∧ Ext x.now w') : Calls P f args x.now fun e w' => e = .returned v ∧ ∃ y : Later w, w' = y.now :=
  h.mono fun _ _ ⟨he, hg⟩ => ⟨he, ⟨_, x.ext.trans hg⟩, rfl⟩
theorem later_of_same {P : Program} {f : FuncId} {args : Array Value} {w : World} {x : Later w} {v : Value}
    (h : Calls P f args x.now fun e w' => e = .returned v ∧ x.now = w') : Calls P f args x.now fun e w' => e = .returned v ∧ ∃ y : Later w, w' = y.now :=
  h.mono fun _ _ ⟨he, hg⟩ => ⟨he, x, hg.symm⟩

/-- a text of these bytes -/
def str (l : List UInt8) : ByteArray := ⟨l.toArray⟩
theorem str_size (l : List UInt8) : (str l).size = l.length := by simp [str, ByteArray.size]
theorem str_app (a b : List UInt8) : str a ++ str b = str (a ++ b) := by apply ByteArray.ext; simp [str]
theorem str_data (l : List UInt8) : (str l).data.toList = l := rfl
theorem str_toList (l : List UInt8) : (str l).toList = l := (ByteArray.toList_eq _).trans rfl
theorem str_ext (l : List UInt8) (a b : Nat) : (str l).extract a b = str ((l.drop a).take (b - a)) := by
  apply ByteArray.ext; apply Array.toList_inj.1; rw [Lib.extract_data]; rfl
theorem str_of (s : ByteArray) : s = str s.data.toList := rfl
theorem str_inj {a b : List UInt8} (h : str a = str b) : a = b := by have := congrArg (fun s : ByteArray => s.data.toList) h; exact this

/-- the slice with the address A and n places holds these texts -/
def Strs (w : World) (A : Option Addr) (n : Nat) (ss : List (List UInt8)) : Prop :=
  n = ss.length ∧ (0 < n → ∃ b o, A = some ⟨b, o, none⟩ ∧ ∀ (j : Nat) (h : j < ss.length), w.cell? ⟨b, o + j, none⟩ = some (.string (str ss[j])))
namespace Strs
variable {w w' : World} {A : Option Addr} {n : Nat} {ss : List (List UInt8)}
theorem len (h : Strs w A n ss) : n = ss.length := h.1
theorem ext (h : Strs w A n ss) (k : Ext w w') : Strs w' A n ss :=
  ⟨h.1, fun hn => by obtain ⟨b, o, e, hc⟩ := h.2 hn; exact ⟨b, o, e, fun j hj => k.keep (hc j hj)⟩⟩
theorem drew (h : Strs w A n ss) : Strs w.drew A n ss := h.ext ((Ext.refl w).drew)
theorem own {base : Nat} {t : TypeId} {c : Nat} (h : w.ownsRow base t 1 (.slice A n c) n (ss.map fun s => .string (str s))) : Strs w A n ss := by
  have hl : n = ss.length := by have := h.1; simpa using this.symm
  refine ⟨hl, fun hn => ?_⟩
  rcases h.2 with ⟨_, h0⟩ | ⟨g, cap, cur, hv, _⟩
  · omega
  have hA : A = some ⟨g, 0, none⟩ := by injection hv
  subst hA
  refine ⟨g, 0, rfl, fun j hj => ?_⟩
  have := h.cellAt (g := g) j (by omega)
  rw [Nat.zero_add, this]
  simp [hj]
end Strs
end Go.Proofs.Ytmcoepkopfcbdaa
/- What every statement's proof needs: arguments that come in stay as they were where memory has only grown. -/
namespace Go.Proofs.Ytmcoepkopfcbdaa
open Go.ChangeShapes Go.WideShapes Go.ChangeAt Go.RowKit

theorem ownKnobNone : ownKnob Try.prog.godebug = none := by kernel_rfl
theorem laidOutAll : laidOutB Try.prog = true := by kernel_rfl
def ReadT (t : TypeId) : Prop := Try.prog.readableRec t = true ∧ t < Try.prog.types.size
section
variable {H : Type} {enc : TypeId × Value → H}
theorem trod_ext {t : TypeId} (ht : ReadT t) {W W' : World} (hx : Ext W W') {sp : Nat → Bool} {v : Value} {d : DataW H} {ps : List MemPlace} (h : DataW.Trod enc Try.prog W 0 (fun _ => true) true t v d ps) (hl : ∀ p ∈ ps, p.block < W.heap.size) (hs : ∀ p ∈ ps, sp p.block = true) : DataW.Trod enc Try.prog W' 0 sp true t v d ps := by
  exact WideElems.Trod_stays laidOutAll ht.1 ht.2 h (fun p hp => Below.same hx (hl p hp)) hs
theorem trodAll_ext : ∀ {ts : List TypeId} {vs : List Value} {ds : List (DataW H)} {ps : List MemPlace} {W W' : World} {sp : Nat → Bool}, (∀ t ∈ ts, ReadT t) → Ext W W' → DataW.TrodAll enc Try.prog W 0 (fun _ => true) true ts vs ds ps → (∀ p ∈ ps, p.block < W.heap.size) → (∀ p ∈ ps, sp p.block = true) → DataW.TrodAll enc Try.prog W' 0 sp true ts vs ds ps
  | [], vs, ds, ps, W, W', sp, _, _, h, _, _ => by
    obtain ⟨rfl, rfl, rfl⟩ := trodAll_nil h
    exact trodAll_mk0
  | t :: ts, vs, ds, ps, W, W', sp, ht, hx, h, hl, hs => by
    obtain ⟨v, vs', d, ds', p, q, rfl, rfl, rfl, h0, r0⟩ := trodAll_cons h
    exact trodAll_cons_mk (trod_ext (ht t (by simp)) hx h0 (fun p hp => hl p (List.mem_append_left _ hp)) (fun p hp => hs p (List.mem_append_left _ hp)))
      (trodAll_ext (fun t h => ht t (by simp [h])) hx r0 (fun p hp => hl p (List.mem_append_right _ hp)) (fun p hp => hs p (List.mem_append_right _ hp)))
set_option maxRecDepth 100000 in
/-- the answer is true, the arguments read as they did, memory has only grown: so the law's word is kept -/
theorem law_post {f : Func} {s : ChangeSpec} {apart fresh handsOn again : Bool} {W W' : World} {args : Array Value} {ds : List (DataW H)} {before : List MemPlace} (hvs : s.vars = [])
    (hW : DataW.Whole enc Try.prog f.params.toList s.vars apart W args.toList ds [] before) (hft : f.resultTypes = #[4]) (hts : ∀ t ∈ f.params.toList, ReadT t)
    (hs : s.fn H (ds ++ []) = { results := [.lit (.bool true)], args := ds }) (hx : Ext W W') : s.post enc Try.prog f apart fresh handsOn again W args (.bool true) W' := by
  have hlt : ∀ p ∈ before, p.block < W.heap.size := fun p hp => hW.lt p hp
  have hold : ∀ p ∈ before, (fun b => decide (b < W.heap.size)) p.block = true := fun p hp => by simpa using hlt p hp
  have hW' := hW
  obtain ⟨p, q, hA, hV, rfl, hz, hn⟩ := hW
  have hq : q = [] := by rw [hvs] at hV; exact (trodVars_none hV).2
  subst hq
  rw [List.append_nil] at hlt hold hW' hz hn
  have hres : ∀ (b : Nat) (sp : Nat → Bool) (hd : Bool), DataW.TrodAll enc Try.prog W' b sp hd f.resultTypes.toList ((Value.bool true).resultList f.resultTypes.size) (s.fn H (ds ++ [])).results [] := fun b sp hd => by
    rw [hs, hft]
    exact trodAll_cons_mk (shut_bool Try.underlying4 _) trodAll_mk0
  have hargs : ∀ sp : Nat → Bool, (∀ x ∈ p, sp x.block = true) → DataW.TrodAll enc Try.prog W' 0 sp true f.params.toList args.toList (s.fn H (ds ++ [])).args p := fun sp hsp => by
    rw [hs]
    exact trodAll_ext hts hx hA hlt hsp
  have hvars : ∀ sp : Nat → Bool, DataW.TrodVars enc Try.prog W' sp s.vars (s.fn H (ds ++ [])).vars [] := fun sp => by
    rw [hs, hvs]; rfl
  refine ⟨ds, [], p, [], p, [], hW', hres _ _ _, hargs _ hold, hvars _, World.keptBut_mono (fun x hp => ⟨hp, .inr (.inl hp)⟩) (Below.frame hx (· ∈ p)), fun _ => ⟨?_, _, _, p, ⟨p, [], trodAll_append (hargs _ (fun _ _ => rfl)) (hres _ _ _), hvars _, by simp, fun b off hp => ?_, fun ha => ?_⟩, fun x hp _ => hp⟩⟩
  · exact ok_one hft rfl (okWide_bool_mk Try.underlying4 _)
  · rw [Below.frozen hx (hlt _ hp)]
    exact hz b off hp
  · exact hn ha
end
end Go.Proofs.Ytmcoepkopfcbdaa
/- The walks of package num: Put, Get, at one, two and four bytes. -/
namespace Go.Proofs.Ytmcoepkopfcbdaa
open Go.RowKit

/-- the byte of a number -/
def b8 (n : Int) : UInt8 := UInt8.ofNat n.toNat
theorem strOfNums_eq (xs : List Int) : strOfNums xs = str (xs.map b8) := rfl
theorem b8_toNat (v : Int) (h0 : 0 ≤ v) (h1 : v ≤ 255) : ((b8 v).toNat : Int) = v := by
  unfold b8; simp [UInt8.toNat_ofNat']; omega
theorem b8_back (c : UInt8) : b8 (c.toNat : Int) = c := by unfold b8; simp
theorem byte_bd (c : UInt8) : 0 ≤ (c.toNat : Int) ∧ (c.toNat : Int) ≤ 255 := by have := c.toNat_lt; omega

theorem conv_row (w : World) (xs : List Int) (cs : Array Value) (t c k : Nat) (hk : xs.length = k) (hc : ∀ i, i < xs.length → cs[i]? = some (.int .u8 (xs.getD i 0))) :
    (convert 22 9 (.slice (some ⟨w.heap.size, 0, none⟩) k c)).run Try.prog (w.alloc (.cells cs t)) = .ok (.string (str (xs.map b8))) (w.alloc (.cells cs t)) := by
  subst hk
  refine run_convert_bytes_arg (P := Try.prog) _ 22 5 Try.underlying22 Try.underlying5 _ _ _ c xs rfl (fun i hi => ?_) 9 Try.underlying9
  have := hc i hi
  have hb := cell_of_row (w.alloc (.cells cs t)) w.heap.size (0 + i) cs t (0, 0) (heap_alloc_new w _)
  rw [hb, Nat.zero_add]; exact this
set_option maxHeartbeats 400000 in
set_option maxRecDepth 100000 in
theorem put2 (n : Int) (w : World) (h0 : 0 ≤ n) (h1 : n ≤ 65535) :
    Calls Try.prog 83 #[.int .u64 n, .int .i64 2] w fun e w' => e = .returned (.string (str [b8 (n % 256), b8 (n / 256)])) ∧ Ext w w' := by
  have hc := conv_row w [n % 256, n / 256] #[.int .u8 (n % 256), .int .u8 (n / 256), .int .u8 0, .int .u8 0, .int .u8 0, .int .u8 0, .int .u8 0, .int .u8 0] 136 8 2 rfl (fun i hi => by
    rcases (show i = 0 ∨ i = 1 by simp at hi; omega) with rfl | rfl <;> rfl)
  go_enter Try.func83, Try.ntmps83
  go_wp2_with fail
  refine wp_loop_rounds 3 ?_
  rw [rounds_succ]
  go_wp2_with fail
  rw [rounds_succ]
  go_wp2_with fail
  rw [rounds_succ]
  go_wp2_with fail
  go_ret
  exact ⟨rfl, (Ext.refl _).alloc _⟩
set_option maxHeartbeats 400000 in
set_option maxRecDepth 100000 in
theorem put1 (n : Int) (w : World) (h0 : 0 ≤ n) (h1 : n ≤ 255) :
    Calls Try.prog 83 #[.int .u64 n, .int .i64 1] w fun e w' => e = .returned (.string (str [b8 n])) ∧ Ext w w' := by
  have hc := conv_row w [n] #[.int .u8 n, .int .u8 0, .int .u8 0, .int .u8 0, .int .u8 0, .int .u8 0, .int .u8 0, .int .u8 0] 136 8 1 rfl (fun i hi => by
    rcases (show i = 0 by simp at hi; omega) with rfl; rfl)
  go_enter Try.func83, Try.ntmps83
  go_wp2_with fail
  refine wp_loop_rounds 2 ?_
  rw [rounds_succ]
  go_wp2_with fail
  rw [rounds_succ]
  go_wp2_with fail
  go_ret
  exact ⟨rfl, (Ext.refl _).alloc _⟩
set_option maxHeartbeats 400000 in
set_option maxRecDepth 100000 in
theorem put4 (n : Int) (w : World) (h0 : 0 ≤ n) (h1 : n ≤ 4294967295) :
    Calls Try.prog 83 #[.int .u64 n, .int .i64 4] w fun e w' => e = .returned (.string (str [b8 (n % 256), b8 (n / 256 % 256), b8 (n / 65536 % 256), b8 (n / 16777216)])) ∧ Ext w w' := by
  have hc := conv_row w [n % 256, n / 256 % 256, n / 65536 % 256, n / 16777216] #[.int .u8 (n % 256), .int .u8 (n / 256 % 256), .int .u8 (n / 65536 % 256), .int .u8 (n / 16777216), .int .u8 0, .int .u8 0, .int .u8 0, .int .u8 0] 136 8 4 rfl (fun i hi => by
    rcases (show i = 0 ∨ i = 1 ∨ i = 2 ∨ i = 3 by simp at hi; omega) with rfl | rfl | rfl | rfl <;> rfl)
  go_enter Try.func83, Try.ntmps83
  go_wp2_with fail
  refine wp_loop_rounds 5 ?_
  rw [rounds_succ]
  go_wp2_with fail
  rw [rounds_succ]
  go_wp2_with fail
  rw [rounds_succ]
  go_wp2_with fail
  rw [rounds_succ]
  go_wp2_with fail
  rw [rounds_succ]
  go_wp2_with fail
  go_ret
  exact ⟨rfl, (Ext.refl _).alloc _⟩
theorem ret_int {k : IntKind} {a b : Int} (h : a = b) : Ending.returned (.int k a) = .returned (.int k b) := by rw [h]
theorem ret_str {a b : List UInt8} (h : a = b) : Ending.returned (.string (str a)) = .returned (.string (str b)) := by rw [h]
theorem wrap_byte (c : UInt8) : IntKind.u64.wrap (c.toNat : Int) = c.toNat := by rw [IntKind.wrap_u64]; have := c.toNat_lt; omega
theorem or_first (a : UInt8) : bits .or .u64 0 (IntKind.u64.wrap (IntKind.u64.wrap (a.toNat : Int))) = a.toNat := by
  rw [wrap_byte, wrap_byte]
  have := u64_or_nat 0 a.toNat (by omega) (by have := a.toNat_lt; omega)
  simpa using this
theorem or_next (x : Int) (c : UInt8) (k : Nat) (M : Int) (hM : M = ((2 ^ k : Nat) : Int)) (h0 : 0 ≤ x) (hx : x < M) (hb : M ≤ 16777216) : bits .or .u64 x (IntKind.u64.wrap (IntKind.u64.wrap (c.toNat : Int) * M)) = x + M * c.toNat := by
  have hc := c.toNat_lt
  obtain ⟨x, rfl⟩ := Int.eq_ofNat_of_zero_le h0
  obtain ⟨m, rfl⟩ := Int.eq_ofNat_of_zero_le (show 0 ≤ M by omega)
  have hm : m = 2 ^ k := by exact_mod_cast hM
  have hlt : m * c.toNat < 4294967296 := by
    have : m * c.toNat ≤ 16777216 * 255 := Nat.mul_le_mul (by omega) (by omega)
    omega
  rw [wrap_byte, show (c.toNat : Int) * m = ((m * c.toNat : Nat) : Int) from by rw [Int.mul_comm]; rfl, IntKind.wrap_u64, Int.emod_eq_of_lt (by omega) (by omega), u64_or_nat x (m * c.toNat) (by omega) (by omega)]
  rw [Nat.or_comm, hm, ← Nat.two_pow_add_eq_or_of_lt (by rw [← hm]; omega) c.toNat]
  rw [← hm, Int.natCast_add, Int.natCast_mul]; omega
theorem get1_val (a : UInt8) : bits .or .u64 0 (IntKind.u64.wrap (IntKind.u64.wrap (a.toNat : Int))) = (a.toNat : Int) := by
  have ha := a.toNat_lt
  rw [or_first a]
set_option maxHeartbeats 400000 in
set_option maxRecDepth 100000 in
theorem get1 (a : UInt8) (w : World) :
    Calls Try.prog 65 #[.string (str [a])] w fun e w' => e = .returned (.int .u64 ((a.toNat : Int))) ∧ w = w' := by
  have hz := str_size
  go_enter Try.func65, Try.ntmps65
  go_wp2_with fail
  refine wp_loop_rounds 2 ?_
  rw [rounds_succ]
  go_wp2_with fail
  rw [rounds_succ]
  go_wp2_with fail
  go_ret
  exact ⟨ret_int (get1_val a), rfl⟩
theorem get2_val (a b : UInt8) : bits .or .u64 (bits .or .u64 0 (IntKind.u64.wrap (IntKind.u64.wrap (a.toNat : Int)))) (IntKind.u64.wrap (IntKind.u64.wrap (b.toNat : Int) * 256)) = (a.toNat : Int) + 256 * b.toNat := by
  have ha := a.toNat_lt; have hb := b.toNat_lt
  rw [or_first a]
  rw [or_next _ b 8 256 (by rfl) (by omega) (by omega) (by omega)]
set_option maxHeartbeats 400000 in
set_option maxRecDepth 100000 in
theorem get2 (a b : UInt8) (w : World) :
    Calls Try.prog 65 #[.string (str [a, b])] w fun e w' => e = .returned (.int .u64 ((a.toNat : Int) + 256 * b.toNat)) ∧ w = w' := by
  have hz := str_size
  go_enter Try.func65, Try.ntmps65
  go_wp2_with fail
  refine wp_loop_rounds 3 ?_
  rw [rounds_succ]
  go_wp2_with fail
  rw [rounds_succ]
  go_wp2_with fail
  rw [rounds_succ]
  go_wp2_with fail
  go_ret
  exact ⟨ret_int (get2_val a b), rfl⟩
theorem get4_val (a b c d : UInt8) : bits .or .u64 (bits .or .u64 (bits .or .u64 (bits .or .u64 0 (IntKind.u64.wrap (IntKind.u64.wrap (a.toNat : Int)))) (IntKind.u64.wrap (IntKind.u64.wrap (b.toNat : Int) * 256))) (IntKind.u64.wrap (IntKind.u64.wrap (c.toNat : Int) * 65536))) (IntKind.u64.wrap (IntKind.u64.wrap (d.toNat : Int) * 16777216)) = (a.toNat : Int) + 256 * b.toNat + 65536 * c.toNat + 16777216 * d.toNat := by
  have ha := a.toNat_lt; have hb := b.toNat_lt; have hc := c.toNat_lt; have hd := d.toNat_lt
  rw [or_first a]
  rw [or_next _ b 8 256 (by rfl) (by omega) (by omega) (by omega), or_next _ c 16 65536 (by rfl) (by omega) (by omega) (by omega), or_next _ d 24 16777216 (by rfl) (by omega) (by omega) (by omega)]
set_option maxHeartbeats 400000 in
set_option maxRecDepth 100000 in
theorem get4 (a b c d : UInt8) (w : World) :
    Calls Try.prog 65 #[.string (str [a, b, c, d])] w fun e w' => e = .returned (.int .u64 ((a.toNat : Int) + 256 * b.toNat + 65536 * c.toNat + 16777216 * d.toNat)) ∧ w = w' := by
  have hz := str_size
  go_enter Try.func65, Try.ntmps65
  go_wp2_with fail
  refine wp_loop_rounds 5 ?_
  rw [rounds_succ]
  go_wp2_with fail
  rw [rounds_succ]
  go_wp2_with fail
  rw [rounds_succ]
  go_wp2_with fail
  rw [rounds_succ]
  go_wp2_with fail
  rw [rounds_succ]
  go_wp2_with fail
  go_ret
  exact ⟨ret_int (get4_val a b c d), rfl⟩
end Go.Proofs.Ytmcoepkopfcbdaa
/- The walks of package geom. -/
namespace Go.Proofs.Ytmcoepkopfcbdaa
open Go.RowKit

/-- the plan of a volume of B blocks and I inodes, as a value -/
def geomV (B I : Int) : Value := .agg #[.int .i64 B, .int .i64 I, .int .i64 1, .int .i64 2, .int .i64 3, .int .i64 (3 + (I + 1) / 2)]
def noGeom : Value := .agg #[.int .i64 0, .int .i64 0, .int .i64 0, .int .i64 0, .int .i64 0, .int .i64 0]
def planB (B I : Int) : Bool := decide (16 ≤ B ∧ B ≤ 223 ∧ 4 ≤ I ∧ I ≤ 64 ∧ 3 + (I + 1) / 2 < B)

set_option maxHeartbeats 400000 in
theorem plan_yes (B I : Int) (w : World) (h : planB B I = true) :
    Calls Try.prog 64 #[.int .i64 B, .int .i64 I] w fun e w' => e = .returned (.tuple #[geomV B I, .int .i64 0]) ∧ Ext w w' := by
  have hp : 16 ≤ B ∧ B ≤ 223 ∧ 4 ≤ I ∧ I ≤ 64 ∧ 3 + (I + 1) / 2 < B := by simpa [planB] using h
  clear h
  go_enter Try.func64, Try.ntmps64
  go_wp2_with fail
  exact bodyPost_ret (v := .tuple #[geomV B I, .int .i64 0]) (by simp [results, Try.results64, go_sem, geomV]) rfl ⟨rfl, (Ext.refl _).alloc _⟩
theorem plan_no (B I : Int) (w : World) (h : planB B I = false) :
    Calls Try.prog 64 #[.int .i64 B, .int .i64 I] w fun e w' => (∃ n : Int, (n = 2 ∨ n = 10) ∧ e = .returned (.tuple #[noGeom, .int .i64 n])) ∧ Ext w w' := by
  have hp : B < 16 ∨ 223 < B ∨ (16 ≤ B ∧ B ≤ 223 ∧ I < 4) ∨ (16 ≤ B ∧ B ≤ 223 ∧ 64 < I) ∨ (16 ≤ B ∧ B ≤ 223 ∧ 4 ≤ I ∧ I ≤ 64 ∧ B ≤ 3 + (I + 1) / 2) := by
    have : ¬ (16 ≤ B ∧ B ≤ 223 ∧ 4 ≤ I ∧ I ≤ 64 ∧ 3 + (I + 1) / 2 < B) := by simpa [planB] using h
    omega
  clear h
  rcases hp with hp | hp | hp | hp | hp
  case' inr.inr.inr.inr =>
    go_enter Try.func64, Try.ntmps64
    go_wp2_with fail
    exact bodyPost_ret (v := .tuple #[noGeom, .int .i64 10]) (by simp [results, Try.results64, go_sem, noGeom]) rfl ⟨⟨10, by omega, rfl⟩, (Ext.refl _).alloc _⟩
  all_goals
    go_enter Try.func64, Try.ntmps64
    go_wp2_with fail
    exact bodyPost_ret (v := .tuple #[noGeom, .int .i64 2]) (by simp [results, Try.results64, go_sem, noGeom]) rfl ⟨⟨2, by omega, rfl⟩, (Ext.refl _).alloc _⟩

/-- the bit i of a row of bytes -/
def bitB (m : List UInt8) (i : Nat) : Bool := decide ((m.getD (i / 8) 0).toNat / 2 ^ (i % 8) % 2 = 1)
theorem bit_val' (c : UInt8) (k : Nat) : (bits BinOp.and IntKind.u8 ((c.toNat : Int) / 2 ^ k) 1 == 1) = decide (c.toNat / 2 ^ k % 2 = 1) := by
  have hc := c.toNat_lt
  have e2 : ((c.toNat : Int) / 2 ^ k) = ((c.toNat / 2 ^ k : Nat) : Int) := by rw [Int.natCast_ediv, Int.natCast_pow]; rfl
  have hlt : c.toNat / 2 ^ k < 256 := Nat.lt_of_le_of_lt (Nat.div_le_self _ _) hc
  have := u8_and_nat (c.toNat / 2 ^ k) 1 hlt (by omega)
  rw [e2, show (1 : Int) = ((1 : Nat) : Int) from rfl, this, Nat.and_one_is_mod]
  rw [Bool.eq_iff_iff]; simp; omega
theorem str_at (m : List UInt8) (k : Nat) (h : k < (str m).size) : (str m)[k] = m.getD k 0 := by
  have hl : k < m.length := by rw [str_size] at h; exact h
  exact (show (str m)[k] = m[k] from rfl).trans (by simp [List.getD, hl])
theorem bit_val (m : List UInt8) (i : Nat) (h : i / 8 < (str m).size) : (bits BinOp.and IntKind.u8 (((str m)[i / 8].toNat : Int) / 2 ^ (i % 8)) 1 == 1) = bitB m i :=
  (bit_val' _ _).trans (by unfold bitB; exact congrArg (fun c : UInt8 => decide (c.toNat / 2 ^ (i % 8) % 2 = 1)) (str_at m (i / 8) h))
theorem ret_bool {a b : Bool} (h : a = b) : Ending.returned (.bool a) = .returned (.bool b) := by rw [h]
set_option maxHeartbeats 400000 in
set_option maxRecDepth 100000 in
theorem bit_any (b o n c i : Nat) (m : List UInt8) (w : World) (hn : 3 ≤ n) (hc : w.cell? ⟨b, o + 2, none⟩ = some (.string (str m))) (hm : m.length = 128) (hi : i < 1024) :
    Calls Try.prog 52 #[.slice (some ⟨b, o, none⟩) n c, .int .i64 i] w fun e w' => e = .returned (.bool (bitB m i)) ∧ w = w' := by
  have hz : (str m).size = 128 := by rw [str_size, hm]
  go_enter Try.func52, Try.ntmps52
  go_wp2_with fail
  go_ret
  exact ⟨ret_bool (bit_val m i (by omega)), rfl⟩
end Go.Proofs.Ytmcoepkopfcbdaa
/-
  DERIVED: THE SHELF's CONTRACTS AT THIS DUMP, IN PLAIN WORDS (tools/lay-plain.mjs out of 'TryShelf.lean', which tools/lay-shelf.mjs wrote): THE SAME DECLARATIONS UNDER THE SAME NAMES: 'import', 'namespace', 'open', 'def', 'theorem' AND NOTHING ELSE: no command of the shelf's: FOR A HAND-IN. Each laying: the table of numbers ('.._ren') and one theorem, a field a fact of the dump's own or the kernel's comparison; each contract: ONE APPLICATION.
-/
namespace Go.Proofs
open Go.Shelf
def Try.lays170_ren : Go.Shelf.Ren := ⟨fun | 170 => 99 | n => n, fun | 70 => 109 | 3 => 3 | 0 => 0 | 72 => 111 | 37 => 22 | 5 => 5 | n => n, fun | n => n⟩
theorem Try.lays170 : Go.Proofs.Lays.n170 Try.prog Try.lays170_ren := {
  mixed := by kernel_rfl
  f170 := Try.func99.trans (congrArg some (by kernel_rfl))
  t0 := Try.underlying0
  a0 := Try.isAgg0
  z0 := Try.sizeOf0
  v0 := Try.zeroValue0
  t3 := Try.underlying3
  a3 := Try.isAgg3
  z3 := Try.sizeOf3
  v3 := Try.zeroValue3
  t37 := Try.underlying22
  a37 := Try.isAgg22
  z37 := Try.sizeOf22
  v37 := Try.zeroValue22
  t70 := Try.underlying109
  a70 := Try.isAgg109
  z70 := Try.sizeOf109
  v70 := Try.zeroValue109
  t72 := Try.underlying111
  a72 := Try.isAgg111
  z72 := Try.sizeOf111
  v72 := Try.zeroValue111 }
open Go.RowKit in
/-- (*strings.Builder).Len: "Len returns the number of accumulated bytes; b.Len() == len(b.String()).": the world is as it was. (LAID: no walk: one application.) -/
theorem Try.Builder_Len (B b : Nat) (bs : List Value) (w : World) (h : Lib.IsBuilder 111 5 B b bs w) :
    Calls Try.prog 99 #[.pointer (some ⟨b, 0, none⟩)] w fun e w' => e = .returned (.int .i64 bs.length) ∧ w' = w := Any.Builder_Len Try.lays170 B b bs w h
def Try.lays169_ren : Go.Shelf.Ren := ⟨fun | 169 => 82 | n => n, fun | 70 => 109 | 9 => 9 | 0 => 0 | 72 => 111 | 37 => 22 | 127 => 135 | 3 => 3 | 5 => 5 | n => n, fun | n => n⟩
theorem Try.lays169 : Go.Proofs.Lays.n169 Try.prog Try.lays169_ren := {
  mixed := by kernel_rfl
  f169 := Try.func82.trans (congrArg some (by kernel_rfl))
  t0 := Try.underlying0
  a0 := Try.isAgg0
  z0 := Try.sizeOf0
  v0 := Try.zeroValue0
  t3 := Try.underlying3
  a3 := Try.isAgg3
  z3 := Try.sizeOf3
  v3 := Try.zeroValue3
  t9 := Try.underlying9
  a9 := Try.isAgg9
  z9 := Try.sizeOf9
  v9 := Try.zeroValue9
  t37 := Try.underlying22
  a37 := Try.isAgg22
  z37 := Try.sizeOf22
  v37 := Try.zeroValue22
  t70 := Try.underlying109
  a70 := Try.isAgg109
  z70 := Try.sizeOf109
  v70 := Try.zeroValue109
  t72 := Try.underlying111
  a72 := Try.isAgg111
  z72 := Try.sizeOf111
  v72 := Try.zeroValue111
  t127 := Try.underlying135
  a127 := Try.isAgg135
  z127 := Try.sizeOf135
  v127 := Try.zeroValue135 }
theorem Try.Builder_Extra_169 : Builder.Extra Try.prog Try.lays169_ren := {
  sizeBuilder := by kernel_rfl
  liesBuilder := by kernel_rfl
  t5 := Try.underlying5
  a5 := Try.isAgg5
  z5 := Try.sizeOf5
  v5 := Try.zeroValue5
  infoByte := by kernel_rfl
  cellsByte := by kernel_rfl
  sizeByte := by kernel_rfl
  neB5 := by decide }
open Go.RowKit in
/-- (*strings.Builder).String: "String returns the accumulated string.": OF A BUILDER THAT HOLDS AT LEAST ONE BYTE. ✋ THE MODEL FREEZES THOSE BYTES IN THE BUFFER (unsafe.String): a later write INTO them ends the model's run without an answer; a later append BEHIND them goes on. The statement's order of evaluation is drawn: one draw. (LAID: no walk: one application.) -/
theorem Try.Builder_String (B b : Nat) (l : List UInt8) (w : World) (h : Lib.IsBuilder 111 5 B b (Lib.byteCells l) w) (h0 : l ≠ []) :
    Calls Try.prog 82 #[.pointer (some ⟨b, 0, none⟩)] w fun e w' => e = .returned (.string ⟨l.toArray⟩) ∧ Below B w w' := Any.Builder_String Try.lays169 Try.Builder_Extra_169 B b l w h h0
open Go.RowKit in
/-- (*strings.Builder).String OF A BUILDER THAT HOLDS NO BYTE: the empty string. (Its buffer is nil, or a row of which it has taken nothing yet; where that row has NO capacity the model lays one new block for unsafe.SliceData's 'some address'.) One draw. (LAID: no walk: one application.) -/
theorem Try.Builder_String_empty (B b : Nat) (w : World) (h : Lib.IsBuilder 111 5 B b [] w) (hBw : B ≤ w.heap.size) :
    Calls Try.prog 82 #[.pointer (some ⟨b, 0, none⟩)] w fun e w' => e = .returned (.string ⟨#[]⟩) ∧ Below B w w' := Any.Builder_String_empty Try.lays169 Try.Builder_Extra_169 B b w h hBw
open Go.RowKit in
/-- (*strings.Builder).String: "String returns the accumulated string.": WHATEVER THE BUILDER HOLDS. (LAID: no walk: one application.) -/
theorem Try.Builder_String_any (B b : Nat) (l : List UInt8) (w : World) (h : Lib.IsBuilder 111 5 B b (Lib.byteCells l) w) (hBw : B ≤ w.heap.size) :
    Calls Try.prog 82 #[.pointer (some ⟨b, 0, none⟩)] w fun e w' => e = .returned (.string ⟨l.toArray⟩) ∧ Below B w w' := Any.Builder_String_any Try.lays169 Try.Builder_Extra_169 B b l w h hBw
def Try.lays241_ren : Go.Shelf.Ren := ⟨fun | 241 => 96 | 277 => 103 | n => n, fun | 70 => 109 | 3 => 3 | 0 => 0 | 72 => 111 | 37 => 22 | 5 => 5 | n => n, fun | n => n⟩
theorem Try.lays241 : Go.Proofs.Lays.n241 Try.prog Try.lays241_ren := {
  mixed := by kernel_rfl
  f241 := Try.func96.trans (congrArg some (by kernel_rfl))
  f277 := Try.func103.trans (congrArg some (by kernel_rfl))
  t0 := Try.underlying0
  a0 := Try.isAgg0
  z0 := Try.sizeOf0
  v0 := Try.zeroValue0
  t3 := Try.underlying3
  a3 := Try.isAgg3
  z3 := Try.sizeOf3
  v3 := Try.zeroValue3
  t37 := Try.underlying22
  a37 := Try.isAgg22
  z37 := Try.sizeOf22
  v37 := Try.zeroValue22
  t70 := Try.underlying109
  a70 := Try.isAgg109
  z70 := Try.sizeOf109
  v70 := Try.zeroValue109
  t72 := Try.underlying111
  a72 := Try.isAgg111
  z72 := Try.sizeOf111
  v72 := Try.zeroValue111 }
theorem Try.Builder_Extra_241 : Builder.Extra Try.prog Try.lays241_ren := {
  sizeBuilder := by kernel_rfl
  liesBuilder := by kernel_rfl
  t5 := Try.underlying5
  a5 := Try.isAgg5
  z5 := Try.sizeOf5
  v5 := Try.zeroValue5
  infoByte := by kernel_rfl
  cellsByte := by kernel_rfl
  sizeByte := by kernel_rfl
  neB5 := by decide }
open Go.RowKit in
/-- (*strings.Builder).grow (no doc but "grow copies the buffer to a new, larger buffer so that there are at least n bytes of capacity beyond len(b.buf)."): AT A BUILDER WITHOUT A BUFFER: a new row of whatever bytes for its buffer, none of them its own yet. Three draws. (LAID: no walk: one application.) -/
theorem Try.Builder_grow_fresh (B b n : Nat) (w : World) (hB : B ≤ b) (hbk : w.heap[b]? = some (.cells #[.pointer (some ⟨b, 0, none⟩), .slice none 0 0] 111 (0, 0))) (hBw : B ≤ w.heap.size) (hn : n ≤ 281474976710656) :
    Calls Try.prog 96 #[.pointer (some ⟨b, 0, none⟩), .int .i64 n] w fun e w' => e = .returned (.tuple #[]) ∧ (Lib.BuilderAt 111 5 B b (.pointer (some ⟨b, 0, none⟩)) [] w' ∧ Below B w w') := Any.Builder_grow_fresh Try.lays241 Try.Builder_Extra_241 B b n w hB hbk hBw hn
def Try.lays165_ren : Go.Shelf.Ren := ⟨fun | 165 => 79 | 240 => 95 | 241 => 96 | 276 => 102 | 277 => 103 | n => n, fun | 70 => 109 | 3 => 3 | 0 => 0 | 4 => 4 | 9 => 9 | 20 => 20 | 72 => 111 | 37 => 22 | 164 => 145 | 5 => 5 | n => n, fun | n => n⟩
theorem Try.lays165 : Go.Proofs.Lays.n165 Try.prog Try.lays165_ren := {
  mixed := by kernel_rfl
  f165 := Try.func79.trans (congrArg some (by kernel_rfl))
  f240 := Try.func95.trans (congrArg some (by kernel_rfl))
  f241 := Try.func96.trans (congrArg some (by kernel_rfl))
  f276 := Try.func102.trans (congrArg some (by kernel_rfl))
  f277 := Try.func103.trans (congrArg some (by kernel_rfl))
  t0 := Try.underlying0
  a0 := Try.isAgg0
  z0 := Try.sizeOf0
  v0 := Try.zeroValue0
  t3 := Try.underlying3
  a3 := Try.isAgg3
  z3 := Try.sizeOf3
  v3 := Try.zeroValue3
  t4 := Try.underlying4
  a4 := Try.isAgg4
  z4 := Try.sizeOf4
  v4 := Try.zeroValue4
  t9 := Try.underlying9
  a9 := Try.isAgg9
  z9 := Try.sizeOf9
  v9 := Try.zeroValue9
  t20 := Try.underlying20
  a20 := Try.isAgg20
  z20 := Try.sizeOf20
  v20 := Try.zeroValue20
  t37 := Try.underlying22
  a37 := Try.isAgg22
  z37 := Try.sizeOf22
  v37 := Try.zeroValue22
  t70 := Try.underlying109
  a70 := Try.isAgg109
  z70 := Try.sizeOf109
  v70 := Try.zeroValue109
  t72 := Try.underlying111
  a72 := Try.isAgg111
  z72 := Try.sizeOf111
  v72 := Try.zeroValue111
  t164 := Try.underlying145
  a164 := Try.isAgg145
  z164 := Try.sizeOf145
  v164 := Try.zeroValue145 }
theorem Try.Builder_Extra_165 : Builder.Extra Try.prog Try.lays165_ren := {
  sizeBuilder := by kernel_rfl
  liesBuilder := by kernel_rfl
  t5 := Try.underlying5
  a5 := Try.isAgg5
  z5 := Try.sizeOf5
  v5 := Try.zeroValue5
  infoByte := by kernel_rfl
  cellsByte := by kernel_rfl
  sizeByte := by kernel_rfl
  neB5 := by decide }
open Go.RowKit in
/-- (*strings.Builder).Grow AT A BUILDER THAT HAS NOT BEEN WRITTEN ('var b strings.Builder; b.Grow(n)'): "Grow grows b's capacity, if necessary, to guarantee space for another n bytes.": it holds no byte behind it as before it. (LAID: no walk: one application.) -/
theorem Try.Builder_Grow_fresh (B b n : Nat) (w : World) (hB : B ≤ b) (hbk : w.heap[b]? = some (.cells #[.pointer none, .slice none 0 0] 111 (0, 0))) (hBw : B ≤ w.heap.size) (hn : n ≤ 281474976710656) :
    Calls Try.prog 79 #[.pointer (some ⟨b, 0, none⟩), .int .i64 n] w fun e w' => e = .returned (.tuple #[]) ∧ (Lib.BuilderAt 111 5 B b (.pointer (some ⟨b, 0, none⟩)) [] w' ∧ Below B w w') := Any.Builder_Grow_fresh Try.lays165 Try.Builder_Extra_165 B b n w hB hbk hBw hn
def Try.lays128_ren : Go.Shelf.Ren := ⟨fun | 128 => 76 | n => n, fun | 51 => 107 | 3 => 3 | 4 => 4 | 46 => 83 | 5 => 5 | 9 => 9 | n => n, fun | n => n⟩
theorem Try.lays128 : Go.Proofs.Lays.n128 Try.prog Try.lays128_ren := {
  mixed := by kernel_rfl
  f128 := Try.func76.trans (congrArg some (by kernel_rfl))
  t3 := Try.underlying3
  a3 := Try.isAgg3
  z3 := Try.sizeOf3
  v3 := Try.zeroValue3
  t4 := Try.underlying4
  a4 := Try.isAgg4
  z4 := Try.sizeOf4
  v4 := Try.zeroValue4
  t5 := Try.underlying5
  a5 := Try.isAgg5
  z5 := Try.sizeOf5
  v5 := Try.zeroValue5
  t9 := Try.underlying9
  a9 := Try.isAgg9
  z9 := Try.sizeOf9
  v9 := Try.zeroValue9
  t46 := Try.underlying83
  a46 := Try.isAgg83
  z46 := Try.sizeOf83
  v46 := Try.zeroValue83
  t51 := Try.underlying107
  a51 := Try.isAgg107
  z51 := Try.sizeOf107
  v51 := Try.zeroValue107 }
/-- bits.Len32: "Len32 returns the minimum number of bits required to represent x; the result is 0 for x == 0.": IT RETURNS 'Lib.bitLen x'; the world is as it was. ('h0', 'h1': x is a uint32.) (LAID: no walk: one application.) -/
theorem Try.bits_Len32 (x : Int) (w : World) (h0 : 0 ≤ x) (h1 : x ≤ 4294967295) :
    Calls Try.prog 76 #[.int .u32 x] w fun e w' => e = .returned (.int .i64 (Lib.bitLen x.toNat)) ∧ w' = w := Any.bits_Len32 Try.lays128 x w h0 h1
def Try.lays125_ren : Go.Shelf.Ren := ⟨fun | 125 => 48 | 128 => 76 | 129 => 77 | n => n, fun | 46 => 83 | 3 => 3 | 51 => 107 | 53 => 91 | 4 => 4 | 5 => 5 | 9 => 9 | n => n, fun | n => n⟩
theorem Try.lays125 : Go.Proofs.Lays.n125 Try.prog Try.lays125_ren := {
  mixed := by kernel_rfl
  f125 := Try.func48.trans (congrArg some (by kernel_rfl))
  f128 := Try.func76.trans (congrArg some (by kernel_rfl))
  f129 := Try.func77.trans (congrArg some (by kernel_rfl))
  t3 := Try.underlying3
  a3 := Try.isAgg3
  z3 := Try.sizeOf3
  v3 := Try.zeroValue3
  t4 := Try.underlying4
  a4 := Try.isAgg4
  z4 := Try.sizeOf4
  v4 := Try.zeroValue4
  t5 := Try.underlying5
  a5 := Try.isAgg5
  z5 := Try.sizeOf5
  v5 := Try.zeroValue5
  t9 := Try.underlying9
  a9 := Try.isAgg9
  z9 := Try.sizeOf9
  v9 := Try.zeroValue9
  t46 := Try.underlying83
  a46 := Try.isAgg83
  z46 := Try.sizeOf83
  v46 := Try.zeroValue83
  t51 := Try.underlying107
  a51 := Try.isAgg107
  z51 := Try.sizeOf107
  v51 := Try.zeroValue107
  t53 := Try.underlying91
  a53 := Try.isAgg91
  z53 := Try.sizeOf91
  v53 := Try.zeroValue91 }
/-- bits.Len: "Len returns the minimum number of bits required to represent x; the result is 0 for x == 0.": IT RETURNS 'Lib.bitLen x'; the world is as it was. (A uint has 64 bits in the model.) ITS CALLEE bits.Len64 IS MET BY ITS OWN CONTRACT OFF THE SHELF (lay that first). (LAID: no walk: one application.) -/
theorem Try.bits_Len (x : Int) (w : World) (h0 : 0 ≤ x) (h1 : x ≤ 18446744073709551615) :
    Calls Try.prog 48 #[.int .u64 x] w fun e w' => e = .returned (.int .i64 (Lib.bitLen x.toNat)) ∧ w' = w := Any.bits_Len Try.lays125 x w h0 h1
def Try.lays213_ren : Go.Shelf.Ren := ⟨fun | 213 => 49 | 265 => 78 | n => n, fun | 9 => 9 | 3 => 3 | n => n, fun | n => n⟩
theorem Try.lays213 : Go.Proofs.Lays.n213 Try.prog Try.lays213_ren := {
  mixed := by kernel_rfl
  f213 := Try.func49.trans (congrArg some (by kernel_rfl))
  f265 := Try.func78.trans (congrArg some (by kernel_rfl))
  t3 := Try.underlying3
  a3 := Try.isAgg3
  z3 := Try.sizeOf3
  v3 := Try.zeroValue3
  t9 := Try.underlying9
  a9 := Try.isAgg9
  z9 := Try.sizeOf9
  v9 := Try.zeroValue9 }
open Go.RowKit in
/-- internal/bytealg.CompareString (what strings.Compare calls): IT RETURNS 'Lib.compareBytes a b'; the world is as it was. (LAID: no walk: one application.) -/
theorem Try.bytealg_CompareString (a b : ByteArray) (w : World) :
    Calls Try.prog 49 #[.string a, .string b] w fun e w' => e = .returned (.int .i64 (Lib.compareBytes a.data.toList b.data.toList)) ∧ w' = w := Any.bytealg_CompareString Try.lays213 a b w
def Try.lays106_ren : Go.Shelf.Ren := ⟨fun | 106 => 25 | 213 => 49 | 265 => 78 | n => n, fun | 9 => 9 | 3 => 3 | n => n, fun | n => n⟩
theorem Try.lays106 : Go.Proofs.Lays.n106 Try.prog Try.lays106_ren := {
  mixed := by kernel_rfl
  f106 := Try.func25.trans (congrArg some (by kernel_rfl))
  f213 := Try.func49.trans (congrArg some (by kernel_rfl))
  f265 := Try.func78.trans (congrArg some (by kernel_rfl))
  t3 := Try.underlying3
  a3 := Try.isAgg3
  z3 := Try.sizeOf3
  v3 := Try.zeroValue3
  t9 := Try.underlying9
  a9 := Try.isAgg9
  z9 := Try.sizeOf9
  v9 := Try.zeroValue9 }
open Go.RowKit in
/-- strings.Compare: "Compare returns an integer comparing two strings lexicographically. The result will be 0 if a == b, -1 if a < b, and +1 if a > b.": IT RETURNS 'Lib.compareBytes a b'; the world is as it was. (LAID: no walk: one application.) -/
theorem Try.strings_Compare (a b : ByteArray) (w : World) :
    Calls Try.prog 25 #[.string a, .string b] w fun e w' => e = .returned (.int .i64 (Lib.compareBytes a.data.toList b.data.toList)) ∧ w' = w := Any.strings_Compare Try.lays106 a b w
open Go.RowKit in
/-- (*strings.Builder).Len: "Len returns the number of accumulated bytes; b.Len() == len(b.String()).": the world is as it was. (THE FORM '_f': 'Lib.IsBuilderF'.) (LAID: no walk: one application.) -/
theorem Try.Builder_Len_f (B b : Nat) (bs : List Value) (w : World) (h : Lib.IsBuilderF 111 5 B b bs w) :
    Calls Try.prog 99 #[.pointer (some ⟨b, 0, none⟩)] w fun e w' => e = .returned (.int .i64 bs.length) ∧ w' = w := Any.Builder_Len_f Try.lays170 B b bs w h
open Go.RowKit in
/-- (*strings.Builder).String: "String returns the accumulated string.": OF A BUILDER THAT HOLDS AT LEAST ONE BYTE. ✋ THE MODEL FREEZES THOSE BYTES IN THE BUFFER (unsafe.String): a later write INTO them ends the model's run without an answer; a later append BEHIND them goes on. The statement's order of evaluation is drawn: one draw. THE FORM '_f': IT SAYS BESIDES THAT THE BUILDER IS A BUILDER STILL ('Lib.IsBuilderF', the same bytes): SO IT CAN BE WRITTEN ON: 'b.WriteString(b.String()[:k])'. (LAID: no walk: one application.) -/
theorem Try.Builder_String_f (B b : Nat) (l : List UInt8) (w : World) (h : Lib.IsBuilderF 111 5 B b (Lib.byteCells l) w) (h0 : l ≠ []) :
    Calls Try.prog 82 #[.pointer (some ⟨b, 0, none⟩)] w fun e w' => e = .returned (.string ⟨l.toArray⟩) ∧ (Lib.IsBuilderF 111 5 B b (Lib.byteCells l) w' ∧ Below B w w') := Any.Builder_String_f Try.lays169 Try.Builder_Extra_169 B b l w h h0
open Go.RowKit in
/-- (*strings.Builder).String OF A BUILDER THAT HOLDS NO BYTE: the empty string; THE FORM '_f': a builder still. (LAID: no walk: one application.) -/
theorem Try.Builder_String_empty_f (B b : Nat) (w : World) (h : Lib.IsBuilderF 111 5 B b [] w) (hBw : B ≤ w.heap.size) :
    Calls Try.prog 82 #[.pointer (some ⟨b, 0, none⟩)] w fun e w' => e = .returned (.string ⟨#[]⟩) ∧ (Lib.IsBuilderF 111 5 B b [] w' ∧ Below B w w') := Any.Builder_String_empty_f Try.lays169 Try.Builder_Extra_169 B b w h hBw
open Go.RowKit in
/-- (*strings.Builder).String: "String returns the accumulated string.": WHATEVER THE BUILDER HOLDS; THE FORM '_f': OF A BUILDER THAT MAY HAVE BEEN READ BEFORE; AND IT IS A BUILDER STILL, holding the same bytes: it can be written on. (LAID: no walk: one application.) -/
theorem Try.Builder_String_any_f (B b : Nat) (l : List UInt8) (w : World) (h : Lib.IsBuilderF 111 5 B b (Lib.byteCells l) w) (hBw : B ≤ w.heap.size) :
    Calls Try.prog 82 #[.pointer (some ⟨b, 0, none⟩)] w fun e w' => e = .returned (.string ⟨l.toArray⟩) ∧ (Lib.IsBuilderF 111 5 B b (Lib.byteCells l) w' ∧ Below B w w') := Any.Builder_String_any_f Try.lays169 Try.Builder_Extra_169 B b l w h hBw
open Go.RowKit in
/-- (*strings.Builder).String: "String returns the accumulated string.": OF A BUILDER THAT HOLDS AT LEAST ONE BYTE. ✋ THE MODEL FREEZES THOSE BYTES IN THE BUFFER (unsafe.String): a later write INTO them ends the model's run without an answer; a later append BEHIND them goes on. The statement's order of evaluation is drawn: one draw. THE FORM '_k': OVER 'Lib.IsBuilderF' (a builder that 'String()' may have read), AND WITH THE FRAME THAT REACHES ABOVE THE BUILDER: 'Lib.OthersKept': every block that is not b and is no row of uint8's stands as it stood: the iterator of a range among them. (LAID: no walk: one application.) -/
theorem Try.Builder_String_k (B b : Nat) (l : List UInt8) (w : World) (h : Lib.IsBuilderF 111 5 B b (Lib.byteCells l) w) (h0 : l ≠ []) :
    Calls Try.prog 82 #[.pointer (some ⟨b, 0, none⟩)] w fun e w' => e = .returned (.string ⟨l.toArray⟩) ∧ (Lib.IsBuilderF 111 5 B b (Lib.byteCells l) w' ∧ Below B w w' ∧ Lib.OthersKept 5 (some b) w w') := Any.Builder_String_k Try.lays169 Try.Builder_Extra_169 B b l w h h0
open Go.RowKit in
/-- (*strings.Builder).String OF A BUILDER THAT HOLDS NO BYTE: the empty string; THE FORM '_k': OVER 'Lib.IsBuilderF' (a builder that 'String()' may have read), AND WITH THE FRAME THAT REACHES ABOVE THE BUILDER: 'Lib.OthersKept': every block that is not b and is no row of uint8's stands as it stood: the iterator of a range among them. (LAID: no walk: one application.) -/
theorem Try.Builder_String_empty_k (B b : Nat) (w : World) (h : Lib.IsBuilderF 111 5 B b [] w) (hBw : B ≤ w.heap.size) :
    Calls Try.prog 82 #[.pointer (some ⟨b, 0, none⟩)] w fun e w' => e = .returned (.string ⟨#[]⟩) ∧ (Lib.IsBuilderF 111 5 B b [] w' ∧ Below B w w' ∧ Lib.OthersKept 5 (some b) w w') := Any.Builder_String_empty_k Try.lays169 Try.Builder_Extra_169 B b w h hBw
open Go.RowKit in
/-- (*strings.Builder).String: "String returns the accumulated string.": WHATEVER THE BUILDER HOLDS; THE FORM '_k': OVER 'Lib.IsBuilderF' (a builder that 'String()' may have read), AND WITH THE FRAME THAT REACHES ABOVE THE BUILDER: 'Lib.OthersKept': every block that is not b and is no row of uint8's stands as it stood: the iterator of a range among them. (LAID: no walk: one application.) -/
theorem Try.Builder_String_any_k (B b : Nat) (l : List UInt8) (w : World) (h : Lib.IsBuilderF 111 5 B b (Lib.byteCells l) w) (hBw : B ≤ w.heap.size) :
    Calls Try.prog 82 #[.pointer (some ⟨b, 0, none⟩)] w fun e w' => e = .returned (.string ⟨l.toArray⟩) ∧ (Lib.IsBuilderF 111 5 B b (Lib.byteCells l) w' ∧ Below B w w' ∧ Lib.OthersKept 5 (some b) w w') := Any.Builder_String_any_k Try.lays169 Try.Builder_Extra_169 B b l w h hBw
open Go.RowKit in
/-- (*strings.Builder).grow (no doc but "grow copies the buffer to a new, larger buffer so that there are at least n bytes of capacity beyond len(b.buf)."): AT A BUILDER WITHOUT A BUFFER: a new row of whatever bytes for its buffer, none of them its own yet. Three draws. (LAID: no walk: one application.) -/
theorem Try.Builder_grow_fresh_cap (B b n : Nat) (w : World) (hB : B ≤ b) (hbk : w.heap[b]? = some (.cells #[.pointer (some ⟨b, 0, none⟩), .slice none 0 0] 111 (0, 0))) (hBw : B ≤ w.heap.size) (hn : n ≤ 281474976710656) :
    Calls Try.prog 96 #[.pointer (some ⟨b, 0, none⟩), .int .i64 n] w fun e w' => e = .returned (.tuple #[]) ∧ (Lib.BuilderAt 111 5 B b (.pointer (some ⟨b, 0, none⟩)) [] w' ∧ Below B w w') ∧ ∃ p cap, w'.cell? ⟨b, 1, none⟩ = some (.slice p 0 cap) ∧ n ≤ cap := Any.Builder_grow_fresh_cap Try.lays241 Try.Builder_Extra_241 B b n w hB hbk hBw hn
open Go.RowKit in
/-- (*strings.Builder).Grow AT A BUILDER THAT HAS NOT BEEN WRITTEN ('var b strings.Builder; b.Grow(n)'): "Grow grows b's capacity, if necessary, to guarantee space for another n bytes.": it holds no byte behind it as before it. (LAID: no walk: one application.) -/
theorem Try.Builder_Grow_fresh_cap (B b n : Nat) (w : World) (hB : B ≤ b) (hbk : w.heap[b]? = some (.cells #[.pointer none, .slice none 0 0] 111 (0, 0))) (hBw : B ≤ w.heap.size) (hn : n ≤ 281474976710656) :
    Calls Try.prog 79 #[.pointer (some ⟨b, 0, none⟩), .int .i64 n] w fun e w' => e = .returned (.tuple #[]) ∧ (Lib.BuilderAt 111 5 B b (.pointer (some ⟨b, 0, none⟩)) [] w' ∧ Below B w w') ∧ ∃ p cap, w'.cell? ⟨b, 1, none⟩ = some (.slice p 0 cap) ∧ n ≤ cap := Any.Builder_Grow_fresh_cap Try.lays165 Try.Builder_Extra_165 B b n w hB hbk hBw hn
def Try.lays129_ren : Go.Shelf.Ren := ⟨fun | 129 => 77 | n => n, fun | 53 => 91 | 3 => 3 | 4 => 4 | 46 => 83 | 5 => 5 | 9 => 9 | n => n, fun | n => n⟩
theorem Try.lays129 : Go.Proofs.Lays.n129 Try.prog Try.lays129_ren := {
  mixed := by kernel_rfl
  f129 := Try.func77.trans (congrArg some (by kernel_rfl))
  t3 := Try.underlying3
  a3 := Try.isAgg3
  z3 := Try.sizeOf3
  v3 := Try.zeroValue3
  t4 := Try.underlying4
  a4 := Try.isAgg4
  z4 := Try.sizeOf4
  v4 := Try.zeroValue4
  t5 := Try.underlying5
  a5 := Try.isAgg5
  z5 := Try.sizeOf5
  v5 := Try.zeroValue5
  t9 := Try.underlying9
  a9 := Try.isAgg9
  z9 := Try.sizeOf9
  v9 := Try.zeroValue9
  t46 := Try.underlying83
  a46 := Try.isAgg83
  z46 := Try.sizeOf83
  v46 := Try.zeroValue83
  t53 := Try.underlying91
  a53 := Try.isAgg91
  z53 := Try.sizeOf91
  v53 := Try.zeroValue91 }
/-- bits.Len64: "Len64 returns the minimum number of bits required to represent x; the result is 0 for x == 0.": IT RETURNS 'Lib.bitLen x'; the world is as it was. ('h0', 'h1': x is a uint64.) (LAID: no walk: one application.) -/
theorem Try.bits_Len64 (x : Int) (w : World) (h0 : 0 ≤ x) (h1 : x ≤ 18446744073709551615) :
    Calls Try.prog 77 #[.int .u64 x] w fun e w' => e = .returned (.int .i64 (Lib.bitLen x.toNat)) ∧ w' = w := Any.bits_Len64 Try.lays129 x w h0 h1
def Try.lays206_ren : Go.Shelf.Ren := ⟨fun | 206 => 106 | n => n, fun | 9 => 9 | 4 => 4 | 3 => 3 | n => n, fun | n => n⟩
theorem Try.lays206 : Go.Proofs.Lays.n206 Try.prog Try.lays206_ren := {
  mixed := by kernel_rfl
  f206 := Try.func106.trans (congrArg some (by kernel_rfl))
  t3 := Try.underlying3
  a3 := Try.isAgg3
  z3 := Try.sizeOf3
  v3 := Try.zeroValue3
  t4 := Try.underlying4
  a4 := Try.isAgg4
  z4 := Try.sizeOf4
  v4 := Try.zeroValue4
  t9 := Try.underlying9
  a9 := Try.isAgg9
  z9 := Try.sizeOf9
  v9 := Try.zeroValue9 }
open Go.RowKit Go.Lib in
/-- internal/stringslite.HasPrefix (what strings.HasPrefix calls). (LAID: no walk: one application.) -/
theorem Try.stringslite_HasPrefix (s p : ByteArray) (w : World) :
    Calls Try.prog 106 #[.string s, .string p] w fun e w' => e = .returned (.bool (Lib.hasPrefix s.data.toList p.data.toList)) ∧ w' = w := Any.stringslite_HasPrefix Try.lays206 s p w
def Try.lays99_ren : Go.Shelf.Ren := ⟨fun | 99 => 98 | 206 => 106 | n => n, fun | 9 => 9 | 4 => 4 | 3 => 3 | n => n, fun | n => n⟩
theorem Try.lays99 : Go.Proofs.Lays.n99 Try.prog Try.lays99_ren := {
  mixed := by kernel_rfl
  f99 := Try.func98.trans (congrArg some (by kernel_rfl))
  f206 := Try.func106.trans (congrArg some (by kernel_rfl))
  t3 := Try.underlying3
  a3 := Try.isAgg3
  z3 := Try.sizeOf3
  v3 := Try.zeroValue3
  t4 := Try.underlying4
  a4 := Try.isAgg4
  z4 := Try.sizeOf4
  v4 := Try.zeroValue4
  t9 := Try.underlying9
  a9 := Try.isAgg9
  z9 := Try.sizeOf9
  v9 := Try.zeroValue9 }
open Go.RowKit Go.Lib in
/-- strings.HasPrefix: "HasPrefix reports whether the string s begins with prefix.": IT RETURNS 'Lib.hasPrefix s prefix'; the world is as it was. (LAID: no walk: one application.) -/
theorem Try.strings_HasPrefix (s p : ByteArray) (w : World) :
    Calls Try.prog 98 #[.string s, .string p] w fun e w' => e = .returned (.bool (Lib.hasPrefix s.data.toList p.data.toList)) ∧ w' = w := Any.strings_HasPrefix Try.lays99 s p w
def Try.lays264_ren : Go.Shelf.Ren := ⟨fun | 264 => 105 | n => n, fun | 53 => 91 | 46 => 83 | n => n, fun | n => n⟩
theorem Try.lays264 : Go.Proofs.Lays.n264 Try.prog Try.lays264_ren := {
  mixed := by kernel_rfl
  f264 := Try.func105.trans (congrArg some (by kernel_rfl))
  t46 := Try.underlying83
  a46 := Try.isAgg83
  z46 := Try.sizeOf83
  v46 := Try.zeroValue83
  t53 := Try.underlying91
  a53 := Try.isAgg91
  z53 := Try.sizeOf91
  v53 := Try.zeroValue91 }
open Go.RowKit Go.Lib in
theorem Try.bits_Mul64 (x y : Nat) (hx : x < 18446744073709551616) (hy : y < 18446744073709551616) (w : World) :
    Calls Try.prog 105 #[.int .u64 x, .int .u64 y] w fun e w' => e = .returned (.tuple #[.int .u64 ((x * y / 18446744073709551616 : Nat) : Int), .int .u64 ((x * y % 18446744073709551616 : Nat) : Int)]) ∧ w' = w := Any.bits_Mul64 Try.lays264 x y hx hy w
def Try.lays212_ren : Go.Shelf.Ren := ⟨fun | 212 => 97 | 263 => 104 | 264 => 105 | n => n, fun | 46 => 83 | 51 => 107 | 146 => 148 | 53 => 91 | 148 => 150 | n => n, fun | n => n⟩
theorem Try.lays212 : Go.Proofs.Lays.n212 Try.prog Try.lays212_ren := {
  mixed := by kernel_rfl
  f212 := Try.func97.trans (congrArg some (by kernel_rfl))
  f263 := Try.func104.trans (congrArg some (by kernel_rfl))
  f264 := Try.func105.trans (congrArg some (by kernel_rfl))
  t46 := Try.underlying83
  a46 := Try.isAgg83
  z46 := Try.sizeOf83
  v46 := Try.zeroValue83
  t51 := Try.underlying107
  a51 := Try.isAgg107
  z51 := Try.sizeOf107
  v51 := Try.zeroValue107
  t53 := Try.underlying91
  a53 := Try.isAgg91
  z53 := Try.sizeOf91
  v53 := Try.zeroValue91
  t146 := Try.underlying148
  a146 := Try.isAgg148
  z146 := Try.sizeOf148
  v146 := Try.zeroValue148
  t148 := Try.underlying150
  a148 := Try.isAgg150
  z148 := Try.sizeOf150
  v148 := Try.zeroValue150 }
open Go.RowKit Go.Lib in
/-- math/bits.Mul: "Mul returns the full-width product of x and y": on a machine of 64 bits: Mul64's. (LAID: no walk: one application.) -/
theorem Try.bits_Mul (x y : Nat) (hx : x < 18446744073709551616) (hy : y < 18446744073709551616) (w : World) :
    Calls Try.prog 97 #[.int .u64 x, .int .u64 y] w fun e w' => e = .returned (.tuple #[.int .u64 ((x * y / 18446744073709551616 : Nat) : Int), .int .u64 ((x * y % 18446744073709551616 : Nat) : Int)]) ∧ w' = w := Any.bits_Mul Try.lays212 x y hx hy w
def Try.lays105_ren : Go.Shelf.Ren := ⟨fun | 105 => 84 | 212 => 97 | 99 => 98 | 165 => 79 | 166 => 81 | 170 => 99 | 169 => 82 | 263 => 104 | 264 => 105 | 206 => 106 | 240 => 95 | 241 => 96 | 276 => 102 | 277 => 103 | n => n, fun | 9 => 9 | 3 => 3 | 4 => 4 | 20 => 20 | 0 => 0 | 46 => 83 | 109 => 137 | 5 => 5 | 72 => 111 | 76 => 116 | 51 => 107 | 146 => 148 | 53 => 91 | 148 => 150 | 70 => 109 | 37 => 22 | 75 => 114 | 127 => 135 | 164 => 145 | 80 => 87 | n => n, fun | n => n⟩
theorem Try.lays105 : Go.Proofs.Lays.n105 Try.prog Try.lays105_ren := {
  mixed := by kernel_rfl
  f99 := Try.func98.trans (congrArg some (by kernel_rfl))
  f105 := Try.func84.trans (congrArg some (by kernel_rfl))
  f165 := Try.func79.trans (congrArg some (by kernel_rfl))
  f166 := Try.func81.trans (congrArg some (by kernel_rfl))
  f169 := Try.func82.trans (congrArg some (by kernel_rfl))
  f170 := Try.func99.trans (congrArg some (by kernel_rfl))
  f206 := Try.func106.trans (congrArg some (by kernel_rfl))
  f212 := Try.func97.trans (congrArg some (by kernel_rfl))
  f240 := Try.func95.trans (congrArg some (by kernel_rfl))
  f241 := Try.func96.trans (congrArg some (by kernel_rfl))
  f263 := Try.func104.trans (congrArg some (by kernel_rfl))
  f264 := Try.func105.trans (congrArg some (by kernel_rfl))
  f276 := Try.func102.trans (congrArg some (by kernel_rfl))
  f277 := Try.func103.trans (congrArg some (by kernel_rfl))
  t0 := Try.underlying0
  a0 := Try.isAgg0
  z0 := Try.sizeOf0
  v0 := Try.zeroValue0
  t3 := Try.underlying3
  a3 := Try.isAgg3
  z3 := Try.sizeOf3
  v3 := Try.zeroValue3
  t4 := Try.underlying4
  a4 := Try.isAgg4
  z4 := Try.sizeOf4
  v4 := Try.zeroValue4
  t5 := Try.underlying5
  a5 := Try.isAgg5
  z5 := Try.sizeOf5
  v5 := Try.zeroValue5
  t9 := Try.underlying9
  a9 := Try.isAgg9
  z9 := Try.sizeOf9
  v9 := Try.zeroValue9
  t20 := Try.underlying20
  a20 := Try.isAgg20
  z20 := Try.sizeOf20
  v20 := Try.zeroValue20
  t37 := Try.underlying22
  a37 := Try.isAgg22
  z37 := Try.sizeOf22
  v37 := Try.zeroValue22
  t46 := Try.underlying83
  a46 := Try.isAgg83
  z46 := Try.sizeOf83
  v46 := Try.zeroValue83
  t51 := Try.underlying107
  a51 := Try.isAgg107
  z51 := Try.sizeOf107
  v51 := Try.zeroValue107
  t53 := Try.underlying91
  a53 := Try.isAgg91
  z53 := Try.sizeOf91
  v53 := Try.zeroValue91
  t70 := Try.underlying109
  a70 := Try.isAgg109
  z70 := Try.sizeOf109
  v70 := Try.zeroValue109
  t72 := Try.underlying111
  a72 := Try.isAgg111
  z72 := Try.sizeOf111
  v72 := Try.zeroValue111
  t75 := Try.underlying114
  a75 := Try.isAgg114
  z75 := Try.sizeOf114
  v75 := Try.zeroValue114
  t76 := Try.underlying116
  a76 := Try.isAgg116
  z76 := Try.sizeOf116
  v76 := Try.zeroValue116
  t109 := Try.underlying137
  a109 := Try.isAgg137
  z109 := Try.sizeOf137
  v109 := Try.zeroValue137
  t127 := Try.underlying135
  a127 := Try.isAgg135
  z127 := Try.sizeOf135
  v127 := Try.zeroValue135
  t146 := Try.underlying148
  a146 := Try.isAgg148
  z146 := Try.sizeOf148
  v146 := Try.zeroValue148
  t148 := Try.underlying150
  a148 := Try.isAgg150
  z148 := Try.sizeOf150
  v148 := Try.zeroValue150
  t164 := Try.underlying145
  a164 := Try.isAgg145
  z164 := Try.sizeOf145
  v164 := Try.zeroValue145 }
theorem Try.Builder_Extra_105 : Builder.Extra Try.prog Try.lays105_ren := {
  sizeBuilder := by kernel_rfl
  liesBuilder := by kernel_rfl
  t5 := Try.underlying5
  a5 := Try.isAgg5
  z5 := Try.sizeOf5
  v5 := Try.zeroValue5
  infoByte := by kernel_rfl
  cellsByte := by kernel_rfl
  sizeByte := by kernel_rfl
  neB5 := by decide }
open Go.RowKit Go.Lib in
/-- THE MAIN CASE: at least two copies of a string that is not empty. (LAID: no walk: one application.) -/
theorem Try.strings_Repeat_main (s : ByteArray) (c : Nat) (w : World) (hc2 : 2 ≤ c) (hc : c ≤ 9223372036854775807) (hlen : s.size * c ≤ 140737488355328) (h0 : 0 < s.size) :
    Calls Try.prog 84 #[.string s, .int .i64 c] w fun e w' => e = .returned (.string ⟨(Lib.repeatL s.data.toList c).toArray⟩) ∧ Below w.heap.size w w' := Any.strings_Repeat_main Try.lays105 Try.Builder_Extra_105 s c w hc2 hc hlen h0
open Go.RowKit Go.Lib in
theorem Try.strings_Repeat_zero (s : ByteArray) (w : World) :
    Calls Try.prog 84 #[.string s, .int .i64 0] w fun e w' => e = .returned (.string ⟨#[]⟩) ∧ w' = w := Any.strings_Repeat_zero Try.lays105 s w
open Go.RowKit Go.Lib in
theorem Try.strings_Repeat_one (s : ByteArray) (w : World) :
    Calls Try.prog 84 #[.string s, .int .i64 1] w fun e w' => e = .returned (.string s) ∧ w' = w := Any.strings_Repeat_one Try.lays105 s w
open Go.RowKit Go.Lib in
/-- Copies of the empty string. (LAID: no walk: one application.) -/
theorem Try.strings_Repeat_empty (s : ByteArray) (c : Nat) (w : World) (hc2 : 2 ≤ c) (hc : c ≤ 9223372036854775807) (h0 : s.size = 0) :
    Calls Try.prog 84 #[.string s, .int .i64 c] w fun e w' => e = .returned (.string ⟨#[]⟩) ∧ w' = w := Any.strings_Repeat_empty Try.lays105 s c w hc2 hc h0
open Go.RowKit Go.Lib in
/-- count < 0: "It panics if count is negative". (LAID: no walk: one application.) -/
theorem Try.strings_Repeat_negative (s : ByteArray) (c : Int) (w : World) (hc : c < 0) :
    Calls Try.prog 84 #[.string s, .int .i64 c] w fun e w' => e = .panicked [{ v := repeatPanic Try.lays105_ren "strings: negative Repeat count", recovered := false }] ∧ w' = w := Any.strings_Repeat_negative Try.lays105 s c w hc
open Go.RowKit Go.Lib in
/-- len(s) * count is no int: ".. or if the result of (len(s) * count) overflows". (LAID: no walk: one application.) -/
theorem Try.strings_Repeat_overflow (s : ByteArray) (c : Nat) (w : World) (hc : c ≤ 9223372036854775807) (hs : s.size ≤ 9223372036854775807) (hbig : 9223372036854775807 < s.size * c) :
    Calls Try.prog 84 #[.string s, .int .i64 c] w fun e w' => e = .panicked [{ v := repeatPanic Try.lays105_ren "strings: Repeat output length overflow", recovered := false }] ∧ w' = w := Any.strings_Repeat_overflow Try.lays105 s c w hc hs hbig
open Go.RowKit Go.Lib in
/-- **strings.Repeat: count ≥ 0, the result within one allocation: count copies of s.** (LAID: no walk: one application.) -/
theorem Try.strings_Repeat (s : ByteArray) (c : Nat) (w : World) (hc : c ≤ 9223372036854775807) (hlen : s.size * c ≤ 140737488355328) :
    Calls Try.prog 84 #[.string s, .int .i64 c] w fun e w' => e = .returned (.string ⟨(Lib.repeatL s.data.toList c).toArray⟩) ∧ Below w.heap.size w w' := Any.strings_Repeat Try.lays105 Try.Builder_Extra_105 s c w hc hlen
end Go.Proofs
/- The walks of package geom: zeros, first. -/
namespace Go.Proofs.Ytmcoepkopfcbdaa
open Go.RowKit

theorem repeat_zero (n : Nat) : Lib.repeatL [0] n = List.replicate n (0 : UInt8) := by
  induction n with
  | zero => rfl
  | succ n ih => simp [Lib.repeatL, List.replicate_succ] at *; try exact ih
theorem repeat_any (c : Nat) (w : World) (hc : c ≤ 1000) :
    Calls Try.prog 84 #[.string ⟨#[0]⟩, .int .i64 c] w fun e w' => e = .returned (.string (str (List.replicate c 0))) ∧ Ext w w' := by
  have h := Try.strings_Repeat ⟨#[0]⟩ c w (by omega) (by show 1 * c ≤ _; omega)
  rw [show (⟨#[0]⟩ : ByteArray).data.toList = [0] from rfl, repeat_zero] at h
  exact h
/-- so many zeros: not to be written out -/
def zs (n : Nat) : List UInt8 := List.replicate n 0
theorem zs_len (n : Nat) : (zs n).length = n := by simp [zs]
theorem zeros_any (w : World) :
    Calls Try.prog 54 #[] w fun e w' => e = .returned (.string (str (zs 128))) ∧ Ext w w' := by
  go_enter Try.func54, Try.ntmps54
  go_wp2_with fail
  refine (repeat_any 128 _ (by omega)).mono ?_
  rintro e w1 ⟨rfl, hg1⟩
  rw [show List.replicate 128 (0 : UInt8) = zs 128 from rfl]
  go_wp2_with fail
  go_ret
  exact ⟨rfl, hg1⟩
/-- the block 0 of a volume of B blocks and I inodes -/
def headL (B I : Int) : List UInt8 := [104, 105, 98, 49, b8 (B % 256), b8 (B / 256), b8 (I % 256), b8 (I / 256)] ++ zs 120
theorem headL_len (B I : Int) : (headL B I).length = 128 := by simp [headL, zs_len]
set_option maxHeartbeats 400000 in
theorem first_any (B I : Int) (w : World) (h : planB B I = true) :
    Calls Try.prog 66 #[geomV B I] w fun e w' => e = .returned (.string (str (headL B I))) ∧ Ext w w' := by
  have hp : 16 ≤ B ∧ B ≤ 223 ∧ 4 ≤ I ∧ I ≤ 64 ∧ 3 + (I + 1) / 2 < B := by simpa [planB] using h
  clear h
  unfold geomV
  have hz := str_size
  have hap := str_app
  have hk : (⟨#[104, 105, 98, 49]⟩ : ByteArray) = str [104, 105, 98, 49] := rfl
  go_enter Try.func66, Try.ntmps66
  go_wp2_with fail
  generalize hw1 : w.alloc _ = w1
  have hg1 : Ext w w1 := by rw [← hw1]; exact (Ext.refl _).alloc _
  have c0 : ∀ x : Later w1, x.now.cell? ⟨w.heap.size, 0, none⟩ = some (.int .i64 B) := fun x => x.ext.keep (by rw [← hw1]; simp [go_sem])
  have c1 : ∀ x : Later w1, x.now.cell? ⟨w.heap.size, 1, none⟩ = some (.int .i64 I) := fun x => x.ext.keep (by rw [← hw1]; simp [go_sem])
  clear hw1
  refine wp_region_later (by kernel_rfl) (by kernel_rfl) ?_
  repeat (go_big_quiet_step ((exact later_of (put2 _ _ (by omega) (by omega)))))
  refine wpQuiet_nil ?_
  rintro w2 ⟨x, rfl⟩
  have hg2 := hg1.trans x.ext
  clear c0 c1
  go_wp2_with fail
  refine (repeat_any 120 _ (by omega)).mono ?_
  rintro e w3 ⟨rfl, hg3⟩
  rw [show List.replicate 120 (0 : UInt8) = zs 120 from rfl]
  have hzl := zs_len
  go_wp2_with fail
  go_ret
  exact ⟨rfl, hg2.trans hg3⟩
end Go.Proofs.Ytmcoepkopfcbdaa
/- A region that draws its order, whose first n operations are quiet in a class of worlds and whose last ones come in one order: one walk in the order of the text serves. (The library has this for one world and, without a tail, for a class of worlds; this joins the two.) -/
namespace Go.Proofs.Ytmcoepkopfcbdaa
open Go.RowKit

section
variable {P : Program} {ops : Array Oper} {md : Region.Mode} {C : World → Prop}

/-- whatever order the first n operations come in, each quiet in the class; behind them L -/
def headQ (P : Program) (md : Region.Mode) (ops : Array Oper) (C : World → Prop) (n : Nat) (L : Array Bool → Act → Prop) : Nat → Array Bool → Act → Prop
  | 0, s, a => L s a
  | f + 1, s, a => Region.ready md ops s ≠ [] ∧ ∀ i ∈ Region.ready md ops s, i < n ∧ qOp P ops C i (headQ P md ops C n L f (s.setIfInBounds i true)) a

theorem any_of_headQ {n g : Nat} {L : Array Bool → Act → Prop} {Q : Exit → Act → World → Prop} (hL : ∀ s a w, C w → L s a → wpAny P md ops Q g s a w) :
    ∀ (f : Nat) (s : Array Bool) (a : Act) (w : World), C w → headQ P md ops C n L f s a → wpAny P md ops Q (f + g) s a w := by
  intro f
  induction f with
  | zero => intro s a w hw h; rw [Nat.zero_add]; exact hL s a w hw h
  | succ f ih =>
    intro s a w hw h
    rw [show f + 1 + g = (f + g) + 1 by omega]
    exact ⟨fun h0 => absurd h0 h.1, fun i hi => wpOp_of_qOp hw (fun a' w' hw' h' => ih _ a' w' hw' h') (h.2 i hi).2⟩

theorem headQ_first {n i : Nat} {oi : Oper} {v : Value} {L : Array Bool → Act → Prop} (hi : ops[i]? = some oi) (hsel : ∀ (j : Nat) (o : Oper) cs b, ops[j]? = some o → o.op ≠ .select cs b)
    (hs : Region.sinkB md ops n = true) (hc : Region.chainB md ops n = true) (hn : n < ops.size) (hin : i < n)
    (hdone : ∀ s a, L s a → ∀ j ∈ Region.ready md ops s, n ≤ j) :
    ∀ (f : Nat) (s : Array Bool) (a : Act), HeadInv md ops n s →
      (∀ j oj, ops[j]? = some oj → j ≠ i → s.getD j true = false → (∀ e ∈ oj.after, Region.binds md e = true → e.on ≠ i) → oi.apart ops oj = true) →
      i ∈ Region.ready md ops s → YieldsIn P ops C oi v a →
      headQ P md ops C n L f (s.setIfInBounds i true) (a.put oi.dst v) → headQ P md ops C n L (f + 1) s a := by
  intro f
  induction f with
  | zero =>
    intro s a inv _ hr hy H
    have hun := (mem_ready.1 hr).1
    refine ⟨List.ne_nil_of_mem hr, fun j hj => ?_⟩
    have hjn : j < n := Nat.lt_of_not_le fun h => absurd hj (tail_waits hs hc hn inv _ i rfl hin hun j h)
    refine ⟨hjn, ?_⟩
    by_cases hji : j = i
    · subst hji; exact hy.qOp hi H
    · have := hdone _ _ H j (ready_mono hj hji)
      omega
  | succ f ih =>
    intro s a inv hfree hr hy H
    have hun := (mem_ready.1 hr).1
    refine ⟨List.ne_nil_of_mem hr, fun j hj => ?_⟩
    have hjn : j < n := Nat.lt_of_not_le fun h => absurd hj (tail_waits hs hc hn inv _ i rfl hin hun j h)
    refine ⟨hjn, ?_⟩
    by_cases hji : j = i
    · subst hji; exact hy.qOp hi H
    · obtain ⟨hjun, oj, hoj, hall⟩ := mem_ready.1 hj
      have hnot : ∀ e ∈ oj.after, Region.binds md e = true → e.on ≠ i := fun e he hb heq => by
        have h1 := hall e he hb
        rw [heq, getD_both hun] at h1
        cases h1
      have h2 := qOp_put hoj (hfree j oj hoj hji hjun hnot) (fun cs b => hsel i oi cs b hi) (fun cs b => hsel j oj cs b hoj) hy (H.2 j (ready_mono hj hji)).2
      refine qOp_mono (fun a' h3 => ih (s.setIfInBounds j true) a' (inv.set hj hjn) (fun k ok hk hki hu hno => hfree k ok hk hki ?_ hno) (ready_mono hr (Ne.symm hji)) h3.1 ?_) h2
      · by_cases hjk : j = k
        · subst hjk; exact hjun
        · rw [getD_set_ne true hjk] at hu; exact hu
      · rw [Array.setIfInBounds_comm _ _ hji]; exact h3.2

theorem headQ_lex {n g : Nat} {Lq : Act → Prop} (hsel : Region.noSelect ops = true) (hs : Region.sinkB md ops n = true) (hc : Region.chainB md ops n = true) (hn : n < ops.size) :
    ∀ (l : List Oper) (k : Nat) (s : Array Bool) (a : Act), (∀ j, j < l.length → l[j]? = ops[k + j]?) → k + l.length = n → HeadInv md ops n s →
    Region.lexHead md ops g l.length k s = true → wpQuiet P ops C Lq l a →
    headQ P md ops C n (fun s' a' => Region.seqB md ops g n s' = true ∧ Lq a') l.length s a := by
  intro l
  induction l with
  | nil =>
    intro k s a _ hk _ hB h
    obtain rfl : k = n := by simpa using hk
    exact ⟨by simpa [Region.lexHead] using hB, h⟩
  | cons o l ih =>
    intro k s a hl hk inv hB h
    have h0 : ops[k]? = some o := by simpa using (hl 0 (by simp)).symm
    simp only [List.length_cons, Region.lexHead, Bool.and_eq_true] at hB
    obtain ⟨⟨hr, hf⟩, hB'⟩ := hB
    have hkn : k < n := by simp only [List.length_cons] at hk; omega
    have hr' : k ∈ Region.ready md ops s := by simpa using hr
    have hst : qOp P ops C k (wpQuiet P ops C Lq l) a := by unfold qOp; simp only [h0]; exact h
    obtain ⟨v, hy, hK⟩ := yieldsIn_of_qOp h0 hst
    exact headQ_first h0 (Region.noSelect_spec hsel) hs hc hn hkn (fun s' a' hL => seqB_ready hL.1) l.length s a inv (Region.free_spec h0 hf) hr' hy
      (ih (k + 1) _ _ (fun j hj => by have := hl (j + 1) (by simp; omega); simpa [Nat.add_assoc, Nat.add_comm 1 j] using this) (by simp only [List.length_cons] at hk; omega) (inv.set hr' hkn) hB' hK)

theorem any_quiet_tail {Q : Exit → Act → World → Prop} {a : Act} {w : World} {l : List Oper} (n : Nat) (hB : Region.lexTailB .any l.toArray n = true)
    (hC : C { w with drawn := w.drawn + 1 }) (h : wpQuiet P l.toArray C (fun a' => ∀ w', C w' → wpList P l.toArray Q (l.drop n) a' w') (l.take n) a) :
    wpAny P .any l.toArray Q l.toArray.size (Array.replicate l.toArray.size false) a { w with drawn := w.drawn + 1 } := by
  simp only [Region.lexTailB, Bool.and_eq_true, decide_eq_true_eq] at hB
  obtain ⟨⟨⟨⟨hsel, hn⟩, hs⟩, hc⟩, hlex⟩ := hB
  have hn' : n < l.length := by simpa using hn
  have htl : (l.take n).length = n := by simp; omega
  have hdl : (l.drop n).length = l.toArray.size - n := by simp
  have inv0 : HeadInv .any l.toArray n (Array.replicate l.toArray.size false) :=
    ⟨by simp, fun j oj _ hl => (by rw [getD_replicate_false] at hl; cases hl), fun t _ ht => getD_in (by simpa using ht) (getD_replicate_false _ _)⟩
  have H := headQ_lex (md := .any) (g := l.toArray.size - n) hsel hs hc hn (l.take n) 0 _ a (fun j hj => by
    have hj' : j < n := by rw [htl] at hj; exact hj
    simp [hj']) (by simpa using htl) inv0 (by rw [htl]; exact hlex) h
  have key := any_of_headQ (Q := Q) (g := l.toArray.size - n) (fun s a' w' hw' hL => by
    have := wpAny_of_seq (md := .any) (Q' := Q) (l.drop n) n s a' w' (fun j => by simp [List.getElem?_drop]) (by rw [hdl]; exact hL.1) (hL.2 w' hw')
    rwa [hdl] at this) _ _ _ _ hC H
  rw [htl, show n + (l.toArray.size - n) = l.toArray.size by omega] at key
  exact key
theorem wp_region_quiet_tail {id : Nat} {Q : Exit → Act → World → Prop} {a : Act} {w : World} {l : List Oper} (n : Nat) (hm : P.follows .mixedOrders = true) (hB : Region.lexTailB .any l.toArray n = true)
    (hC : C { w with drawn := w.drawn + 1 }) (h : wpQuiet P l.toArray C (fun a' => ∀ w', C w' → wpList P l.toArray Q (l.drop n) a' w') (l.take n) a) : (Code.region id l.toArray true).wp P Q a w :=
  wp_region_any hm (any_quiet_tail n hB hC h)
end

/-- the same at the class of the worlds that have grown out of w -/
theorem wp_region_later_tail {P : Program} {id : Nat} {Q : Exit → Act → World → Prop} {a : Act} {w : World} {l : List Oper} (n : Nat) (hm : P.follows .mixedOrders = true) (hB : Region.lexTailB .any l.toArray n = true)
    (h : wpQuiet P l.toArray (fun w' => ∃ x : Later w, w' = x.now) (fun a' => ∀ w', (∃ x : Later w, w' = x.now) → wpList P l.toArray Q (l.drop n) a' w') (l.take n) a) : (Code.region id l.toArray true).wp P Q a w :=
  wp_region_quiet_tail n hm hB ⟨⟨_, (Ext.refl w).drew⟩, rfl⟩ h
end Go.Proofs.Ytmcoepkopfcbdaa
