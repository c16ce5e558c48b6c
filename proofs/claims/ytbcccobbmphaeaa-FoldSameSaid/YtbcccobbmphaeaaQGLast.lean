/- fold.Last: the last record of a key, from the end; slices.Backward over records. For every row of records. -/
import Derived.Test.YtbcccobbmphaeaaQ0
import Derived.RangeFuncNested
import Derived.RangeFuncBound
import Derived.RangeFuncCalls
import Derived.RangeFuncLeaves
import Derived.Shelf.Abstract
import Derived.Shelf.RegionOpen
import Derived.OwnWalkIn
import Derived.TacticsInMore
import Derived.LoopNIn
import Derived.LoopIn
namespace Go.Proofs.Ytbcccobbmphaeaa.Q
open Go.RowKit Go.Proofs.YtbcccobbmphaeaaW.PrintWords Go.Proofs.YtbcccobbmphaeaaW.PrintLast Go.Proofs.YtbcccobbmphaeaaW.PrintMore
set_option linter.unusedVariables false
set_option linter.unusedSimpArgs false
open Go.Shelf
attribute [local go_sem] Oper.semAt_some

/-- A whole block of cells. -/
def Blk (W : World) (B : Nat) (cs : Array Value) (t : TypeId) : Prop := W.heap[B]? = some (.cells cs t (0, 0))
theorem Blk.lt {W : World} {B : Nat} {cs : Array Value} {t : TypeId} (h : Blk W B cs t) : B < W.heap.size := (Array.getElem?_eq_some_iff.1 h).1
theorem Blk.cell {W : World} {B : Nat} {cs : Array Value} {t : TypeId} (h : Blk W B cs t) (j : Nat) : W.cell? ⟨B, j, none⟩ = cs[j]? := by simp [World.cell?, show W.heap[B]? = _ from h]
theorem Blk.frozen {W : World} {B : Nat} {cs : Array Value} {t : TypeId} (h : Blk W B cs t) (j : Nat) : W.frozen? ⟨B, j, none⟩ = false := by simp [World.frozen?, show W.heap[B]? = _ from h]
theorem Blk.new (W : World) (cs : Array Value) (t : TypeId) : Blk (W.alloc (.cells cs t)) W.heap.size cs t := World.alloc_heap_new W _
theorem Blk.kept {W W' : World} {row : Option Nat} {B : Nat} {cs : Array Value} {t : TypeId} (h : Blk W B cs t) (hg : W.grownBy W' row) (hne : some B ≠ row) : Blk W' B cs t := (hg.block B h.lt hne).trans h
theorem Blk.alloc {W : World} {B : Nat} {cs : Array Value} {t : TypeId} (h : Blk W B cs t) (o : Obj) : Blk (W.alloc o) B cs t := h.kept (World.grownBy_alloc W o none) (by simp)
theorem Blk.set {W : World} {B : Nat} {cs : Array Value} {t : TypeId} (h : Blk W B cs t) (j : Nat) (v : Value) : Blk (W.setCell ⟨B, j, none⟩ v) B (cs.setIfInBounds j v) t := by
  obtain ⟨hlt, hk⟩ := Array.getElem?_eq_some_iff.1 h
  show (W.heap.modify B _)[B]? = _
  rw [Array.getElem?_modify, if_pos rfl, show W.heap[B]? = _ from h]
  rfl
theorem Blk.other {W : World} {B : Nat} {cs : Array Value} {t : TypeId} (h : Blk W B cs t) (p : Addr) (hne : B ≠ p.block) (v : Value) : Blk (W.setCell p v) B cs t := by
  show (W.setCell p v).heap[B]? = _
  rw [Below.heap_setCell W p v B hne]
  exact h
theorem blk_own {β : Type} (B : Nat) (t : TypeId) (f : β → Array Value) : Own (fun s W => Blk W B (f s) t) := fun s X Y row hs hg hrow =>
  hs.kept hg (fun e' => by obtain ⟨o, ho, hc⟩ := hrow B e'.symm; rw [show X.heap[B]? = _ from hs] at ho; cases ho; cases hc)

def recCells (x : S25) : Array Value := #[.bool x.f0, .int .u64 x.f1, .string x.f2, .string x.f3]
/-- What slices.Backward hands over: the index, the record. -/
def backs (l : List S25) (k : Nat) : List (Int × S25) := (List.range k).map fun j : Nat => (((l.length : Int) - 1 - (j : Int)), rd_T25 l ((l.length : Int) - 1 - (j : Int)))
theorem backs_succ (l : List S25) (k : Nat) : backs l (k + 1) = backs l k ++ [(((l.length : Int) - 1 - k), rd_T25 l ((l.length : Int) - 1 - k))] := by simp [backs, List.range_succ]
theorem backs_length (l : List S25) (k : Nat) : (backs l k).length = k := by simp [backs]
theorem backs_prefix (l : List S25) {k : Nat} (h : k ≤ l.length) : backs l k <+: backs l l.length := by
  refine ⟨(List.range (l.length - k)).map (fun j : Nat => (((l.length : Int) - 1 - ((k + j : Nat) : Int)), rd_T25 l ((l.length : Int) - 1 - ((k + j : Nat) : Int)))), ?_⟩
  unfold backs
  have := @List.range_add k (l.length - k)
  rw [show k + (l.length - k) = l.length by omega] at this
  rw [this, List.map_append, List.map_map]
  rfl

set_option maxRecDepth 100000 in
set_option maxHeartbeats 2000000 in
theorem backward1_in (F : Fence) (n : Nat) (hf : F.fn 69) (hro : F.round = none) (hn : 1 ≤ n) (l Bs n₀ : Nat) (A0 : Option Addr) (c0 : Nat) (xs : List S25) (w0 : World) (hC : Kd.C k25 w0 A0 xs.length xs) (hn0 : n₀ = w0.heap.size) (J Jx : List (Int × S25) → World → Prop)
    (hY : ∀ pre x W, J pre W → pre.length < xs.length → YieldAt F (n - 1) Try.prog l #[.int .i64 x.1, .agg (recCells x.2)] W fun e W' =>
      (e = .returned (.bool true) ∧ J (pre ++ [x]) W' ∧ Below n₀ W W') ∨ (e = .returned (.bool false) ∧ Jx (pre ++ [x]) W'))
    (W : World) (hBs0 : w0.cell? ⟨Bs, 0, none⟩ = some (.slice A0 xs.length c0)) (hw : Below n₀ w0 W) (h0 : J [] W) :
    CallsIn F n Try.prog 69 #[.func (.yield l) #[] #[], .pointer (some ⟨Bs, 0, none⟩)] W fun e W' => (∃ v, e = .returned v) ∧
      ((∃ ys, ys = backs xs xs.length ∧ J ys W') ∨ (∃ pre, pre <+: backs xs xs.length ∧ Jx pre W')) := by
  have hu := Try.underlying25
  have hlen := hC.2.1
  have hBs : W.cell? ⟨Bs, 0, none⟩ = some (.slice A0 xs.length c0) := (hw.cell (by have := World.block_lt_of_cell? w0 _ hBs0; omega)).trans hBs0
  refine callsIn_of_wp Try.func69 rfl hf ?_ hro
  simp only [Try.ntmps69, List.size_toArray, List.length_cons, List.length_nil, Nat.reduceAdd, Nat.reduceSub, Array.replicate_succ, Array.replicate_zero, List.push_toArray, List.append_toArray, List.nil_append, List.cons_append]
  gi_wp2
  gi_loopw [3] (fun i wr => ∃ (k : Nat) (iv : Int), k ≤ xs.length ∧ i = .int .i64 iv ∧ Aside0 (iv = (xs.length : Int) - 1 - k) ∧ J (backs xs k) wr ∧ Below n₀ w0 wr)
    (fun i _ => (intOf i + 1).toNat)
  case atStart => exact ⟨0, _, Nat.zero_le _, rfl, ⟨by simp⟩, by simpa [backs] using h0, hw⟩
  case round =>
    obtain ⟨k, iv, hk, rfl, HI, hJs, hnx⟩ := hrel
    have hcs : wr.cell? ⟨Bs, 0, none⟩ = some (.slice A0 xs.length c0) := (hnx.cell (by have := World.block_lt_of_cell? w0 _ hBs0; omega)).trans hBs0
    by_cases hlt : k < xs.length
    · have hge : 0 ≤ iv := by have := HI.out; omega
      have hl2 : iv < (xs.length : Int) := by have := HI.out; omega
      obtain ⟨ad, rfl, hx0, hx1, hx2, hx3⟩ := at_T25 hC _ hge hl2
      have keep : ∀ {a : Addr} {v : Value}, w0.cell? a = some v → wr.cell? a = some v := fun {a} {v} h => (hnx.cell (by have := World.block_lt_of_cell? w0 _ h; omega)).trans h
      replace hx0 := keep hx0
      replace hx1 := keep hx1
      replace hx2 := keep hx2
      replace hx3 := keep hx3
      obtain ⟨fn, tmps, assign, body, hy, hR⟩ := hY _ (iv, rd_T25 xs iv) wr hJs (by rw [backs_length]; exact hlt)
      dsimp only [recCells] at hy
      clear keep
      gi_wp2
      refine hR.mono ?_
      rintro e W3 (⟨rfl, hJ3, hk3⟩ | ⟨rfl, hJx3⟩)
      · gi_wp2
        go_roundw
        case rel => exact ⟨k + 1, iv - 1, by omega, by go_num, ⟨by have := HI.out; omega⟩, by rw [backs_succ, ← HI.out]; exact hJ3, hnx.trans hk3⟩
        case measure => simp [intOf]; omega
      · gi_wp2
        refine bodyPost_ret (results_none rfl _ _ _) rfl ?_
        exact ⟨⟨_, rfl⟩, .inr ⟨_, by have := backs_prefix xs (k := k + 1) hlt; rw [backs_succ, ← HI.out] at this; exact this, hJx3⟩⟩
    · obtain rfl : k = xs.length := by omega
      obtain rfl : iv = -1 := by have := HI.out; omega
      gi_wp2
      go_end0
      exact ⟨⟨_, rfl⟩, .inl ⟨_, rfl, hJs⟩⟩

set_option maxHeartbeats 1000000 in
theorem backward_in (F : Fence) (n : Nat) (h5 : F.fn 51) (hro : F.round = none) (a : Option Addr) (len cap : Nat) (w : World) :
    CallsIn F n Try.prog 51 #[.slice a len cap] w fun e w' => e = .returned (.func (.func 69) #[] #[.pointer (some ⟨w.heap.size, 0, none⟩)]) ∧ w' = w.alloc (.cells #[.slice a len cap] 22) := by
  refine callsIn_of_wp Try.func51 rfl h5 ?_ hro
  simp only [Try.ntmps51, List.size_toArray, List.length_cons, List.length_nil, Nat.reduceAdd, Nat.reduceSub, Array.replicate_succ, Array.replicate_zero, List.push_toArray, List.append_toArray, List.nil_append, List.cons_append]
  gi_wp2
  go_ret
  exact ⟨rfl, rfl⟩

/-- The first record of a row that bears the key. -/
def lastRec (l : List S25) (key : ByteArray) : Option S25 := l.reverse.find? (fun r => r.f2.toList == key.toList)
def fold_Last.f (l0 : List S25) (a1 : ByteArray) : Option (Bool × Int × ByteArray × ByteArray × Bool) :=
  some (match lastRec l0 a1 with | some r => (r.f0, r.f1, r.f2, r.f3, true) | none => (false, 0, ⟨#[]⟩, ⟨#[]⟩, false))
theorem backs_all (l : List S25) : (backs l l.length).map (·.2) = l.reverse := by
  apply List.ext_getElem
  · simp [backs]
  · intro i h1 h2
    have hi : i < l.length := by simpa [backs] using h1
    have e : ((l.length : Int) - 1 - (i : Int)).toNat = l.length - 1 - i := by omega
    simp [backs, rd_T25, e, List.getElem_reverse, List.getElem?_eq_getElem (show l.length - 1 - i < l.length by omega)]
theorem lastRec_none {l : List S25} {key : ByteArray} (h : ∀ y ∈ backs l l.length, (y.2.f2.toList == key.toList) = false) : lastRec l key = none := by
  unfold lastRec
  rw [List.find?_eq_none, ← backs_all]
  intro x hx
  obtain ⟨y, hy, rfl⟩ := List.mem_map.1 hx
  simp [h y hy]
theorem lastRec_some {l : List S25} {key : ByteArray} {pre : List (Int × S25)} {x : Int × S25} (hp : pre ++ [x] <+: backs l l.length) (h : ∀ y ∈ pre, (y.2.f2.toList == key.toList) = false) (hx : (x.2.f2.toList == key.toList) = true) : lastRec l key = some x.2 := by
  unfold lastRec
  obtain ⟨t, ht⟩ := hp
  rw [← backs_all, ← ht, List.map_append, List.map_append, List.find?_append, List.find?_append]
  have h1 : (pre.map (·.2)).find? (fun r => r.f2.toList == key.toList) = none := by
    rw [List.find?_eq_none]
    intro x hx
    obtain ⟨y, hy, rfl⟩ := List.mem_map.1 hx
    simp [h y hy]
  rw [h1]
  simp [hx]

set_option maxRecDepth 100000 in
set_option maxHeartbeats 4000000 in
theorem last_in (F : Fence) (n : Nat) (h3 : F.fn 29) (h4 : F.fn 51) (h5 : F.fn 69) (hro : F.round = none) (hn : 3 ≤ n) (A0 : Option Addr) (c0 : Nat) (l0 : List S25) (a1 : ByteArray) (w : World) (hr0 : Kd.C k25 w A0 l0.length l0) :
    CallsIn F n Try.prog 29 #[.slice A0 l0.length c0, .string a1] w fun e w' => (∃ r1 r2 r3 r4 r5, fold_Last.f l0 a1 = some (r1, r2, r3, r4, r5) ∧ e = .returned (.tuple #[.agg #[.bool r1, .int .u64 r2, .string r3, .string r4], .bool r5])) ∧ Below w.heap.size w w' := by
  have h1 : 1 ≤ n := by omega
  have hu := Try.underlying25
  refine callsIn_of_wp_marks Try.func29 rfl h3 ?_ hro
  simp only [Try.ntmps29, List.size_toArray, List.length_cons, List.length_nil, Nat.reduceAdd, Nat.reduceSub, Array.replicate_succ, Array.replicate_zero, List.push_toArray, List.append_toArray, List.nil_append, List.cons_append]
  gi_wp2_with (gi_at_call 51; refine (backward_in F (n - 1) h4 hro _ _ _ _).mono ?_; rintro e w' ⟨rfl, rfl⟩)
  have hB0 : Below w.heap.size w ((((w.alloc (.cells #[.string a1] 9)).alloc (.cells #[.bool false, .int .u64 0, .string ⟨#[]⟩, .string ⟨#[]⟩] 25)).alloc (.cells #[.bool false] 4)).alloc (.cells #[.slice A0 l0.length c0] 22)) := ((((Below.refl _ w).alloc (Nat.le_refl _) _).alloc (by simp) _).alloc (by simp; omega) _).alloc (by simp; omega) _
  have b0 := (((Blk.new w #[.string a1] 9).alloc (.cells #[.bool false, .int .u64 0, .string ⟨#[]⟩, .string ⟨#[]⟩] 25)).alloc (.cells #[.bool false] 4)).alloc (.cells #[.slice A0 l0.length c0] 22)
  have b1 := ((Blk.new (w.alloc (.cells #[.string a1] 9)) #[.bool false, .int .u64 0, .string ⟨#[]⟩, .string ⟨#[]⟩] 25).alloc (.cells #[.bool false] 4)).alloc (.cells #[.slice A0 l0.length c0] 22)
  have b2 := (Blk.new ((w.alloc (.cells #[.string a1] 9)).alloc (.cells #[.bool false, .int .u64 0, .string ⟨#[]⟩, .string ⟨#[]⟩] 25)) #[.bool false] 4).alloc (.cells #[.slice A0 l0.length c0] 22)
  have b3 := Blk.new (((w.alloc (.cells #[.string a1] 9)).alloc (.cells #[.bool false, .int .u64 0, .string ⟨#[]⟩, .string ⟨#[]⟩] 25)).alloc (.cells #[.bool false] 4)) #[.slice A0 l0.length c0] 22
  have hsz : ((((w.alloc (.cells #[.string a1] 9)).alloc (.cells #[.bool false, .int .u64 0, .string ⟨#[]⟩, .string ⟨#[]⟩] 25)).alloc (.cells #[.bool false] 4)).alloc (.cells #[.slice A0 l0.length c0] 22)).heap.size = w.heap.size + 4 := by simp
  simp only [World.size_alloc] at b1 b2 b3
  obtain ⟨W0, hW0⟩ : ∃ W0, (((w.alloc (.cells #[.string a1] 9)).alloc (.cells #[.bool false, .int .u64 0, .string ⟨#[]⟩, .string ⟨#[]⟩] 25)).alloc (.cells #[.bool false] 4)).alloc (.cells #[.slice A0 l0.length c0] 22) = W0 := ⟨_, rfl⟩
  rw [hW0] at b0 b1 b2 b3 hB0 hsz ⊢
  clear hW0
  refine wpIn_rangeFunc_ownH hro h1 (gf := 69) (lb := #[.pointer (some ⟨w.heap.size + 1 + 1 + 1, 0, none⟩)]) rfl h5 (enters_of Try.func69 (by kernel_rfl) rfl)
    (encs := fun x : Int × S25 => #[.int .i64 x.1, .agg (recCells x.2)]) (Kp := Below W0.heap.size) (S := fun ys => ys = backs l0 l0.length) (Sp := fun pre => pre <+: backs l0 l0.length) (N := l0.length) (w0 := W0)
    (fun l J Jx W hW _ _ hY h0 => backward1_in F (n - 1) h5 hro (by omega) l (w.heap.size + 1 + 1 + 1) W0.heap.size A0 c0 l0 W0 (Kd.C_below hr0 hB0) rfl J Jx hY W (by rw [b3.cell]; rfl) hW h0)
    belowK_t (belowK_b (Nat.le_refl _)) (Below.refl _ _) (fun _ => rfl)
    (fun pre W => ((Blk W w.heap.size #[.string a1] 9 ∧ Blk W (w.heap.size + 1) #[.bool false, .int .u64 0, .string ⟨#[]⟩, .string ⟨#[]⟩] 25 ∧ Blk W (w.heap.size + 1 + 1) #[.bool false] 4) ∧ (∀ y ∈ pre, (y.2.f2.toList == a1.toList) = false)) ∧ Below w.heap.size w W ∧ Below W0.heap.size W0 W)
    (fun c pre W => ((∃ pre0 x, pre = pre0 ++ [x] ∧ c = .ret ∧ (∀ y ∈ pre0, (y.2.f2.toList == a1.toList) = false) ∧ (x.2.f2.toList == a1.toList) = true ∧ Blk W (w.heap.size + 1) (recCells x.2) 25 ∧ Blk W (w.heap.size + 1 + 1) #[.bool true] 4)) ∧ Below w.heap.size w W)
    (OwnFrom.and (Own.from (fun s X Y row hs hg hrow => ⟨⟨blk_own _ _ (fun _ => _) s X Y row hs.1.1 hg hrow, blk_own _ _ (fun _ => _) s X Y row hs.1.2.1 hg hrow, blk_own _ _ (fun _ => _) s X Y row hs.1.2.2 hg hrow⟩, hs.2⟩) _) (OwnFrom.and (ownFrom_below (by omega) (by omega)) (ownFrom_below (Nat.le_refl _) (Nat.le_refl _))))
    (fun c => OwnFrom.and (Own.from (fun s X Y row ⟨pre0, x, e1, e2, e3, e4, e5, e6⟩ hg hrow => ⟨pre0, x, e1, e2, e3, e4, blk_own _ _ (fun _ => _) s X Y row e5 hg hrow, blk_own _ _ (fun _ => _) s X Y row e6 hg hrow⟩) _) (ownFrom_below (by omega) (by omega)))
    ⟨⟨⟨b0, b1, b2⟩, by simp⟩, hB0, Below.refl _ _⟩
    (fun x a' W => ∃ Bx, W0.heap.size ≤ Bx ∧ Blk W Bx (recCells x.2) 25 ∧ a' = { tmps := #[.slice A0 l0.length c0, .string a1, undef, .pointer (some ⟨w.heap.size, 0, none⟩), .pointer (some ⟨w.heap.size + 1, 0, none⟩), .pointer (some ⟨w.heap.size + 1 + 1, 0, none⟩), undef, .pointer (some ⟨Bx, 0, none⟩), .slice A0 l0.length c0, .func (.func 69) #[] #[.pointer (some ⟨w.heap.size + 1 + 1 + 1, 0, none⟩)], .int .i64 x.1, .agg (recCells x.2), undef, undef, undef, undef, undef, undef], defers := [] })
    (fun x a' => Own.from (fun s X Y row ⟨Bx, h1, h2, h3⟩ hg hrow => ⟨Bx, h1, blk_own _ _ (fun _ => _) s X Y row h2 hg hrow, h3⟩) _) ?assign ?body ?done ?stop
  case assign =>
    rintro l pre x W K ⟨⟨⟨i0, i1, i2⟩, ip⟩, hB, hBW⟩ hK
    dsimp only [recCells] at hK ⊢
    gi_wp2
    exact hK _ _ ((KeepsOthers.alloc _ _).from _) ((Below.refl _ W).alloc hBW.size _) ⟨⟨⟨i0.alloc _, i1.alloc _, i2.alloc _⟩, ip⟩, hB.alloc hB.size _, hBW.alloc hBW.size _⟩ ⟨W.heap.size, hBW.size, Blk.new W _ _, rfl⟩
  case body =>
    rintro l pre x a' W hl ⟨r, hr⟩ ⟨⟨⟨i0, i1, i2⟩, ip⟩, hB, hBW⟩ ⟨Bx, hBx, bX, rfl⟩ hlt
    have x0 := bX.cell 0
    have x1 := bX.cell 1
    have x2 := bX.cell 2
    have x3 := bX.cell 3
    have k0 := i0.cell 0
    have j0 := i1.cell 0
    have j1 := i1.cell 1
    have j2 := i1.cell 2
    have j3 := i1.cell 3
    have m0 := i2.cell 0
    simp [recCells] at x0 x1 x2 x3 k0 j0 j1 j2 j3 m0
    have f0 := i1.frozen
    have f1 := i2.frozen
    dsimp only [recCells]
    gi_wp2
    · have hx : (x.2.f2.toList == a1.toList) = true := by assumption
      have n1 : w.heap.size + 1 + 1 ≠ w.heap.size + 1 := by omega
      have n2 : w.heap.size + 1 ≠ w.heap.size + 1 + 1 := by omega
      refine ⟨(((((KeepsOthers.setCell _ _ _).trans (KeepsOthers.setCell _ _ _)).trans (KeepsOthers.setCell _ _ _)).trans (KeepsOthers.setCell _ _ _)).trans (KeepsOthers.setCell _ _ _)).from _, ⟨pre, x, rfl, rfl, ip, hx, ?_, ?_⟩, ?_⟩
      · exact ((((i1.set 0 (.bool x.2.f0)).set 1 (.int .u64 x.2.f1)).set 2 (.string x.2.f2)).set 3 (.string x.2.f3)).other ⟨w.heap.size + 1 + 1, 0, none⟩ n2 _
      · exact ((((i2.other ⟨w.heap.size + 1, 0, none⟩ n1 _).other ⟨w.heap.size + 1, 1, none⟩ n1 _).other ⟨w.heap.size + 1, 2, none⟩ n1 _).other ⟨w.heap.size + 1, 3, none⟩ n1 _).set 0 (.bool true)
      · exact ((((hB.setCell (p := ⟨w.heap.size + 1, 0, none⟩) (by simp) _).setCell (p := ⟨w.heap.size + 1, 1, none⟩) (by simp) _).setCell (p := ⟨w.heap.size + 1, 2, none⟩) (by simp) _).setCell (p := ⟨w.heap.size + 1, 3, none⟩) (by simp) _).setCell (p := ⟨w.heap.size + 1 + 1, 0, none⟩) (by simp; omega) _
    · have hx : (x.2.f2.toList == a1.toList) = false := by assumption
      refine ⟨(KeepsOthers.refl _).from _, Below.refl _ _, ⟨⟨i0, i1, i2⟩, fun y hy => (List.mem_append.1 hy).elim (ip y) (fun e => by simp at e; subst e; exact hx)⟩, hB, hBW⟩
  case done =>
    rintro D ys W hD rfl ⟨⟨⟨i0, i1, i2⟩, ip⟩, hB, hBW⟩ hK
    have j0 := i1.cell 0
    have j1 := i1.cell 1
    have j2 := i1.cell 2
    have j3 := i1.cell 3
    have m0 := i2.cell 0
    simp at j0 j1 j2 j3 m0
    have f0 := i1.frozen
    have f1 := i2.frozen
    gi_wp2
    have n1 : w.heap.size + 1 + 1 ≠ w.heap.size + 1 := by omega
    have n2 : w.heap.size + 1 ≠ w.heap.size + 1 + 1 := by omega
    have c1 := ((((i1.set 0 (.bool false)).set 1 (.int .u64 0)).set 2 (.string ⟨#[]⟩)).set 3 (.string ⟨#[]⟩)).other ⟨w.heap.size + 1 + 1, 0, none⟩ n2 (.bool false)
    have c2 := ((((i2.other ⟨w.heap.size + 1, 0, none⟩ n1 (.bool false)).other ⟨w.heap.size + 1, 1, none⟩ n1 (.int .u64 0)).other ⟨w.heap.size + 1, 2, none⟩ n1 (.string ⟨#[]⟩)).other ⟨w.heap.size + 1, 3, none⟩ n1 (.string ⟨#[]⟩)).set 0 (.bool false)
    have hK' := (((((KeepsOthers.setCell W ⟨w.heap.size + 1, 0, none⟩ (.bool false)).trans (KeepsOthers.setCell _ ⟨w.heap.size + 1, 1, none⟩ (.int .u64 0))).trans (KeepsOthers.setCell _ ⟨w.heap.size + 1, 2, none⟩ (.string ⟨#[]⟩))).trans (KeepsOthers.setCell _ ⟨w.heap.size + 1, 3, none⟩ (.string ⟨#[]⟩))).trans (KeepsOthers.setCell _ ⟨w.heap.size + 1 + 1, 0, none⟩ (.bool false))).same D _ hK rfl
    have hB' := ((((hB.setCell (p := ⟨w.heap.size + 1, 0, none⟩) (by simp) (.bool false)).setCell (p := ⟨w.heap.size + 1, 1, none⟩) (by simp) (.int .u64 0)).setCell (p := ⟨w.heap.size + 1, 2, none⟩) (by simp) (.string ⟨#[]⟩)).setCell (p := ⟨w.heap.size + 1, 3, none⟩) (by simp) (.string ⟨#[]⟩)).setCell (p := ⟨w.heap.size + 1 + 1, 0, none⟩) (by simp; omega) (.bool false)
    refine ⟨by simp, .inl ⟨_, _, rfl, run_takeDeferred hK', ?_⟩⟩
    have d1 := c1.kept (grownBy_putObj' _ D (.deferred none)) (fun e => by cases e; omega)
    have d2 := c2.kept (grownBy_putObj' _ D (.deferred none)) (fun e => by cases e; omega)
    have q0 := d1.cell 0
    have q1 := d1.cell 1
    have q2 := d1.cell 2
    have q3 := d1.cell 3
    have q4 := d2.cell 0
    simp at q0 q1 q2 q3 q4
    refine ⟨.tuple #[.agg #[.bool false, .int .u64 0, .string ⟨#[]⟩, .string ⟨#[]⟩], .bool false], ?_, ⟨false, 0, ⟨#[]⟩, ⟨#[]⟩, false, ?_, rfl⟩, hB'.trans (belowK_b (w := w) (Nat.le_refl _) _ D _ _ (by omega) hK' rfl rfl)⟩
    · simp [results, Try.f29, go_sem, q0, q1, q2, q3, q4, hu]
    · unfold fold_Last.f
      rw [lastRec_none ip]
  case stop =>
    rintro D c pre W hD hpre ⟨⟨pre0, x, rfl, rfl, e3, e4, e5, e6⟩, hB⟩ hK
    gi_wp2
    refine ⟨by simp, .inl ⟨_, _, rfl, run_takeDeferred hK, ?_⟩⟩
    have d1 := e5.kept (grownBy_putObj' _ D (.deferred none)) (fun e => by cases e; omega)
    have d2 := e6.kept (grownBy_putObj' _ D (.deferred none)) (fun e => by cases e; omega)
    have q0 := d1.cell 0
    have q1 := d1.cell 1
    have q2 := d1.cell 2
    have q3 := d1.cell 3
    have q4 := d2.cell 0
    simp [recCells] at q0 q1 q2 q3 q4
    refine ⟨.tuple #[.agg (recCells x.2), .bool true], ?_, ⟨x.2.f0, x.2.f1, x.2.f2, x.2.f3, true, ?_, rfl⟩, hB.trans (belowK_b (w := w) (Nat.le_refl _) _ D _ _ (by omega) hK rfl rfl)⟩
    · simp [results, Try.f29, go_sem, q0, q1, q2, q3, q4, hu, recCells]
    · unfold fold_Last.f
      rw [lastRec_some hpre e3 e4]

theorem fold_Last.calls (A0 : Option Addr) (c0 : Nat) (l0 : List S25) (a1 : ByteArray) (r1 : Bool) (r2 : Int) (r3 : ByteArray) (r4 : ByteArray) (r5 : Bool) (w : World) (hr0 : Kd.C k25 w A0 l0.length l0) (hc0 : l0.length ≤ c0) (h : fold_Last.f l0 a1 = some (r1, r2, r3, r4, r5)) :
    Calls Try.prog 29 #[.slice A0 l0.length c0, .string a1] w fun e w' => e = .returned (.tuple #[.agg #[.bool r1, .int .u64 r2, .string r3, .string r4], .bool r5]) ∧ Below w.heap.size w w' := by
  refine ((callsIn_wide (n := 3)).1 (last_in Fence.wide 3 trivial trivial trivial rfl (by omega) A0 c0 l0 a1 w hr0)).mono ?_
  rintro e w' ⟨⟨s1, s2, s3, s4, s5, hf, rfl⟩, hb⟩
  rw [h] at hf
  simp only [Option.some.injEq, Prod.mk.injEq] at hf
  obtain ⟨rfl, rfl, rfl, rfl, rfl⟩ := hf
  exact ⟨rfl, hb⟩
end Go.Proofs.Ytbcccobbmphaeaa.Q
