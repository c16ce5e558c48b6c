/- fold.lasts: a map from each key to its last place; fold.Compact: of each key its last record. For every row of records whose keys are texts that Go can hold. -/
import Derived.Test.YtbcccobbmphaeaaQ0
import Derived.Test.YtbcccobbmphaeaaShKeys
import Derived.OwnWalkIn
import Derived.Sort.KeysCollected
import Derived.Maps.Own
import Derived.Maps.OwnOps
import Derived.Maps.OwnSet
import Derived.Maps.Views
import Derived.StringKeys
namespace Go.Proofs.Ytbcccobbmphaeaa.Q
open Go.RowKit Go.Proofs.YtbcccobbmphaeaaW.PrintWords Go.Proofs.YtbcccobbmphaeaaW.PrintLast Go.Proofs.YtbcccobbmphaeaaW.PrintMore
set_option linter.unusedVariables false
set_option linter.unusedSimpArgs false
open Go.Maps Go.WideMaps

theorem lawKey : Keyed Try.prog 9 := string_keyed Try.underlying9
theorem zeroInt (w : World) : (zeroValue 3).run Try.prog w = .ok (.int .i64 0) w := by kernel_rfl
abbrev i64L {H : Type} (c : Int) : DataW H := .lit (.int .i64 c)
abbrev keyL (s : ByteArray) : Lit := .string s.data.toList
/-- What the map reads as behind k rounds. -/
def lastsD {H : Type} (l : List S25) : Nat → DataW H
  | 0 => .map []
  | k + 1 => (lastsD l k).put (keyL (rd_T25 l k).f2) (i64L k)
/-- The last place, of the first k, that bears a key; 0 if there is none. -/
def lastIx (l : List S25) (key : ByteArray) : Nat → Int
  | 0 => 0
  | k + 1 => if (rd_T25 l k).f2.data.toList = key.data.toList then (k : Int) else lastIx l key k
theorem lastIx_lo (l : List S25) (key : ByteArray) : ∀ k, 0 ≤ lastIx l key k
  | 0 => Int.le_refl _
  | k + 1 => by
    unfold lastIx
    split
    · omega
    · exact lastIx_lo l key k
theorem lastIx_hi (l : List S25) (key : ByteArray) : ∀ k : Nat, 0 < k → lastIx l key k < k
  | 0, h => absurd h (by omega)
  | k + 1, _ => by
    unfold lastIx
    split
    · omega
    · rcases Nat.eq_zero_or_pos k with rfl | h
      · simp [lastIx]
      · have := lastIx_hi l key k h; omega
theorem lastsD_isMap {H : Type} (l : List S25) : ∀ k, IsMap (lastsD (H := H) l k)
  | 0 => isMap_empty
  | k + 1 => IsMap.put (lastsD_isMap l k) _ _
theorem isKey_str (s : ByteArray) : WideAt.IsKeyLit (keyL s) := by
  simp [WideAt.IsKeyLit]
theorem lastsD_at {H : Type} (l : List S25) (key : ByteArray) : ∀ k, (lastsD (H := H) l k).atKey (keyL key) (i64L 0) = i64L (lastIx l key k)
  | 0 => rfl
  | k + 1 => by
    unfold lastsD lastIx
    split
    · rename_i h
      rw [show keyL key = keyL (rd_T25 l k).f2 from by unfold keyL; rw [h]]
      exact atKey_put_same (lastsD_isMap l k) (isKey_str _) _ _
    · rename_i h
      rw [atKey_put_other (by intro e; exact h (by injection e with e; exact e.symm))]
      exact lastsD_at l key k

/-- Are the keys texts that Go can hold? -/
def keysOk (l : List S25) : Bool := l.all (fun x => decide (x.f2.size ≤ maxLen))
theorem keysOk_at {l : List S25} (h : keysOk l = true) {i : Int} (h0 : 0 ≤ i) (h1 : i < l.length) : (rd_T25 l i).f2.size ≤ maxLen := by
  have hl : i.toNat < l.length := by omega
  unfold rd_T25
  rw [List.getD_eq_getElem?_getD, List.getElem?_eq_getElem hl]
  exact of_decide_eq_true (List.all_eq_true.1 h _ (List.getElem_mem hl))

set_option maxRecDepth 100000 in
set_option maxHeartbeats 2000000 in
theorem lasts_calls {H : Type} (A0 : Option Addr) (c0 : Nat) (l0 : List S25) (w : World) (hr0 : Kd.C k25 w A0 l0.length l0) (hk0 : keysOk l0 = true) :
    Calls Try.prog 50 #[.slice A0 l0.length c0] w fun e w' => e = .returned (.map (some w.heap.size)) ∧ w'.ownsMap Try.prog 9 (plainElem (H := H) Try.prog 3) w.heap.size l0.length (lastsD l0 l0.length) ∧ Below w.heap.size w w' := by
  have hmm := @run_makeMap Try.prog
  have hu := Try.underlying25
  have hlen := hr0.2.1
  have HK := Aside0.mk hk0
  clear hk0
  go_enter Try.func50, Try.ntmps50
  go_wp2
  go_loopw [9] (fun i wr => ∃ (k : Nat) (iv : Int), k ≤ l0.length ∧ i = .int .i64 iv ∧ Aside0 (iv = (k : Int)) ∧ wr.ownsMap Try.prog 9 (plainElem (H := H) Try.prog 3) w.heap.size k (lastsD l0 k) ∧ Below w.heap.size w wr)
    (fun i _ => l0.length - (intOf i).toNat)
  case atStart => exact ⟨0, 0, Nat.zero_le _, rfl, ⟨rfl⟩, World.ownsMap_made _ _ _ _, (Below.refl _ _).alloc (Nat.le_refl _) _⟩
  case round =>
    obtain ⟨k, iv, hk, rfl, HI, hown, hnx⟩ := hrel
    by_cases hlt : k < l0.length
    · have hge : 0 ≤ iv := by have := HI.out; omega
      have hl2 : iv < (l0.length : Int) := by have := HI.out; omega
      have hks := keysOk_at HK.out hge hl2
      obtain ⟨ad, rfl, hx0, hx1, hx2, hx3⟩ := at_T25 hr0 _ hge hl2
      have keep : ∀ {a : Addr} {v : Value}, w.cell? a = some v → wr.cell? a = some v := fun {a} {v} h => (hnx.cell (World.block_lt_of_cell? w _ h)).trans h
      replace hx0 := keep hx0
      replace hx1 := keep hx1
      replace hx2 := keep hx2
      replace hx3 := keep hx3
      clear keep
      obtain ⟨key, hkey0⟩ : ∃ key, key = (rd_T25 l0 iv).f2 := ⟨_, rfl⟩
      rw [← hkey0] at hx2 hks
      have hkey := keyOf_string_mk Try.underlying9 hks
      have HKEY := Aside0.mk hkey0
      clear hkey0
      go_wp2_with (first | (at_mapUpdate; refine wpList_mapUpdate_own _ rfl _ _ _ 86 rfl 9 3 lawKey Try.underlying86 _ w.heap.size k _ rfl (hown.alloc _) (by unfold maxLen; omega) _ _ _ rfl rfl hkey _ [] (plainElem_int Try.underlying3 (WalkArith.wf_i64 (by omega))) ?_; intro w1 hown1 hgrow1) | go_in)
      have R1 : w1.ownsMap Try.prog 9 (plainElem (H := H) Try.prog 3) w.heap.size (k + 1) (lastsD l0 (k + 1)) := by
        have e : iv = (k : Int) := HI.out
        have e2 := HKEY.out
        rw [e2] at hown1
        subst e
        exact hown1
      have R2 : Below w.heap.size w w1 := (hnx.alloc hnx.size _).grown hgrow1 (by simp; have := hnx.size; omega) (fun j hj => by cases hj; exact Nat.le_refl _)
      clear hown1 hgrow1 hown
      go_wp2
      go_roundw
      case rel => exact ⟨k + 1, iv + 1, by omega, by go_num, ⟨by have := HI.out; omega⟩, R1, R2⟩
      case measure => simp [intOf]; omega
    · obtain rfl : k = l0.length := by omega
      obtain rfl : iv = (l0.length : Int) := HI.out
      go_wp2
      go_ret
      exact ⟨rfl, hown, hnx⟩

/-- Of the first k records those that are the last ones of their keys. -/
def compactTo (l : List S25) : Nat → List S25
  | 0 => []
  | k + 1 => if lastIx l (rd_T25 l k).f2 l.length = (k : Int) then compactTo l k ++ [rd_T25 l k] else compactTo l k
theorem compactTo_length (l : List S25) : ∀ k, (compactTo l k).length ≤ k
  | 0 => by simp [compactTo]
  | k + 1 => by
    unfold compactTo
    have := compactTo_length l k
    split <;> simp <;> omega
def fold_Compact.f (l0 : List S25) : Option (List S25) :=
  if keysOk l0 = true then if l0.length < 2932031007402 then some (compactTo l0 l0.length) else none else none

theorem atKey_int {H : Type} {c d : Int} (h : (i64L (H := H) c) = i64L d) : c = d := by
  injection h with h
  injection h with _ h

set_option maxRecDepth 100000 in
set_option maxHeartbeats 4000000 in
theorem fold_Compact.calls (A0 : Option Addr) (c0 : Nat) (l0 : List S25) (r : List S25) (w : World) (hr0 : Kd.C k25 w A0 l0.length l0) (hc0 : l0.length ≤ c0) (h : fold_Compact.f l0 = some r) :
    Calls Try.prog 31 #[.slice A0 l0.length c0] w fun e w' => ∃ v0_ : Value, e = .returned (v0_) ∧ Kd.R k25 25 w' w.heap.size (fun _ => True) v0_ r ∧ Below w.heap.size w w' := by
  have hu := Try.underlying25
  have hlen := hr0.2.1
  unfold fold_Compact.f at h
  have hk0 : keysOk l0 = true := by
    by_cases e : keysOk l0 = true
    · exact e
    · rw [if_neg e] at h; cases h
  have hl0 : l0.length < 2932031007402 := by
    by_cases e : l0.length < 2932031007402
    · exact e
    · rw [if_pos hk0, if_neg e] at h; cases h
  rw [if_pos hk0, if_pos hl0] at h
  have HR := Aside0.mk (Option.some.inj h)
  clear h
  have HK := Aside0.mk hk0
  clear hk0
  go_enter Try.func31, Try.ntmps31
  go_wp2_with (go_at_call 50; refine (lasts_calls (H := Unit) A0 c0 l0 w hr0 HK.out).mono ?_; rintro e w1 ⟨rfl, hown1, hb1⟩)
  go_loopw [4, 11] (fun v4 i wr => ∃ (k : Nat) (iv : Int), k ≤ l0.length ∧ i = .int .i64 iv ∧ Aside0 (iv = (k : Int)) ∧ Aside0 (Kd.R k25 25 wr w.heap.size (fun q => q ≠ w.heap.size) v4 (compactTo l0 k)) ∧ Aside0 (wr.ownsMap Try.prog 9 (plainElem (H := Unit) Try.prog 3) w.heap.size l0.length (lastsD l0 l0.length)) ∧ Aside0 (Below w.heap.size w wr))
    (fun _ i _ => l0.length - (intOf i).toNat)
  case atStart => exact ⟨0, 0, Nat.zero_le _, rfl, ⟨rfl⟩, ⟨Kd.R_nil _ _ _ _ _⟩, ⟨hown1⟩, ⟨hb1⟩⟩
  case round =>
    obtain ⟨k, iv, hk, rfl, HI, HO, HM, HB⟩ := hrel
    clear hown1 hb1
    by_cases hlt : k < l0.length
    · have hge : 0 ≤ iv := by have := HI.out; omega
      have hl2 : iv < (l0.length : Int) := by have := HI.out; omega
      have hks := keysOk_at HK.out hge hl2
      obtain ⟨ad, rfl, hx0, hx1, hx2, hx3⟩ := at_T25 hr0 _ hge hl2
      have keep : ∀ {a : Addr} {v : Value}, w.cell? a = some v → wr.cell? a = some v := fun {a} {v} h => (HB.out.cell (World.block_lt_of_cell? w _ h)).trans h
      replace hx0 := keep hx0
      replace hx1 := keep hx1
      replace hx2 := keep hx2
      replace hx3 := keep hx3
      clear keep
      obtain ⟨rc, hrc⟩ : ∃ rc, rc = rd_T25 l0 iv := ⟨_, rfl⟩
      rw [← hrc] at hx0 hx1 hx2 hx3 hks
      have hkey := keyOf_string_mk Try.underlying9 hks
      have HRC := Aside0.mk hrc
      clear hrc
      obtain ⟨cc, hcc⟩ : ∃ cc, cc = lastIx l0 rc.f2 l0.length := ⟨_, rfl⟩
      have HCC := Aside0.mk hcc
      clear hcc
      obtain ⟨W, hW⟩ : ∃ W, W = wr.alloc (.cells #[.bool rc.f0, .int .u64 rc.f1, .string rc.f2, .string rc.f3] 25) := ⟨_, rfl⟩
      have HW := Aside0.mk hW
      clear hW
      by_cases hc : cc = iv
      · have hcb : (cc == iv) = true := by simpa using hc
        have HC := Aside0.mk hc
        clear hc
        go_wp2_with (first | (at_lookup; refine wpList_lookup_own_int _ rfl _ _ 86 rfl 9 3 .i64 lawKey Try.underlying86 Try.underlying3 (zeroInt _) w.heap.size l0.length _ rfl (HM.out.alloc _) _ _ rfl hkey ?_; intro c hat hwc; have hce : c = cc := (atKey_int (hat.symm.trans (lastsD_at l0 rc.f2 l0.length))).trans HCC.out.symm; clear hat hwc; subst hce) | (at_builtin; refine Kd.R_append k25 (w0 := w) w.heap.size rfl (.tmp 22) (.tmp 24) 22 25 (.agg #[(.bool false), (.int .u64 0), (.string ⟨#[]⟩), (.string ⟨#[]⟩)]) 48 rfl Try.underlying22 info25 rfl (by decide) (by omega) u4 (compactTo l0 k) rc [.bool rc.f0, .int .u64 rc.f1, .string rc.f2, .string rc.f3] (fun q => q ≠ w.heap.size) (fun _ => False) rfl ?ax ?aP (fun _ hk => hk.elim) ?aF ?aO ?aB ?aS ?aL ?_; (case ax => rw [World.size_alloc]; rfl); (case aP => exact k25_mkM _ _ _ rc); (case aF => intro q hq e; subst e; rw [World.size_alloc] at hq; have := HB.out.size; omega); (case aO => exact Kd.R_below HO.out ((Below.refl _ _).alloc (Nat.le_refl _) _)); (case aB => exact HB.out.alloc HB.out.size _); (case aS => rw [World.size_alloc]; have := HB.out.size; omega); (case aL => have := compactTo_length l0 k; omega); intro v1 w1 HR1 hb1 hg1 hat1; have HO1 := Aside0.mk HR1; have HB1 := Aside0.mk hb1; have HM1 := Aside0.mk (World.ownsMap.kept (HM.out.alloc _) hg1 (fun e => HO.out.1 _ e.symm rfl)); clear HR1 hb1 hg1 hat1))
        go_roundw
        case rel => exact ⟨k + 1, iv + 1, by omega, by go_num, ⟨by have := HI.out; omega⟩, ⟨by
          have e1 : iv = (k : Int) := HI.out
          have e2 := HRC.out
          have e3 : lastIx l0 (rd_T25 l0 (k : Int)).f2 l0.length = (k : Int) := by rw [← e1, ← e2, ← HCC.out]; exact HC.out
          show Kd.R _ _ _ _ _ _ (compactTo l0 (k + 1))
          unfold compactTo
          rw [if_pos e3, ← e1, ← e2]
          exact HO1.out⟩, ⟨HM1.out⟩, ⟨HB1.out⟩⟩
        case measure => simp [intOf]; omega
      · have hcb : (cc == iv) = false := by simpa using hc
        have HC := Aside0.mk hc
        clear hc
        go_wp2_with (at_lookup; refine wpList_lookup_own_int _ rfl _ _ 86 rfl 9 3 .i64 lawKey Try.underlying86 Try.underlying3 (zeroInt _) w.heap.size l0.length _ rfl (HM.out.alloc _) _ _ rfl hkey ?_; intro c hat hwc; have hce : c = cc := (atKey_int (hat.symm.trans (lastsD_at l0 rc.f2 l0.length))).trans HCC.out.symm; clear hat hwc; subst hce)
        go_roundw
        case rel => exact ⟨k + 1, iv + 1, by omega, by go_num, ⟨by have := HI.out; omega⟩, ⟨by
          have e1 : iv = (k : Int) := HI.out
          have e2 := HRC.out
          have e3 : ¬ lastIx l0 (rd_T25 l0 (k : Int)).f2 l0.length = (k : Int) := by rw [← e1, ← e2, ← HCC.out]; exact HC.out
          show Kd.R _ _ _ _ _ _ (compactTo l0 (k + 1))
          unfold compactTo
          rw [if_neg e3]
          exact Kd.R_below HO.out ((Below.refl _ _).alloc (Nat.le_refl _) _)⟩, ⟨HM.out.alloc _⟩, ⟨HB.out.alloc HB.out.size _⟩⟩
        case measure => simp [intOf]; omega
    · obtain rfl : k = l0.length := by omega
      obtain rfl : iv = (l0.length : Int) := HI.out
      go_wp2
      go_ret
      exact ⟨_, rfl, by rw [← HR.out]; exact Kd.R_mono HO.out (fun _ _ => trivial), HB.out⟩

/-! ### the keys, sorted -/
open Go.Sort Go.Shelf
theorem sortsM (m : Nat) : AnyZ.SortsIn Try.prog Try.sortedM_ren Fence.wide m :=
  ⟨fun blk off cap ss W hH hblk hsz => callsIn_wide.2 (AnyM.slices_Sort_string Try.sortM blk off cap ss W hH hblk hsz),
   fun p cap W => callsIn_wide.2 (AnyM.slices_Sort_string_none Try.sortM p cap W)⟩
theorem mapsKeysM (mb : Option Nat) (W : World) : CallsIn Fence.wide 5 Try.prog 49 #[.map mb] W fun e w' => e = .returned (.func (.func 68) #[] #[.pointer (some ⟨W.heap.size, 0, none⟩)]) ∧ w' = W.alloc (.cells #[.map mb] 86) :=
  AnyZ.keys_in Try.keysM Fence.wide 5 trivial rfl mb W
set_option maxHeartbeats 1000000 in
theorem sortedKeysM {H : Type} (b nn : Nat) (D0 : DataW H) (R : Value → Option (DataW H × List MemPlace)) (w : World) (hown : w.ownsMap Try.prog 9 R b nn D0) (hmax : Maps.size D0 ≤ maxLen) (hbytes : Maps.size D0 * 16 ≤ 140737488355328) :
    CallsIn Fence.wide 5 Try.prog 48 #[.func (.func 68) #[] #[.pointer (some ⟨w.heap.size, 0, none⟩)]] (w.alloc (.cells #[.map (some b)] 86)) fun e w' => ∃ (v : Value) (ss : List (List UInt8)), e = .returned v ∧ ss.Perm (strKeys D0) ∧
      w'.ownsRow (w.alloc (.cells #[.map (some b)] 86)).heap.size 9 1 v ss.length ((ss.mergeSort (fun x y => decide (x ≤ y))).map encStr) ∧ (v = .slice none 0 0 ↔ ss = []) ∧ Below (w.alloc (.cells #[.map (some b)] 86)).heap.size (w.alloc (.cells #[.map (some b)] 86)) w' := by
  have hbl := hown.lt
  have hseq : SeqGives Fence.wide 2 Try.prog 68 #[.pointer (some ⟨w.heap.size, 0, none⟩)] encStr (fun ss => ss.Perm (strKeys D0)) (Maps.size D0) (w.alloc (.cells #[.map (some b)] 86)) :=
    AnyZ.keys_gives (ρ := Try.keysM_ren) { Try.keysM with } Fence.wide _ trivial rfl (by omega) w.heap.size b nn D0 _ (by simp) (by simp) (by
      obtain ⟨es, clock, hb, Ft, hs, hD⟩ := hown
      exact ⟨es, clock, (Below.heap_alloc _ _ b hbl).trans hb, Ft, hs, hD⟩)
  exact AnyZ.sorted_in Try.sortedM Fence.wide 5 trivial trivial trivial trivial rfl (by omega) (sortsM _) (enters_of Try.func67 (by kernel_rfl) rfl) 68 #[.pointer (some ⟨w.heap.size, 0, none⟩)] trivial (enters_of Try.func68 (by kernel_rfl) rfl) _ _ hmax hbytes _ hseq

/-- The keys, each once, sorted. -/
def keysL (l : List S25) : List ByteArray := ((strKeys (lastsD (H := Unit) l l.length)).mergeSort leB).map fun b => ⟨b.toArray⟩
def fold_Keys.f (l0 : List S25) : Option (List ByteArray) :=
  if keysOk l0 = true then if l0.length < 2932031007402 then some (keysL l0) else none else none
theorem strKeys_len (D : DataW Unit) : (strKeys D).length = Maps.size D := by
  cases D <;> simp [strKeys, Maps.size]

set_option maxRecDepth 100000 in
set_option maxHeartbeats 2000000 in
theorem keys_in' (A0 : Option Addr) (c0 : Nat) (l0 : List S25) (w : World) (hr0 : Kd.C k25 w A0 l0.length l0) (hk0 : keysOk l0 = true) (hl0 : l0.length < 2932031007402) :
    Calls Try.prog 27 #[.slice A0 l0.length c0] w fun e w' => ∃ v0_ : Value, e = .returned (v0_) ∧ Kd.R Kd.string 9 w' w.heap.size (fun _ => True) v0_ (keysL l0) ∧ Below w.heap.size w w' ∧ (keysL l0).length ≤ l0.length ∧ ∀ x ∈ keysL l0, x.size ≤ maxLen := by
  have HK := Aside0.mk hk0
  clear hk0
  refine (callsIn_wide (n := 6)).1 ?_
  have hfK : Fence.wide.fn 49 := trivial
  have hfS : Fence.wide.fn 48 := trivial
  have hfL : Fence.wide.fn 50 := trivial
  refine callsIn_of_wp Try.func27 rfl trivial ?_ rfl
  simp only [Try.ntmps27, List.size_toArray, List.length_cons, List.length_nil, Nat.reduceAdd, Nat.reduceSub, Array.replicate_succ, Array.replicate_zero, List.push_toArray, List.append_toArray, List.nil_append, List.cons_append]
  gi_wp2_with (gi_at_call 50; refine (callsIn_wide.2 (lasts_calls (H := Unit) A0 c0 l0 w hr0 HK.out)).mono ?_; rintro e w1 ⟨rfl, hown, hb1⟩)
  have hsz := hown.size_le
  gi_wp2_with (first
    | (gi_at_call 49; refine (mapsKeysM _ _).mono ?_; rintro e w' ⟨rfl, rfl⟩)
    | (gi_at_call 48; refine (sortedKeysM w.heap.size l0.length (lastsD l0 l0.length) _ w1 hown (by unfold maxLen; omega) (by omega)).mono ?_; rintro e w' ⟨v, ss, rfl, hS, hrow, hnil, hb⟩))
  go_ret
  have hmS : (ss.mergeSort fun x y => decide (x ≤ y)) = (strKeys (lastsD (H := Unit) l0 l0.length)).mergeSort leB := mergeSort_of_perm hS
  have hlen : ss.length = (keysL l0).length := by simp [keysL, hS.length_eq]
  have hrow' : w'.ownsRow w.heap.size 9 1 v (keysL l0).length (encs Value.string (keysL l0)) := by
    have h1 := ownsRow_base_a (base' := w.heap.size) hrow (by have := hb1.size; simp; omega)
    rw [hlen, hmS] at h1
    have e : encs Value.string (keysL l0) = ((strKeys (lastsD (H := Unit) l0 l0.length)).mergeSort leB).map encStr := by simp [encs, keysL, encStr]
    rw [e]
    exact h1
  refine ⟨v, rfl, Kd.R_of_own (h1 := fun _ => rfl) hrow' (fun _ _ => trivial), (hb1.alloc hb1.size _).trans (hb.mono (by have := hb1.size; simp; omega)), ?_, ?_⟩
  · simp only [keysL, List.length_map, List.length_mergeSort, strKeys_len]
    exact hsz
  · intro x hx
    simp only [keysL, List.mem_map, List.mem_mergeSort] at hx
    obtain ⟨b, hb2, rfl⟩ := hx
    exact strKeys_le hown Try.underlying9 b hb2
theorem fold_Keys.calls (A0 : Option Addr) (c0 : Nat) (l0 : List S25) (r : List ByteArray) (w : World) (hr0 : Kd.C k25 w A0 l0.length l0) (hc0 : l0.length ≤ c0) (h : fold_Keys.f l0 = some r) :
    Calls Try.prog 27 #[.slice A0 l0.length c0] w fun e w' => ∃ v0_ : Value, e = .returned (v0_) ∧ Kd.R Kd.string 9 w' w.heap.size (fun _ => True) v0_ r ∧ Below w.heap.size w w' := by
  unfold fold_Keys.f at h
  have hk0 : keysOk l0 = true := by
    by_cases e : keysOk l0 = true
    · exact e
    · rw [if_neg e] at h; cases h
  have hl0 : l0.length < 2932031007402 := by
    by_cases e : l0.length < 2932031007402
    · exact e
    · rw [if_pos hk0, if_neg e] at h; cases h
  rw [if_pos hk0, if_pos hl0] at h
  cases h
  exact (keys_in' A0 c0 l0 w hr0 hk0 hl0).mono fun e w' ⟨v, he, hR, hb, _⟩ => ⟨v, he, hR, hb⟩

/-! ### what is live -/
theorem ownsMap_below {H : Type} {P : Program} {k : TypeId} {R : Value → Option (DataW H × List MemPlace)} {w w1 : World} {b n : Nat} {D : DataW H} (h : w.ownsMap P k R b n D) (hb : Below w.heap.size w w1) : w1.ownsMap P k R b n D := by
  obtain ⟨es, clock, h1, h2⟩ := h
  exact ⟨es, clock, (hb.block b (Array.getElem?_eq_some_iff.1 h1).1).trans h1, h2⟩
/-- The live ones of the first k keys. -/
def liveTo (l : List S25) (ks : List ByteArray) : Nat → List S25
  | 0 => []
  | k + 1 => if (rd_T25 l (lastIx l (ks.getD k ByteArray.empty) l.length)).f0 = true then liveTo l ks k else liveTo l ks k ++ [rd_T25 l (lastIx l (ks.getD k ByteArray.empty) l.length)]
theorem liveTo_length (l : List S25) (ks : List ByteArray) : ∀ k, (liveTo l ks k).length ≤ k
  | 0 => by simp [liveTo]
  | k + 1 => by
    unfold liveTo
    have := liveTo_length l ks k
    split <;> simp <;> omega
def fold_Live.f (l0 : List S25) : Option (List S25) :=
  if keysOk l0 = true then if l0.length < 2932031007402 then some (liveTo l0 (keysL l0) (keysL l0).length) else none else none

set_option maxRecDepth 100000 in
set_option maxHeartbeats 4000000 in
theorem fold_Live.calls (A0 : Option Addr) (c0 : Nat) (l0 : List S25) (r : List S25) (w : World) (hr0 : Kd.C k25 w A0 l0.length l0) (hc0 : l0.length ≤ c0) (h : fold_Live.f l0 = some r) :
    Calls Try.prog 32 #[.slice A0 l0.length c0] w fun e w' => ∃ v0_ : Value, e = .returned (v0_) ∧ Kd.R k25 25 w' w.heap.size (fun _ => True) v0_ r ∧ Below w.heap.size w w' := by
  have hu := Try.underlying25
  have hlen := hr0.2.1
  unfold fold_Live.f at h
  have hk0 : keysOk l0 = true := by
    by_cases e : keysOk l0 = true
    · exact e
    · rw [if_neg e] at h; cases h
  have hl0 : l0.length < 2932031007402 := by
    by_cases e : l0.length < 2932031007402
    · exact e
    · rw [if_pos hk0, if_neg e] at h; cases h
  rw [if_pos hk0, if_pos hl0] at h
  have HR := Aside0.mk (Option.some.inj h)
  clear h
  have HK := Aside0.mk hk0
  clear hk0
  go_enter Try.func32, Try.ntmps32
  go_wp2_with (first
    | (go_at_call 50; refine (lasts_calls (H := Unit) A0 c0 l0 w hr0 HK.out).mono ?_; rintro e w1 ⟨rfl, hown1, hb1⟩)
    | (go_at_call 27; refine (keys_in' A0 c0 l0 w1 (Kd.C_below hr0 hb1) HK.out hl0).mono ?_; rintro e w2 ⟨v, rfl, hR2, hb2, hkl, hks⟩; obtain ⟨A2, c2, rfl, hc2, hC2⟩ := Kd.R_reads hR2))
  have HM2 := Aside0.mk (ownsMap_below hown1 hb2)
  have HB2 := Aside0.mk (below_then hb1 hb1.size hb2)
  have HKS := Aside0.mk hks
  have HKL := Aside0.mk hkl
  have HC0 := Aside0.mk (Kd.C_below (Kd.C_below hr0 hb1) hb2)
  have HC2 := Aside0.mk hC2
  have hkl' := hkl
  clear hown1 hb1 hR2 hb2 hks hkl hC2 hr0 hc2
  obtain ⟨ks, hksd⟩ : ∃ ks, ks = keysL l0 := ⟨_, rfl⟩
  rw [← hksd] at HKS HKL HC2 HR hkl' ⊢
  clear hksd
  go_loopw [4, 13] (fun v4 i wr => ∃ (k : Nat) (iv : Int), k ≤ ks.length ∧ i = .int .i64 iv ∧ Aside0 (iv = (k : Int)) ∧ Aside0 (Kd.R k25 25 wr w2.heap.size (fun _ => True) v4 (liveTo l0 ks k)) ∧ Aside0 (Below w2.heap.size w2 wr))
    (fun _ i _ => ks.length - (intOf i).toNat)
  case atStart => exact ⟨0, 0, Nat.zero_le _, rfl, ⟨rfl⟩, ⟨Kd.R_nil _ _ _ _ _⟩, ⟨Below.refl _ _⟩⟩
  case round =>
    obtain ⟨k, iv, hk, rfl, HI, HO, HB⟩ := hrel
    by_cases hlt : k < ks.length
    · have hge : 0 ≤ iv := by have := HI.out; omega
      have hl2 : iv < (ks.length : Int) := by have := HI.out; omega
      have hpos : 0 < l0.length := by omega
      have keep : ∀ {a : Addr} {v : Value}, w2.cell? a = some v → wr.cell? a = some v := fun {a} {v} h => (HB.out.cell (World.block_lt_of_cell? w2 _ h)).trans h
      obtain ⟨ad2, ck, rfl, hck, hKk, hcell⟩ := ReadsRow.get_ HC2.out ByteArray.empty iv hge hl2
      obtain ⟨key, hkey0⟩ : ∃ key, key = ks.getD iv.toNat ByteArray.empty := ⟨_, rfl⟩
      rw [← hkey0] at hKk
      have hKk' : ck = [.string key] := hKk
      subst hKk'
      have hcz := keep (hcell 0 _ rfl)
      rw [show Kd.string.sz = 1 from rfl, Nat.mul_one, Nat.add_zero] at hcz
      have hkm : key.size ≤ maxLen := by
        rw [hkey0, List.getD_eq_getElem?_getD, List.getElem?_eq_getElem (show iv.toNat < ks.length by omega)]
        exact HKS.out _ (List.getElem_mem _)
      have hkey := keyOf_string_mk Try.underlying9 hkm
      have HKY := Aside0.mk hkey0
      clear hkey0 hcell hKk hck
      obtain ⟨cc, hcc⟩ : ∃ cc, cc = lastIx l0 key l0.length := ⟨_, rfl⟩
      have hcc0 : 0 ≤ cc := by rw [hcc]; exact lastIx_lo _ _ _
      have hcc1 : cc < (l0.length : Int) := by rw [hcc]; exact lastIx_hi _ _ _ hpos
      have HCC := Aside0.mk hcc
      clear hcc
      obtain ⟨ad, rfl, hx0, hx1, hx2, hx3⟩ := at_T25 HC0.out _ hcc0 hcc1
      replace hx0 := keep hx0
      replace hx1 := keep hx1
      replace hx2 := keep hx2
      replace hx3 := keep hx3
      clear keep
      obtain ⟨rc, hrc⟩ : ∃ rc, rc = rd_T25 l0 cc := ⟨_, rfl⟩
      rw [← hrc] at hx0 hx1 hx2 hx3
      have HRC := Aside0.mk hrc
      clear hrc
      have HMr := Aside0.mk (ownsMap_below HM2.out HB.out)
      obtain ⟨W, hW⟩ : ∃ W, W = wr.alloc (.cells #[.bool rc.f0, .int .u64 rc.f1, .string rc.f2, .string rc.f3] 25) := ⟨_, rfl⟩
      clear hW
      by_cases hd : rc.f0 = true
      · have HD := Aside0.mk hd
        rw [hd] at hx0
        clear hd
        go_wp2_with (at_lookup; refine wpList_lookup_own_int _ rfl _ _ 86 rfl 9 3 .i64 lawKey Try.underlying86 Try.underlying3 (zeroInt _) w.heap.size l0.length _ rfl HMr.out _ _ rfl hkey ?_; intro c hat hwc; have hce : c = cc := (atKey_int (hat.symm.trans (lastsD_at l0 key l0.length))).trans HCC.out.symm; clear hat hwc; subst hce)
        go_roundw
        case rel => exact ⟨k + 1, iv + 1, by omega, by go_num, ⟨by have := HI.out; omega⟩, ⟨by
          have e1 : iv.toNat = k := by have := HI.out; omega
          have e2 := HKY.out
          rw [e1] at e2
          show Kd.R _ _ _ _ _ _ (liveTo l0 ks (k + 1))
          unfold liveTo
          rw [← e2, ← HCC.out, ← HRC.out, if_pos HD.out]
          exact Kd.R_below HO.out ((Below.refl _ _).alloc (Nat.le_refl _) _)⟩, ⟨HB.out.alloc HB.out.size _⟩⟩
        case measure => simp [intOf]; omega
      · have hd' : rc.f0 = false := by simpa using hd
        have HD := Aside0.mk hd
        rw [hd'] at hx0
        have HD' := Aside0.mk hd'
        clear hd hd'
        go_wp2_with (first | (at_lookup; refine wpList_lookup_own_int _ rfl _ _ 86 rfl 9 3 .i64 lawKey Try.underlying86 Try.underlying3 (zeroInt _) w.heap.size l0.length _ rfl HMr.out _ _ rfl hkey ?_; intro c hat hwc; have hce : c = cc := (atKey_int (hat.symm.trans (lastsD_at l0 key l0.length))).trans HCC.out.symm; clear hat hwc; subst hce) | (at_builtin; refine Kd.R_append k25 (w0 := w2) w2.heap.size rfl (.tmp 26) (.tmp 28) 22 25 (.agg #[(.bool false), (.int .u64 0), (.string ⟨#[]⟩), (.string ⟨#[]⟩)]) 48 rfl Try.underlying22 info25 rfl (by decide) (by omega) u4 (liveTo l0 ks k) rc [.bool false, .int .u64 rc.f1, .string rc.f2, .string rc.f3] (fun _ => True) (fun _ => False) rfl ?ax ?aP (fun _ hk => hk.elim) ?aF ?aO ?aB ?aS ?aL ?_; (case ax => rw [World.size_alloc]; rfl); (case aP => rw [← HD'.out]; exact k25_mkM _ _ _ rc); (case aF => intro q hq; trivial); (case aO => exact Kd.R_below HO.out ((Below.refl _ _).alloc (Nat.le_refl _) _)); (case aB => exact HB.out.alloc HB.out.size _); (case aS => rw [World.size_alloc]; have := HB.out.size; omega); (case aL => have := liveTo_length l0 ks k; omega); intro v1 w3 HR1 hb1 hg1 hat1; have HO1 := Aside0.mk HR1; have HB1 := Aside0.mk hb1; clear HR1 hb1 hg1 hat1))
        go_roundw
        case rel => exact ⟨k + 1, iv + 1, by omega, by go_num, ⟨by have := HI.out; omega⟩, ⟨by
          have e1 : iv.toNat = k := by have := HI.out; omega
          have e2 := HKY.out
          rw [e1] at e2
          show Kd.R _ _ _ _ _ _ (liveTo l0 ks (k + 1))
          unfold liveTo
          rw [← e2, ← HCC.out, ← HRC.out, if_neg HD.out]
          exact HO1.out⟩, ⟨HB1.out⟩⟩
        case measure => simp [intOf]; omega
    · obtain rfl : k = ks.length := by omega
      obtain rfl : iv = (ks.length : Int) := HI.out
      go_wp2
      go_ret
      exact ⟨_, rfl, by rw [← HR.out]; exact Kd.R_lower HO.out HB2.out.size, below_then HB2.out HB2.out.size HB.out⟩
end Go.Proofs.Ytbcccobbmphaeaa.Q
