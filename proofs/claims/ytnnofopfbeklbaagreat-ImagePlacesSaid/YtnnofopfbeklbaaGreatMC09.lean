/- Texts of this claim's author and of the print of its functions, merged by merge.py. -/
import Derived.Test.YtnnofopfbeklbaaGreatMC02
import Derived.Test.YtnnofopfbeklbaaGreatMC05
import Derived.Test.YtnnofopfbeklbaaGreatMC08
import Derived.Test.YtnnofopfbeklbaaGreatMC07
set_option linter.unusedVariables false
set_option linter.unusedSimpArgs false
section
namespace Go.Proofs.YtnnofopfbeklbaaGreat.C
open Go.RowKit Go.Proofs.YtnnofopfbeklbaaGreatW.PrintWords Go.Proofs.YtnnofopfbeklbaaGreatW.PrintLast Go.Proofs.YtnnofopfbeklbaaGreatW.PrintMore
theorem or128_all : ((List.range 256).all fun a => Go.bits .or .u8 (a : Int) 128 == (a : Int) % 128 + 128) = true := by kernel_rfl
theorem or128 (a : Int) (h0 : 0 ≤ a) (h1 : a < 256) : Go.bits .or .u8 a 128 = a % 128 + 128 := by
 have h := List.all_eq_true.1 or128_all a.toNat (List.mem_range.2 (by omega))
 have e : ((a.toNat : Nat) : Int) = a := by omega
 rw [e] at h
 exact eq_of_beq h
def vput : Nat → Int → List Int
 | 0, x => [x]
 | n + 1, x => if x < 128 then [x] else (x % 128 + 128) :: vput n (x / 128)
theorem Qhc : ∀ (n : Nat) (x : Int), (vput n x).length ≤ n + 1
 | 0, _ => by simp [vput]
 | n + 1, x => by
  unfold vput
  have := Qhc n (x / 128)
  split <;> simp <;> omega
set_option maxRecDepth 100000 in
set_option maxHeartbeats 2000000 in
theorem Qhd (b g : Nat) (x : Int) (xs : List Int) (w : World) (hx0 : 0 ≤ x) (hx1 : x < 18446744073709551616) (hbg : b ≤ g) (hbw : b ≤ w.heap.size) (hI : IsBuf w b g xs) (hl : xs.length + 10 ≤ 140737488355328) :
  Calls Tryz.prog 95 #[.pointer (some ⟨g, 0, none⟩), .int .u64 x] w fun e w' => (∃ v, e = .returned v) ∧ IsBuf w' b g (xs ++ vput 9 x) ∧ Bw b g w w' := by
 have HI := QA hI
 clear hI
 go_enter Tryz.func95, Tryz.ntmps95
 go_wp2
 go_loopw [1] (fun v1 wr => ∃ (k : Nat) (ys : List Int) (xv : Int), k ≤ 9 ∧ ys.length = k ∧ v1 = .int .u64 xv ∧ 0 ≤ xv ∧ xv < 2 ^ (64 - 7 * k) ∧ Aside0 (vput 9 x = ys ++ vput (9 - k) xv) ∧ Aside0 (IsBuf wr b g (xs ++ ys)) ∧ Aside0 (Bw b g w wr))
  (fun v1 _ => (intOf v1).toNat)
 case atStart => exact ⟨0, [], x, by omega, rfl, rfl, hx0, by simpa using hx1, ⟨rfl⟩, ⟨by simpa using HI.out⟩, ⟨Bw.refl _ _ _⟩⟩
 case round =>
  obtain ⟨k, ys, xv, hk, hys, rfl, hx2, hx3, HL, HB, HW⟩ := hrel
  have hx4 : xv < 18446744073709551616 := by
   have : (2 : Int) ^ (64 - 7 * k) ≤ 2 ^ 64 := by exact_mod_cast Nat.pow_le_pow_right (by decide) (by omega)
   omega
  by_cases hlt : 128 ≤ xv
  ·have hk9 : k < 9 := by
    by_cases e : k < 9
    ·exact e
    ·obtain rfl : k = 9 := by omega
     simp at hx3
     omega
   have hor := or128 (xv % 256) (by omega) (by omega)
   have hm : (xv % 256) % 128 = xv % 128 := by omega
   rw [hm] at hor
   have hx5 : xv / 128 < 2 ^ (64 - 7 * (k + 1)) := by
    have e : (2 : Int) ^ (64 - 7 * k) = 2 ^ (64 - 7 * (k + 1)) * 128 := by
     rw [show 64 - 7 * k = (64 - 7 * (k + 1)) + 7 by omega, Int.pow_add]
     rfl
    rw [e] at hx3
    exact Int.ediv_lt_of_lt_mul (by decide) hx3
   have HX5 := QA hx5
   clear hx3 hx5
   go_wp2_with (go_at_call 94; (try rw [hor]); refine (Qgc b g (xv % 128 + 128) (xs ++ ys) _ (by omega) (by omega) hbg (Nat.le_trans hbw HW.out.size) HB.out (by simp; omega)).mono ?_; rintro e w1 ⟨rfl, hd, hb1⟩; have HI1 := QA hd; have HB1 := QA (HW.out.trans hb1); clear hd hb1)
   go_roundw
   case rel => exact ⟨k + 1, ys ++ [xv % 128 + 128], xv / 128, by omega, by simp [hys], by go_num, by omega, HX5.out, ⟨by
    rw [HL.out, show 9 - k = (9 - (k + 1)) + 1 by omega, vput, if_neg (by omega)]; simp⟩, ⟨by rw [← List.append_assoc]; exact HI1.out⟩, ⟨HB1.out⟩⟩
   case measure => simp [intOf]; omega
  ·have hxm : xv % 256 = xv := by omega
   go_wp2_with (go_at_call 94; (try rw [hxm]); refine (Qgc b g xv (xs ++ ys) _ (by omega) (by omega) hbg (Nat.le_trans hbw HW.out.size) HB.out (by simp; omega)).mono ?_; rintro e w1 ⟨rfl, hd, hb1⟩; have HI1 := QA hd; have HB1 := QA (HW.out.trans hb1); clear hd hb1)
   go_end0
   refine ⟨⟨_, rfl⟩, ?_, HB1.out⟩
   have e : vput (9 - k) xv = [xv] := by
    cases h : 9 - k with
    | zero => rfl
    | succ m => rw [vput, if_pos (by omega)]
   rw [HL.out, e, ← List.append_assoc]
   exact HI1.out
theorem bytes_C (W : World) (s : ByteArray) (hs : s.size ≤ 9223372036854775807) : Kd.C (Kd.int .u8) (Lib.bytesWorld W 5 s) (some ⟨W.heap.size, 0, none⟩) s.size (bytesOf s) :=
 Kd.C_of_reads (d := (0 : Int)) (bytes_reads W 5 s hs)
set_option maxRecDepth 100000 in
set_option maxHeartbeats 2000000 in
theorem Qhe (b g : Nat) (s : ByteArray) (xs : List Int) (w : World) (hs : s.size ≤ 70368744177664) (hbg : b ≤ g) (hbw : b ≤ w.heap.size) (hI : IsBuf w b g xs) (hl : xs.length + s.size + 10 ≤ 140737488355328) :
  Calls Tryz.prog 153 #[.pointer (some ⟨g, 0, none⟩), .string s] w fun e w' => (∃ v, e = .returned v) ∧ IsBuf w' b g (xs ++ (vput 9 s.size ++ bytesOf s)) ∧ Bw b g w w' := by
 have hvl := Qhc 9 s.size
 have kb := fun W => Qco (P := Tryz.prog) 9 52 5 Tryz.underlying9 Tryz.underlying52 Tryz.underlying5 s W
 go_enter Tryz.func153, Tryz.ntmps153
 go_wp2_with (first | (go_at_call 95; refine (Qhd b g s.size xs w (by omega) (by omega) hbg hbw hI (by omega)).mono ?_; rintro e w1 ⟨⟨_, rfl⟩, hd, hb1⟩) | (go_at_call 150; refine (buf_Raw' b g _ _ s.size (bytesOf s) (xs ++ vput 9 s.size) (Lib.bytesWorld w1 5 s) (Qcm s).symm (bytes_C w1 s (by omega)) hbg (by rw [Lib.bytesWorld_size]; have := hb1.size; omega) (hd.kept (Qcp (Below.refl _ _) (Nat.le_refl _) _ _)) (by simp; omega)).mono ?_; rintro e w2 ⟨rfl, hd2, hb2⟩))
 go_end0
 refine ⟨⟨_, rfl⟩, by rw [← List.append_assoc]; exact hd2, hb1.trans ((Bw.below (Qcp (Below.refl _ _) (Nat.le_refl _) _ _) (by have := hb1.size; omega)).trans hb2)⟩
theorem rd_mem {l : List Int} {i : Int} (h0 : 0 ≤ i) (h1 : i < l.length) : rd l i ∈ l := by
 have h : i.toNat < l.length := by omega
 unfold rd
 rw [List.getD_eq_getElem?_getD, List.getElem?_eq_getElem h]
 exact List.getElem_mem h
theorem take_rd {l : List Int} {k : Nat} (h : k < l.length) : l.take (k + 1) = l.take k ++ [rd l (k : Int)] := by
 unfold rd
 rw [List.take_add_one, List.getElem?_eq_getElem h, List.getD_eq_getElem?_getD]
 simp [List.getElem?_eq_getElem h]
theorem Qhf (l : List Int) : (l.flatMap (fun x => leb x 8)).length = 8 * l.length := by
 induction l with
 | nil => rfl
 | cons a l ih => simp [Qfz, ih]; omega
set_option maxRecDepth 100000 in
set_option maxHeartbeats 2000000 in
theorem fence_Put_buf (b g : Nat) (A0 : Option Addr) (c0 : Nat) (l : List Int) (xs : List Int) (w : World) (hr0 : ∀ W', Bw b g w W' → Kd.C (Kd.int .u64) W' A0 l.length l) (hwf : ∀ x ∈ l, 0 ≤ x ∧ x < 18446744073709551616) (hbg : b ≤ g) (hbw : b ≤ w.heap.size) (hI : IsBuf w b g xs) (hl : xs.length + 8 * l.length ≤ 140737488355328) :
  Calls Tryz.prog 114 #[.pointer (some ⟨g, 0, none⟩), .slice A0 l.length c0] w fun e w' => (∃ v, e = .returned v) ∧ IsBuf w' b g (xs ++ l.flatMap (fun x => leb x 8)) ∧ Bw b g w w' := by
 have HI := QA hI
 clear hI
 go_enter Tryz.func114, Tryz.ntmps114
 go_wp2
 go_loopw [8] (fun i wr => ∃ (k : Nat) (iv : Int), k ≤ l.length ∧ i = .int .i64 iv ∧ Aside0 (iv = (k : Int)) ∧ Aside0 (IsBuf wr b g (xs ++ (l.take k).flatMap (fun x => leb x 8))) ∧ Aside0 (Bw b g w wr))
  (fun i _ => l.length - (intOf i).toNat)
 case atStart => exact ⟨0, 0, Nat.zero_le _, rfl, ⟨rfl⟩, ⟨by simpa using HI.out⟩, ⟨Bw.refl _ _ _⟩⟩
 case round =>
  obtain ⟨k, iv, hk, rfl, HK, HB, HW⟩ := hrel
  by_cases hlt : k < l.length
  ·have hge : 0 ≤ iv := by have := HK.out; omega
   have hl2 : iv < (l.length : Int) := by have := HK.out; omega
   obtain ⟨ad, rfl, hx0⟩ := Kd.at_int (hr0 wr HW.out) iv hge hl2
   obtain ⟨x, hx⟩ : ∃ x, x = rd l iv := ⟨_, rfl⟩
   rw [← hx] at hx0
   have hxr : 0 ≤ x ∧ x < 18446744073709551616 := by rw [hx]; exact hwf _ (rd_mem hge hl2)
   have HX := QA hx
   clear hx
   have hlen := QA (show (xs ++ (l.take k).flatMap (fun x => leb x 8)).length + 8 ≤ 140737488355328 by rw [List.length_append, Qhf, List.length_take]; omega)
   go_wp2_with (go_at_call 151; refine (Qgd b g x (xs ++ (l.take k).flatMap (fun x => leb x 8)) _ hxr.1 hxr.2 hbg (Nat.le_trans hbw HW.out.size) HB.out hlen.out).mono ?_; rintro e w1 ⟨rfl, hd, hb1⟩; have HI1 := QA hd; have HB1 := QA (HW.out.trans hb1); clear hd hb1)
   go_roundw
   case rel => exact ⟨k + 1, iv + 1, by omega, by go_num, ⟨by have := HK.out; omega⟩, ⟨by
    have e1 : iv = (k : Int) := HK.out
    rw [take_rd hlt, List.flatMap_append, ← List.append_assoc, ← e1, ← HX.out]
    simpa using HI1.out⟩, ⟨HB1.out⟩⟩
   case measure => simp [intOf]; omega
  ·obtain rfl : k = l.length := by omega
   obtain rfl : iv = (l.length : Int) := HK.out
   go_wp2
   go_end0
   refine ⟨⟨_, rfl⟩, ?_, HW.out⟩
   simpa using HB.out
def ent (x : S117) : List Int := leb x.f0 8 ++ leb x.f1 4
theorem take_rdT {l : List S117} {k : Nat} (h : k < l.length) : l.take (k + 1) = l.take k ++ [Qfw l (k : Int)] := by
 unfold Qfw
 rw [List.take_add_one, List.getElem?_eq_getElem h, List.getD_eq_getElem?_getD]
 simp [List.getElem?_eq_getElem h]
theorem rdT_mem {l : List S117} {i : Int} (h0 : 0 ≤ i) (h1 : i < l.length) : Qfw l i ∈ l := by
 have h : i.toNat < l.length := by omega
 unfold Qfw
 rw [List.getD_eq_getElem?_getD, List.getElem?_eq_getElem h]
 exact List.getElem_mem h
theorem Qhg (l : List S117) : (l.flatMap ent).length = 12 * l.length := by
 induction l with
 | nil => rfl
 | cons a l ih => simp [ent, Qfz, ih]; omega
set_option maxRecDepth 100000 in
set_option maxHeartbeats 2000000 in
theorem table_Put_buf (b g : Nat) (A0 : Option Addr) (c0 : Nat) (l : List S117) (xs : List Int) (w : World) (hr0 : ∀ W', Bw b g w W' → Kd.C k117 W' A0 l.length l) (hwf : ∀ x ∈ l, (0 ≤ x.f0 ∧ x.f0 < 18446744073709551616) ∧ 0 ≤ x.f1 ∧ x.f1 < 4294967296) (hbg : b ≤ g) (hbw : b ≤ w.heap.size) (hI : IsBuf w b g xs) (hl : xs.length + 12 * l.length ≤ 140737488355328) :
  Calls Tryz.prog 113 #[.pointer (some ⟨g, 0, none⟩), .slice A0 l.length c0] w fun e w' => (∃ v, e = .returned v) ∧ IsBuf w' b g (xs ++ l.flatMap ent) ∧ Bw b g w w' := by
 have hu := Tryz.underlying117
 have HI := QA hI
 clear hI
 go_enter Tryz.func113, Tryz.ntmps113
 go_wp2
 go_loopw [8] (fun i wr => ∃ (k : Nat) (iv : Int), k ≤ l.length ∧ i = .int .i64 iv ∧ Aside0 (iv = (k : Int)) ∧ Aside0 (IsBuf wr b g (xs ++ (l.take k).flatMap ent)) ∧ Aside0 (Bw b g w wr))
  (fun i _ => l.length - (intOf i).toNat)
 case atStart => exact ⟨0, 0, Nat.zero_le _, rfl, ⟨rfl⟩, ⟨by simpa using HI.out⟩, ⟨Bw.refl _ _ _⟩⟩
 case round =>
  obtain ⟨k, iv, hk, rfl, HK, HB, HW⟩ := hrel
  by_cases hlt : k < l.length
  ·have hge : 0 ≤ iv := by have := HK.out; omega
   have hl2 : iv < (l.length : Int) := by have := HK.out; omega
   obtain ⟨ad, rfl, hx0, hx1⟩ := Qfx (hr0 wr HW.out) iv hge hl2
   obtain ⟨x, hx⟩ : ∃ x, x = Qfw l iv := ⟨_, rfl⟩
   rw [← hx] at hx0 hx1
   have hxr := hwf x (by rw [hx]; exact rdT_mem hge hl2)
   have HX := QA hx
   clear hx
   have hlen := QA (show (xs ++ (l.take k).flatMap ent).length + 12 ≤ 140737488355328 by rw [List.length_append, Qhg, List.length_take]; omega)
   go_upto_region 3 with fail
   obtain ⟨B, hBe⟩ : ∃ B, B = wr.heap.size := ⟨_, rfl⟩
   obtain ⟨W, hW⟩ : ∃ W, W = wr.alloc (.cells #[.int .u64 x.f0, .int .u32 x.f1] 117) := ⟨_, rfl⟩
   have hBlk : W.heap[B]? = some (.cells #[.int .u64 x.f0, .int .u32 x.f1] 117 (0, 0)) := by rw [hW, hBe]; exact Qdh wr _
   have hIB : IsBuf W b g (xs ++ (l.take k).flatMap ent) := by rw [hW]; exact HB.out.kept (Qcc (Below.refl _ _) _)
   have hBW : Bw b g w W := by rw [hW]; exact HW.out.trans (Bw.below (Qcc (Below.refl _ _) _) (Nat.le_trans hbw HW.out.size))
   have hgB : B ≠ g := by have := HB.out.lt; omega
   rw [← hW, ← hBe]
   clear hW hBe hx0 hx1
   have d0 : Below W.heap.size W W.drew := Qcd (Below.refl _ _)
   have hBlk1 := Qdg hBlk d0
   have hIB1 := hIB.kept d0
   have hBW1 : Bw b g w W.drew := hBW.trans (Bw.below d0 (Nat.le_trans hbw hBW.size))
   have c0 : W.drew.cell? ⟨B, 0, none⟩ = some (.int .u64 x.f0) := (Qcx hBlk1 0).trans rfl
   have c1 : W.drew.cell? ⟨B, 1, none⟩ = some (.int .u32 x.f1) := (Qcx hBlk1 1).trans rfl
   have hs1 : b ≤ W.drew.heap.size := Nat.le_trans hbw hBW1.size
   go_region_held3 (fun w' => w'.cell? ⟨B, 0, none⟩ = some (.int .u64 x.f0) ∧ w'.cell? ⟨B, 1, none⟩ = some (.int .u32 x.f1)) (first | exact ⟨c0, c1⟩ | exact ⟨c2, c3⟩ | exact ⟨c4, c5⟩) (first | (go_at_call 151; refine (Qgd b g x.f0 (xs ++ (l.take k).flatMap ent) W.drew hxr.1.1 hxr.1.2 hbg hs1 hIB1 (by have := hlen.out; omega)).mono ?_; rintro e w2 ⟨rfl, hI2, hb2⟩; have hBlk2 := hb2.2 _ _ _ hBlk1 (by decide) hgB; have c2 : w2.cell? ⟨B, 0, none⟩ = some (.int .u64 x.f0) := (Qcx hBlk2 0).trans rfl; have c3 : w2.cell? ⟨B, 1, none⟩ = some (.int .u32 x.f1) := (Qcx hBlk2 1).trans rfl) | (go_at_call 112; refine (buf_Four b g x.f1 (xs ++ (l.take k).flatMap ent ++ leb x.f0 8) w2 hxr.2.1 hxr.2.2 hbg (Nat.le_trans hs1 hb2.size) hI2 (by have := hlen.out; simp [Qfz] at this ⊢; omega)).mono ?_; rintro e w3 ⟨rfl, hI3, hb3⟩; have hBlk3 := hb3.2 _ _ _ hBlk2 (by decide) hgB; have c4 : w3.cell? ⟨B, 0, none⟩ = some (.int .u64 x.f0) := (Qcx hBlk3 0).trans rfl; have c5 : w3.cell? ⟨B, 1, none⟩ = some (.int .u32 x.f1) := (Qcx hBlk3 1).trans rfl))
   have HI3 := QA hI3
   have HB3 := QA (hBW1.trans (hb2.trans hb3))
   clear hI3 hI2 hb2 hb3 c0 c1 c2 c3 c4 c5 hBlk hBlk1 hBlk2 hBlk3 hIB hIB1 hBW hBW1
   go_wp2
   go_roundw
   case rel => exact ⟨k + 1, iv + 1, by omega, by go_num, ⟨by have := HK.out; omega⟩, ⟨by
    have e1 : iv = (k : Int) := HK.out
    rw [take_rdT hlt, List.flatMap_append, ← List.append_assoc, ← e1, ← HX.out]
    simpa [ent] using HI3.out⟩, ⟨HB3.out⟩⟩
   case measure => simp [intOf]; omega
  ·obtain rfl : k = l.length := by omega
   obtain rfl : iv = (l.length : Int) := HK.out
   go_wp2
   go_end0
   refine ⟨⟨_, rfl⟩, ?_, HW.out⟩
   simpa using HB.out
def chk (d : Bool) (key v : ByteArray) : Int := if key.toList = ([] : List UInt8) then 4 else if (key.size : Int) > 4096 then 3 else if (d && (v.toList != ([] : List UInt8))) = true then 4 else if (v.size : Int) > 1048576 then 3 else 0
theorem chk_is (d : Bool) (s : Int) (key v : ByteArray) : Qbw.f 1 d s key v = some (chk d key v) := by
 unfold Qbw.f chk
 split
 ·rfl
 split
 ·rfl
 cases d
 ·simp only [Bool.false_eq_true, if_false, Bool.false_and, Qbw.j0]
  split <;> rfl
 ·simp only [if_true, Bool.true_and, Qbw.j0]
  split
  ·rfl
  ·split <;> rfl
theorem Qhh {d : Bool} {key v : ByteArray} (h : chk d key v = 0) : key.size ≤ 4096 ∧ v.size ≤ 1048576 := by
 unfold chk at h
 repeat' split at h
 all_goals first | omega | skip
def Qhi (d : Bool) (s : Int) (key v : ByteArray) : List Int := [if d then 3 else 2] ++ vput 9 s ++ (vput 9 key.size ++ bytesOf key) ++ (if d then [] else vput 9 v.size ++ bytesOf v)
def Qbv.f (a0_0 : Bool) (a0_1 : Int) (a0_2 : ByteArray) (a0_3 : ByteArray) : Option (List Int × Int) :=
 if 0 ≤ a0_1 then if a0_1 < 18446744073709551616 then some (if chk a0_0 a0_2 a0_3 = 0 then (Qhi a0_0 a0_1 a0_2 a0_3, 0) else ([], chk a0_0 a0_2 a0_3)) else none else none
theorem IsBuf.new (w : World) (b : Nat) : IsBuf (w.alloc (.cells #[.slice none 0 0] 167)) b w.heap.size [] := ⟨_, Qdh w _, Kd.R_nil _ _ _ _ _⟩
theorem box4 {W : World} {B : Nat} {d : Bool} {s : Int} {key v : ByteArray} (h : W.heap[B]? = some (.cells #[.bool d, .int .u64 s, .string key, .string v] 39 (0, 0))) :
  W.cell? ⟨B, 0, none⟩ = some (.bool d) ∧ W.cell? ⟨B, 1, none⟩ = some (.int .u64 s) ∧ W.cell? ⟨B, 2, none⟩ = some (.string key) ∧ W.cell? ⟨B, 3, none⟩ = some (.string v) :=
 ⟨(Qcx h 0).trans rfl, (Qcx h 1).trans rfl, (Qcx h 2).trans rfl, (Qcx h 3).trans rfl⟩
set_option maxRecDepth 100000 in
set_option maxHeartbeats 4000000 in
theorem body_of (d : Bool) (s : Int) (key v : ByteArray) (w : World) (hs0 : 0 ≤ s) (hs1 : s < 18446744073709551616) (hc : chk d key v = 0) :
  Calls Tryz.prog 99 #[.agg #[.bool d, .int .u64 s, .string key, .string v]] w fun e w' => ∃ v0_ : Value, e = .returned (.tuple #[v0_, .int .i64 0]) ∧ R8 w' w.heap.size v0_ (Qhi d s key v) ∧ Below w.heap.size w w' := by
 have hu := Tryz.underlying39
 obtain ⟨hk, hv⟩ := Qhh hc
 have hl1 := Qhc 9 s
 have hl2 := Qhc 9 key.size
 have hl3 := Qhc 9 v.size
 have hkl := Qcm key
 have hvl := Qcm v
 have hcheck := chk_is d s key v
 rw [hc] at hcheck
 have HC := QA hcheck
 clear hcheck hc
 have hba : Below w.heap.size w (w.alloc (.cells #[.bool d, .int .u64 s, .string key, .string v] 39)) := Qcc (Below.refl _ _) _
 have hbn := Qdh w (.cells #[.bool d, .int .u64 s, .string key, .string v] 39)
 cases d
 all_goals
  go_enter Tryz.func99, Tryz.ntmps99
  go_wp2_with (first
   | (go_at_call 56; refine (Qbw.calls 1 _ s key v 0 _ HC.out).mono ?_; rintro e w1 ⟨rfl, hb1⟩; have hk1 := Qdg hbn hb1; obtain ⟨c0, c1, c2, c3⟩ := box4 hk1; have hw1 := QA (Qcf hba hba.size hb1); have hs1' := QA (show w.heap.size < w1.heap.size from Qcw hk1); have HI1 := QA (IsBuf.new w1 w.heap.size); have hk1' := Qdd hk1 (.cells #[.slice none 0 0] 167); obtain ⟨c0', c1', c2', c3'⟩ := box4 hk1'; clear hk1 hb1 hbn hba)
   | (go_at_call 94; refine (Qgc w.heap.size w1.heap.size _ [] _ (by decide) (by decide) (Nat.le_of_lt hs1'.out) (by rw [World.size_alloc]; have := hs1'.out; omega) HI1.out (by simp)).mono ?_; rintro e w2 ⟨rfl, hI2, hb2⟩; have hk2 := hb2.2 _ _ _ hk1' (by decide) (Nat.ne_of_lt hs1'.out); obtain ⟨d0, d1, d2, d3⟩ := box4 hk2; have HI2 := QA hI2; have hs2 := QA hb2.size; clear hI2 c0 c1 c2 c3 c0' c1' c2' c3')
   | (go_at_call 95; refine (Qhd w.heap.size w1.heap.size s _ _ hs0 hs1 (Nat.le_of_lt hs1'.out) (by have := hs1'.out; have := hs2.out; simp at this; omega) HI2.out (by simp)).mono ?_; rintro e w3 ⟨⟨_, rfl⟩, hI3, hb3⟩; have hk3 := hb3.2 _ _ _ hk2 (by decide) (Nat.ne_of_lt hs1'.out); obtain ⟨e0, e1, e2, e3⟩ := box4 hk3; have HI3 := QA hI3; have hs3 := QA (Nat.le_trans hs2.out hb3.size); clear hI3 d0 d1 d2 d3)
   | (go_at_call_of 153 key; refine (Qhe w.heap.size w1.heap.size key _ _ (by omega) (Nat.le_of_lt hs1'.out) (by have := hs1'.out; have := hs3.out; simp at this; omega) HI3.out (by simp; omega)).mono ?_; rintro e w4 ⟨⟨_, rfl⟩, hI4, hb4⟩; have hk4 := hb4.2 _ _ _ hk3 (by decide) (Nat.ne_of_lt hs1'.out); obtain ⟨f0, f1, f2, f3⟩ := box4 hk4; have HI4 := QA hI4; have hs4 := QA (Nat.le_trans hs3.out hb4.size); clear hI4 e0 e1 e2 e3)
   | (go_at_call_of 153 v; refine (Qhe w.heap.size w1.heap.size v _ _ (by omega) (Nat.le_of_lt hs1'.out) (by have := hs1'.out; have := hs4.out; simp at this; omega) HI4.out (by simp; omega)).mono ?_; rintro e w5 ⟨⟨_, rfl⟩, hI5, hb5⟩; have HI5 := QA hI5; have hs5 := QA (Nat.le_trans hs4.out hb5.size))
   | (go_at_call 97; first | (refine (Qge w.heap.size w1.heap.size _ _ HI5.out (by simp; omega)).mono ?_; rintro e w6 ⟨vv, rfl, hR6, hb6⟩) | (refine (Qge w.heap.size w1.heap.size _ _ HI4.out (by simp; omega)).mono ?_; rintro e w6 ⟨vv, rfl, hR6, hb6⟩)))
 ·refine bodyPost_ret (results_tmp2 rfl _ _ _) rfl ?_
  have hsz := hs5.out
  simp at hsz
  have := hs1'.out
  refine ⟨vv, rfl, ?_, (((((hw1.out.trans (Qgb (Qcc (Below.refl _ _) _) (Nat.le_of_lt hs1'.out))).trans hb2.1).trans hb3.1).trans hb4.1).trans hb5.1).trans (Qgb hb6 (by omega))⟩
  have e : Qhi false s key v = [] ++ [2] ++ vput 9 s ++ (vput 9 key.size ++ bytesOf key) ++ (vput 9 v.size ++ bytesOf v) := by simp [Qhi]
  rw [e]
  exact hR6.low (by omega)
 ·refine bodyPost_ret (results_tmp2 rfl _ _ _) rfl ?_
  have hsz := hs4.out
  simp at hsz
  have := hs1'.out
  refine ⟨vv, rfl, ?_, ((((hw1.out.trans (Qgb (Qcc (Below.refl _ _) _) (Nat.le_of_lt hs1'.out))).trans hb2.1).trans hb3.1).trans hb4.1).trans (Qgb hb6 (by omega))⟩
  have e : Qhi true s key v = [] ++ [3] ++ vput 9 s ++ (vput 9 key.size ++ bytesOf key) := by simp [Qhi]
  rw [e]
  exact hR6.low (by omega)
set_option maxRecDepth 100000 in
set_option maxHeartbeats 1000000 in
theorem body_not (d : Bool) (s : Int) (key v : ByteArray) (w : World) (c : Int) (hc : chk d key v = c) (hn : c ≠ 0) :
  Calls Tryz.prog 99 #[.agg #[.bool d, .int .u64 s, .string key, .string v]] w fun e w' => ∃ v0_ : Value, e = .returned (.tuple #[v0_, .int .i64 c]) ∧ R8 w' w.heap.size v0_ [] ∧ Below w.heap.size w w' := by
 have hu := Tryz.underlying39
 have hcheck := chk_is d s key v
 rw [hc] at hcheck
 have HC := QA hcheck
 have hn1 : (c == 0) = false := by simpa using hn
 have hn2 : (c != 0) = true := by simpa using hn
 clear hcheck hc
 have hba : Below w.heap.size w (w.alloc (.cells #[.bool d, .int .u64 s, .string key, .string v] 39)) := Qcc (Below.refl _ _) _
 go_enter Tryz.func99, Tryz.ntmps99
 go_wp2_with (go_at_call 56; refine (Qbw.calls 1 _ s key v c _ HC.out).mono ?_; rintro e w1 ⟨rfl, hb1⟩)
 refine bodyPost_ret (results_tmp2 rfl _ _ _) rfl ?_
 exact ⟨_, rfl, Kd.R_nil _ _ _ _ _, Qcf hba hba.size hb1⟩
theorem Qbv.calls (a0_0 : Bool) (a0_1 : Int) (a0_2 : ByteArray) (a0_3 : ByteArray) (r1 : List Int) (r2 : Int) (w : World) (h : Qbv.f a0_0 a0_1 a0_2 a0_3 = some (r1, r2)) :
  Calls Tryz.prog 99 #[.agg #[.bool a0_0, .int .u64 a0_1, .string a0_2, .string a0_3]] w fun e w' => ∃ v0_ : Value, e = .returned (.tuple #[v0_, .int .i64 r2]) ∧ Kd.R (Kd.int .u8) 5 w' w.heap.size (fun _ => True) v0_ r1 ∧ Below w.heap.size w w' := by
 unfold Qbv.f at h
 by_cases h0 : 0 ≤ a0_1
 ·by_cases h1 : a0_1 < 18446744073709551616
  ·rw [if_pos h0, if_pos h1] at h
   by_cases h2 : chk a0_0 a0_2 a0_3 = 0
   ·rw [if_pos h2] at h
    cases h
    exact body_of _ _ _ _ w h0 h1 h2
   ·rw [if_neg h2] at h
    cases h
    exact body_not _ _ _ _ w _ rfl h2
  ·rw [if_pos h0, if_neg h1] at h; cases h
 ·rw [if_neg h0] at h; cases h
end Go.Proofs.YtnnofopfbeklbaaGreat.C
end
section
namespace Go.Proofs.YtnnofopfbeklbaaGreat.C
open Go.RowKit Go.Proofs.YtnnofopfbeklbaaGreatW.PrintWords Go.Proofs.YtnnofopfbeklbaaGreatW.PrintLast Go.Proofs.YtnnofopfbeklbaaGreatW.PrintMore
attribute [local go_sem] Qfg Qfh Qfi Qfj Qfk Qfl Qfm Qfn
def Qbk.f (a0_0 : Int) (a0_1 : Int) (a1 : Int) : Option (Int) := (Qak.f a0_0 a0_1).bind fun t105 => (if t105 = 0 then (if a1 ≥ a0_1 then (some 1) else (some 0)) else (some 1))
set_option maxHeartbeats 8000000 in
set_option maxRecDepth 100000 in
theorem Qbk.calls (a0_0 : Int) (a0_1 : Int) (a1 : Int) (r : Int) (w : World) (h : Qbk.f a0_0 a0_1 a1 = some r) :
  Calls Tryz.prog 93 #[.agg #[.int .u8 a0_0, .int .u32 a0_1], .int .u32 a1] w fun e w' => e = .returned (.int .i64 r) ∧ Below w.heap.size w w' := by
 have hu27 := Tryz.underlying27
 have HB := QA (Below.refl w.heap.size w)
 have H : ((Qak.f a0_0 a0_1).bind fun t105 => (if t105 = 0 then (if a1 ≥ a0_1 then (some 1) else (some 0)) else (some 1))) = some r := h
 clear h
 replace H := Option.bind_eq_some_iff.mp H
 obtain ⟨t105, A30, H⟩ := H
 replace H : (if t105 = 0 then (if a1 ≥ a0_1 then (some 1) else (some 0)) else (some 1)) = some r := H
 have A3 := QA A30
 clear A30
 by_cases c4 : t105 = 0
 ·rw [if_pos c4] at H
  have c4b0 : (t105 == 0) = true := beq_iff_eq.mpr c4
  have c4b1 : (t105 != 0) = false := bne_eq_false_iff_eq.mpr c4
  clear c4
  by_cases c5 : a1 ≥ a0_1
  ·rw [if_pos c5] at H
   have c5b0 : decide (a0_1 ≤ a1) = true := decide_eq_true c5
   clear c5
   obtain rfl := Option.some.inj H
   go_enter Tryz.func93, Tryz.ntmps93
   go_wp2_with (first | ((with_reducible refine Qdw (N := 2) rfl ?_); refine Qdv ?hg (N := 2) ?hd (cs := #[.int .u8 a0_0, .int .u32 a0_1]) (t := 27) ?hr ?_; (case hd => rfl); (case hg => rfl); (case hr => first | (go_simp; done) | (go_simp; rfl)); intro gb104 hg w6 hbox hb; have n0_ := QA (Qdo (by repeat (first | (with_reducible first | exact HB.out | apply Qcc | apply Qce | apply Qdt) | exact HB.out)) hb); have n1_ := QA (hbox); have n2_ := QA ((by rw [hg]; exact (Qdn (by repeat (first | (with_reducible first | exact HB.out | apply Qcc | apply Qce | apply Qdt) | exact HB.out))) : w.heap.size ≤ gb104)); have n3_ := QA ((by rw [hg]; exact (Qdn (by repeat (first | (with_reducible first | exact HB.out | apply Qcc | apply Qce | apply Qdt) | exact HB.out))) : w.heap.size ≤ gb104)); clear HB; have HB := n0_; have BK104 := n1_; have GW104 := n2_; have GE104 := n3_; clear n0_ n1_ n2_ n3_; clear hb hbox hg; have hcz7_0 : w6.cell? ⟨gb104, 0, none⟩ = some (.int .u8 a0_0) := (Qcx BK104.out 0).trans rfl; have hcz7_1 : w6.cell? ⟨gb104, 1, none⟩ = some (.int .u32 a0_1) := (Qcx BK104.out 1).trans rfl; have hfz7_0 := Qcy BK104.out 0; have hfz7_1 := Qcy BK104.out 1) | ((with_reducible refine Qfo (f := 85) rfl ?_); refine Qej (some 6) rfl rfl Tryz.func85 (by kernel_rfl) rfl #[.agg #[.int .u8 a0_0, .int .u32 a0_1]] rfl (by (try simp only [List.map_toArray, List.map_cons, List.map_nil]); first | done | rfl | (simp only [List.length_drop, List.length_take]; rfl)) ?_; (with_reducible refine (Qak.calls a0_0 a0_1 t105 _ A3.out).mono ?_); rintro e w8 ⟨rfl, hb⟩; refine ⟨_, rfl, ?_⟩; have n0_ := QA (Qdg (g := gb104) (o := .cells #[.int .u8 a0_0, .int .u32 a0_1] 27 (0, 0)) (by (with_reducible repeat (first | apply Qdf | apply Qde | apply Qdd)); exact BK104.out) hb); have n1_ := QA (Qdo (by repeat (first | (with_reducible first | exact HB.out | apply Qcc | apply Qce | apply Qdt | refine Qdp ?_ GE104.out) | exact HB.out)) hb); clear BK104; clear HB; have BK104 := n0_; have HB := n1_; clear n0_ n1_; (try clear hb); (try clear hb2); (try clear hk); (try clear hi); have hcz9_0 : w8.cell? ⟨gb104, 0, none⟩ = some (.int .u8 a0_0) := (Qcx BK104.out 0).trans rfl; have hcz9_1 : w8.cell? ⟨gb104, 1, none⟩ = some (.int .u32 a0_1) := (Qcx BK104.out 1).trans rfl; have hfz9_0 := Qcy BK104.out 0; have hfz9_1 := Qcy BK104.out 1))
   go_ret
   exact ⟨by first | rfl | (simp [Qfr, Qfs] <;> rfl) | (simp [*, Qfr, Qfs] <;> rfl), by repeat (first | (with_reducible first | exact HB.out | apply Qcc | apply Qce | apply Qdt | refine Qdp ?_ GE104.out) | exact HB.out)⟩
  ·rw [if_neg c5] at H
   have c5b0 : decide (a0_1 ≤ a1) = false := decide_eq_false c5
   clear c5
   obtain rfl := Option.some.inj H
   go_enter Tryz.func93, Tryz.ntmps93
   go_wp2_with (first | ((with_reducible refine Qdw (N := 2) rfl ?_); refine Qdv ?hg (N := 2) ?hd (cs := #[.int .u8 a0_0, .int .u32 a0_1]) (t := 27) ?hr ?_; (case hd => rfl); (case hg => rfl); (case hr => first | (go_simp; done) | (go_simp; rfl)); intro gb104 hg w10 hbox hb; have n0_ := QA (Qdo (by repeat (first | (with_reducible first | exact HB.out | apply Qcc | apply Qce | apply Qdt) | exact HB.out)) hb); have n1_ := QA (hbox); have n2_ := QA ((by rw [hg]; exact (Qdn (by repeat (first | (with_reducible first | exact HB.out | apply Qcc | apply Qce | apply Qdt) | exact HB.out))) : w.heap.size ≤ gb104)); have n3_ := QA ((by rw [hg]; exact (Qdn (by repeat (first | (with_reducible first | exact HB.out | apply Qcc | apply Qce | apply Qdt) | exact HB.out))) : w.heap.size ≤ gb104)); clear HB; have HB := n0_; have BK104 := n1_; have GW104 := n2_; have GE104 := n3_; clear n0_ n1_ n2_ n3_; clear hb hbox hg; have hcz11_0 : w10.cell? ⟨gb104, 0, none⟩ = some (.int .u8 a0_0) := (Qcx BK104.out 0).trans rfl; have hcz11_1 : w10.cell? ⟨gb104, 1, none⟩ = some (.int .u32 a0_1) := (Qcx BK104.out 1).trans rfl; have hfz11_0 := Qcy BK104.out 0; have hfz11_1 := Qcy BK104.out 1) | ((with_reducible refine Qfo (f := 85) rfl ?_); refine Qej (some 6) rfl rfl Tryz.func85 (by kernel_rfl) rfl #[.agg #[.int .u8 a0_0, .int .u32 a0_1]] rfl (by (try simp only [List.map_toArray, List.map_cons, List.map_nil]); first | done | rfl | (simp only [List.length_drop, List.length_take]; rfl)) ?_; (with_reducible refine (Qak.calls a0_0 a0_1 t105 _ A3.out).mono ?_); rintro e w12 ⟨rfl, hb⟩; refine ⟨_, rfl, ?_⟩; have n0_ := QA (Qdg (g := gb104) (o := .cells #[.int .u8 a0_0, .int .u32 a0_1] 27 (0, 0)) (by (with_reducible repeat (first | apply Qdf | apply Qde | apply Qdd)); exact BK104.out) hb); have n1_ := QA (Qdo (by repeat (first | (with_reducible first | exact HB.out | apply Qcc | apply Qce | apply Qdt | refine Qdp ?_ GE104.out) | exact HB.out)) hb); clear BK104; clear HB; have BK104 := n0_; have HB := n1_; clear n0_ n1_; (try clear hb); (try clear hb2); (try clear hk); (try clear hi); have hcz13_0 : w12.cell? ⟨gb104, 0, none⟩ = some (.int .u8 a0_0) := (Qcx BK104.out 0).trans rfl; have hcz13_1 : w12.cell? ⟨gb104, 1, none⟩ = some (.int .u32 a0_1) := (Qcx BK104.out 1).trans rfl; have hfz13_0 := Qcy BK104.out 0; have hfz13_1 := Qcy BK104.out 1))
   go_ret
   exact ⟨by first | rfl | (simp [Qfr, Qfs] <;> rfl) | (simp [*, Qfr, Qfs] <;> rfl), by repeat (first | (with_reducible first | exact HB.out | apply Qcc | apply Qce | apply Qdt | refine Qdp ?_ GE104.out) | exact HB.out)⟩
 ·rw [if_neg c4] at H
  have c4b0 : (t105 == 0) = false := beq_eq_false_iff_ne.mpr c4
  have c4b1 : (t105 != 0) = true := bne_iff_ne.mpr c4
  obtain rfl := Option.some.inj H
  go_enter Tryz.func93, Tryz.ntmps93
  go_wp2_with (first | ((with_reducible refine Qdw (N := 2) rfl ?_); refine Qdv ?hg (N := 2) ?hd (cs := #[.int .u8 a0_0, .int .u32 a0_1]) (t := 27) ?hr ?_; (case hd => rfl); (case hg => rfl); (case hr => first | (go_simp; done) | (go_simp; rfl)); intro gb104 hg w14 hbox hb; have n0_ := QA (Qdo (by repeat (first | (with_reducible first | exact HB.out | apply Qcc | apply Qce | apply Qdt) | exact HB.out)) hb); have n1_ := QA (hbox); have n2_ := QA ((by rw [hg]; exact (Qdn (by repeat (first | (with_reducible first | exact HB.out | apply Qcc | apply Qce | apply Qdt) | exact HB.out))) : w.heap.size ≤ gb104)); have n3_ := QA ((by rw [hg]; exact (Qdn (by repeat (first | (with_reducible first | exact HB.out | apply Qcc | apply Qce | apply Qdt) | exact HB.out))) : w.heap.size ≤ gb104)); clear HB; have HB := n0_; have BK104 := n1_; have GW104 := n2_; have GE104 := n3_; clear n0_ n1_ n2_ n3_; clear hb hbox hg; have hcz15_0 : w14.cell? ⟨gb104, 0, none⟩ = some (.int .u8 a0_0) := (Qcx BK104.out 0).trans rfl; have hcz15_1 : w14.cell? ⟨gb104, 1, none⟩ = some (.int .u32 a0_1) := (Qcx BK104.out 1).trans rfl; have hfz15_0 := Qcy BK104.out 0; have hfz15_1 := Qcy BK104.out 1) | ((with_reducible refine Qfo (f := 85) rfl ?_); refine Qej (some 6) rfl rfl Tryz.func85 (by kernel_rfl) rfl #[.agg #[.int .u8 a0_0, .int .u32 a0_1]] rfl (by (try simp only [List.map_toArray, List.map_cons, List.map_nil]); first | done | rfl | (simp only [List.length_drop, List.length_take]; rfl)) ?_; (with_reducible refine (Qak.calls a0_0 a0_1 t105 _ A3.out).mono ?_); rintro e w16 ⟨rfl, hb⟩; refine ⟨_, rfl, ?_⟩; have n0_ := QA (Qdg (g := gb104) (o := .cells #[.int .u8 a0_0, .int .u32 a0_1] 27 (0, 0)) (by (with_reducible repeat (first | apply Qdf | apply Qde | apply Qdd)); exact BK104.out) hb); have n1_ := QA (Qdo (by repeat (first | (with_reducible first | exact HB.out | apply Qcc | apply Qce | apply Qdt | refine Qdp ?_ GE104.out) | exact HB.out)) hb); clear BK104; clear HB; have BK104 := n0_; have HB := n1_; clear n0_ n1_; (try clear hb); (try clear hb2); (try clear hk); (try clear hi)))
  go_ret
  exact ⟨by first | rfl | (simp [Qfr, Qfs] <;> rfl) | (simp [*, Qfr, Qfs] <;> rfl), by repeat (first | (with_reducible first | exact HB.out | apply Qcc | apply Qce | apply Qdt | refine Qdp ?_ GE104.out) | exact HB.out)⟩
end Go.Proofs.YtnnofopfbeklbaaGreat.C
end
section
namespace Go.Proofs.YtnnofopfbeklbaaGreat.C
open Go.RowKit Go.Proofs.YtnnofopfbeklbaaGreatW.PrintWords Go.Proofs.YtnnofopfbeklbaaGreatW.PrintLast Go.Proofs.YtnnofopfbeklbaaGreatW.PrintMore
def mixP (h x : Int) : Int := IntKind.u64.wrap (IntKind.u64.wrap (Go.bits .xor .u64 h (Qgf 0 x) * Q1) + Q4)
def Qhj (i : Nat) (V : V4) : Int :=
 let h1 := IntKind.u64.wrap (0 + rotP V.1 1)
 let h2 := IntKind.u64.wrap (h1 + rotP V.2.1 7)
 let h3 := IntKind.u64.wrap (h2 + rotP V.2.2.1 12)
 let h4 := IntKind.u64.wrap (h3 + rotP V.2.2.2 18)
 if i = 0 then 0 else if i = 1 then h1 else if i = 2 then h2 else if i = 3 then h3 else h4
def Qhk (i : Nat) (h : Int) (V : V4) : Int :=
 let h1 := mixP h V.1
 let h2 := mixP h1 V.2.1
 let h3 := mixP h2 V.2.2.1
 let h4 := mixP h3 V.2.2.2
 if i = 0 then h else if i = 1 then h1 else if i = 2 then h2 else if i = 3 then h3 else h4
theorem sumTo_0 (V : V4) : Qhj 0 V = 0 := by simp [Qhj]
theorem sumTo_1 (V : V4) : Qhj 1 V = IntKind.u64.wrap (Qhj 0 V + rotP V.1 1) := by simp [Qhj]
theorem sumTo_2 (V : V4) : Qhj 2 V = IntKind.u64.wrap (Qhj 1 V + rotP V.2.1 7) := by simp [Qhj]
theorem sumTo_3 (V : V4) : Qhj 3 V = IntKind.u64.wrap (Qhj 2 V + rotP V.2.2.1 12) := by simp [Qhj]
theorem sumTo_4 (V : V4) : Qhj 4 V = IntKind.u64.wrap (Qhj 3 V + rotP V.2.2.2 18) := by simp [Qhj]
theorem mixTo_0 (h : Int) (V : V4) : Qhk 0 h V = h := by simp [Qhk]
theorem mixTo_1 (h : Int) (V : V4) : Qhk 1 h V = mixP (Qhk 0 h V) V.1 := by simp [Qhk]
theorem mixTo_2 (h : Int) (V : V4) : Qhk 2 h V = mixP (Qhk 1 h V) V.2.1 := by simp [Qhk]
theorem mixTo_3 (h : Int) (V : V4) : Qhk 3 h V = mixP (Qhk 2 h V) V.2.2.1 := by simp [Qhk]
theorem mixTo_4 (h : Int) (V : V4) : Qhk 4 h V = mixP (Qhk 3 h V) V.2.2.2 := by simp [Qhk]
def Qhl (sd : Int) (V : V4) (n : Int) : Int := if n < 32 then IntKind.u64.wrap (sd + Q5) else Qhk 4 (Qhj 4 V) V
theorem Qhm (x n : Int) (h : 0 ≤ n ∧ n < 64 ∧ Go.bits .and .u64 (IntKind.u64.wrap n) 63 = n) (W : World) : Calls Tryz.prog 202 #[.int .u64 x, .int .i64 n] W fun e w' => e = .returned (.int .u64 (rotP x n)) ∧ Drawn0 W w' := Qac.calls x n _ W (rot_is x n h)
theorem StAt.kept {W W' : World} {g : Nat} {sd : Int} {V : V4} {rv : Value} {n : Int} (h : StAt W g sd V rv n) (hb : Below W.heap.size W W') : StAt W' g sd V rv n := Qdg h hb
theorem StAt.cells {W : World} {g : Nat} {sd : Int} {V : V4} {rv : Value} {n : Int} (h : StAt W g sd V rv n) :
  W.cell? ⟨g, 0, none⟩ = some (.int .u64 sd) ∧ W.cell? ⟨g, 1, none⟩ = some (.int .u64 V.1) ∧ W.cell? ⟨g, 2, none⟩ = some (.int .u64 V.2.1) ∧ W.cell? ⟨g, 3, none⟩ = some (.int .u64 V.2.2.1) ∧ W.cell? ⟨g, 4, none⟩ = some (.int .u64 V.2.2.2) ∧ W.cell? ⟨g, 5, none⟩ = some rv ∧ W.cell? ⟨g, 6, none⟩ = some (.int .u64 n) :=
 ⟨(Qcx h 0).trans rfl, (Qcx h 1).trans rfl, (Qcx h 2).trans rfl, (Qcx h 3).trans rfl, (Qcx h 4).trans rfl, (Qcx h 5).trans rfl, (Qcx h 6).trans rfl⟩
theorem arr_ix (x0 x1 x2 x3 : Int) (W : World) : (∀ k, k = 0 → (Instr.index 231 (.agg #[.int .u64 x0, .int .u64 x1, .int .u64 x2, .int .u64 x3]) (.int .i64 k)).run Tryz.prog W = .ok (.int .u64 x0) W) ∧
  (∀ k, k = 1 → (Instr.index 231 (.agg #[.int .u64 x0, .int .u64 x1, .int .u64 x2, .int .u64 x3]) (.int .i64 k)).run Tryz.prog W = .ok (.int .u64 x1) W) ∧
  (∀ k, k = 2 → (Instr.index 231 (.agg #[.int .u64 x0, .int .u64 x1, .int .u64 x2, .int .u64 x3]) (.int .i64 k)).run Tryz.prog W = .ok (.int .u64 x2) W) ∧
  (∀ k, k = 3 → (Instr.index 231 (.agg #[.int .u64 x0, .int .u64 x1, .int .u64 x2, .int .u64 x3]) (.int .i64 k)).run Tryz.prog W = .ok (.int .u64 x3) W) := by
 refine ⟨?_, ?_, ?_, ?_⟩ <;> rintro k rfl <;> simp [Instr.index, run_underlying Tryz.underlying231, asIntOf, go_sem]
set_option maxRecDepth 100000 in
set_option maxHeartbeats 4000000 in
theorem st_start (g : Nat) (sd : Int) (V : V4) (rv : Value) (n : Int) (w : World) (hv : StAt w g sd V rv n) :
  Calls Tryz.prog 201 #[.pointer (some ⟨g, 0, none⟩)] w fun e w' => e = .returned (.int .u64 (Qhl sd V n)) ∧ Below w.heap.size w w' := by
 have hu := Tryz.underlying274
 have hu2 := Tryz.underlying231
 have HV := QA hv
 obtain ⟨c0, c1, c2, c3, c4, c5, c6⟩ := StAt.cells hv
 clear hv
 by_cases h32 : n < 32
 ·go_enter Tryz.func201, Tryz.ntmps201
  go_wp2_with fail
  go_ret
  exact ⟨by simp [Qhl, h32], Below.refl _ _⟩
 ·have h32i : 32 ≤ n := by omega
  go_enter Tryz.func201, Tryz.ntmps201
  go_wp2_with fail
  obtain ⟨B, hB⟩ : ∃ B, B = w.heap.size := ⟨_, rfl⟩
  obtain ⟨W, hW⟩ : ∃ W, W = w.alloc (.cells #[.int .i64 1, .int .i64 7, .int .i64 12, .int .i64 18] 3) := ⟨_, rfl⟩
  have hBlk : W.heap[B]? = some (.cells #[.int .i64 1, .int .i64 7, .int .i64 12, .int .i64 18] 3 (0, 0)) := by rw [hW, hB]; exact Qdh w _
  have HBK := QA hBlk
  have HVW := QA (show StAt W g sd V rv n by rw [hW]; exact HV.out.kept (Qcc (Below.refl _ _) _))
  have HBW := QA (show Below w.heap.size w W by rw [hW]; exact Qcc (Below.refl _ _) _)
  rw [← hW, ← hB]
  clear hW hB hBlk c0 c1 c2 c3 c4 c5 c6 HV
  go_loopw [3, 4, 5, 20] (fun v3 v4 v5 v20 wr => ∃ (i : Nat) (iv : Int), i ≤ 4 ∧ v20 = .int .i64 iv ∧ v3 = .int .u64 (Qhj i V) ∧ Aside0 (iv = (i : Int)) ∧ Aside0 (Below W.heap.size W wr))
   (fun _ _ _ v20 _ => 4 - (intOf v20).toNat)
  case atStart => exact ⟨0, 0, by omega, rfl, congrArg (Value.int .u64) (sumTo_0 V).symm, ⟨rfl⟩, ⟨Below.refl _ _⟩⟩
  case round =>
   obtain ⟨i, iv, hi, rfl, rfl, HI, HB⟩ := hrel
   obtain ⟨d0, d1, d2, d3, d4, d5, d6⟩ := StAt.cells (HVW.out.kept HB.out)
   have hk := Qdg HBK.out HB.out
   have b0 : wr.cell? ⟨B, 0, none⟩ = some (.int .i64 1) := (Qcx hk 0).trans rfl
   have b1 : wr.cell? ⟨B, 1, none⟩ = some (.int .i64 7) := (Qcx hk 1).trans rfl
   have b2 : wr.cell? ⟨B, 2, none⟩ = some (.int .i64 12) := (Qcx hk 2).trans rfl
   have b3 : wr.cell? ⟨B, 3, none⟩ = some (.int .i64 18) := (Qcx hk 3).trans rfl
   clear hk
   by_cases h4 : i < 4
   ·have hk : i = 0 ∨ i = 1 ∨ i = 2 ∨ i = 3 := by omega
    rcases hk with rfl | rfl | rfl | rfl
    ·obtain rfl : iv = 0 := HI.out
     go_wp2_with (go_at_call 202; refine (Qhm V.1 1 ⟨by decide, by decide, by kernel_rfl⟩ _).mono ?_; rintro e w7 ⟨rfl, hd⟩; have hd1 := hd.below; clear hd)
     go_roundw
     case rel => exact ⟨1, 1, by omega, by go_num, congrArg (Value.int .u64) (sumTo_1 V).symm, ⟨rfl⟩, ⟨Qcf HB.out HB.out.size hd1⟩⟩
     case measure => simp [intOf]
    ·obtain rfl : iv = 1 := HI.out
     go_wp2_with (go_at_call 202; refine (Qhm V.2.1 7 ⟨by decide, by decide, by kernel_rfl⟩ _).mono ?_; rintro e w7 ⟨rfl, hd⟩; have hd1 := hd.below; clear hd)
     go_roundw
     case rel => exact ⟨2, 2, by omega, by go_num, congrArg (Value.int .u64) (sumTo_2 V).symm, ⟨rfl⟩, ⟨Qcf HB.out HB.out.size hd1⟩⟩
     case measure => simp [intOf]
    ·obtain rfl : iv = 2 := HI.out
     go_wp2_with (go_at_call 202; refine (Qhm V.2.2.1 12 ⟨by decide, by decide, by kernel_rfl⟩ _).mono ?_; rintro e w7 ⟨rfl, hd⟩; have hd1 := hd.below; clear hd)
     go_roundw
     case rel => exact ⟨3, 3, by omega, by go_num, congrArg (Value.int .u64) (sumTo_3 V).symm, ⟨rfl⟩, ⟨Qcf HB.out HB.out.size hd1⟩⟩
     case measure => simp [intOf]
    ·obtain rfl : iv = 3 := HI.out
     go_wp2_with (go_at_call 202; refine (Qhm V.2.2.2 18 ⟨by decide, by decide, by kernel_rfl⟩ _).mono ?_; rintro e w7 ⟨rfl, hd⟩; have hd1 := hd.below; clear hd)
     go_roundw
     case rel => exact ⟨4, 4, by omega, by go_num, congrArg (Value.int .u64) (sumTo_4 V).symm, ⟨rfl⟩, ⟨Qcf HB.out HB.out.size hd1⟩⟩
     case measure => simp [intOf]
   ·obtain rfl : i = 4 := by omega
    obtain rfl : iv = 4 := HI.out
    go_wp2_with fail
    clear d0 d1 d2 d3 d4 d5 d6 b0 b1 b2 b3
    go_loopw [3, 7, 40] (fun v3 v7 v40 wi => ∃ (i : Nat) (iv : Int), i ≤ 4 ∧ v40 = .int .i64 iv ∧ v3 = .int .u64 (Qhk i (Qhj 4 V) V) ∧ Aside0 (iv = (i : Int)) ∧ Aside0 (Below W.heap.size W wi))
     (fun _ _ v40 _ => 4 - (intOf v40).toNat)
    case atStart => exact ⟨0, 0, by omega, rfl, congrArg (Value.int .u64) (mixTo_0 _ V).symm, ⟨rfl⟩, HB⟩
    case round =>
     clear HB HI
     obtain ⟨i, iv, hi, rfl, rfl, HI, HB⟩ := hrel
     by_cases h4 : i < 4
     ·have hk : i = 0 ∨ i = 1 ∨ i = 2 ∨ i = 3 := by omega
      rcases hk with rfl | rfl | rfl | rfl
      ·obtain rfl : iv = 0 := HI.out
       have hix := (arr_ix V.1 V.2.1 V.2.2.1 V.2.2.2 wr).1 0 rfl
       go_wp2_with (go_at_call 199; refine (Qgl _ _ _).mono ?_; rintro e w7 ⟨rfl, hd⟩; have hd1 := hd.below; clear hd)
       go_roundw
       case rel => exact ⟨1, 1, by omega, by go_num, congrArg (Value.int .u64) (mixTo_1 _ V).symm, ⟨rfl⟩, ⟨Qcf HB.out HB.out.size hd1⟩⟩
       case measure => simp [intOf]
      ·obtain rfl : iv = 1 := HI.out
       have hix := (arr_ix V.1 V.2.1 V.2.2.1 V.2.2.2 wr).2.1 1 rfl
       go_wp2_with (go_at_call 199; refine (Qgl _ _ _).mono ?_; rintro e w7 ⟨rfl, hd⟩; have hd1 := hd.below; clear hd)
       go_roundw
       case rel => exact ⟨2, 2, by omega, by go_num, congrArg (Value.int .u64) (mixTo_2 _ V).symm, ⟨rfl⟩, ⟨Qcf HB.out HB.out.size hd1⟩⟩
       case measure => simp [intOf]
      ·obtain rfl : iv = 2 := HI.out
       have hix := (arr_ix V.1 V.2.1 V.2.2.1 V.2.2.2 wr).2.2.1 2 rfl
       go_wp2_with (go_at_call 199; refine (Qgl _ _ _).mono ?_; rintro e w7 ⟨rfl, hd⟩; have hd1 := hd.below; clear hd)
       go_roundw
       case rel => exact ⟨3, 3, by omega, by go_num, congrArg (Value.int .u64) (mixTo_3 _ V).symm, ⟨rfl⟩, ⟨Qcf HB.out HB.out.size hd1⟩⟩
       case measure => simp [intOf]
      ·obtain rfl : iv = 3 := HI.out
       have hix := (arr_ix V.1 V.2.1 V.2.2.1 V.2.2.2 wr).2.2.2 3 rfl
       go_wp2_with (go_at_call 199; refine (Qgl _ _ _).mono ?_; rintro e w7 ⟨rfl, hd⟩; have hd1 := hd.below; clear hd)
       go_roundw
       case rel => exact ⟨4, 4, by omega, by go_num, congrArg (Value.int .u64) (mixTo_4 _ V).symm, ⟨rfl⟩, ⟨Qcf HB.out HB.out.size hd1⟩⟩
       case measure => simp [intOf]
     ·obtain rfl : i = 4 := by omega
      obtain rfl : iv = 4 := HI.out
      go_wp2_with fail
      go_ret
      refine ⟨by simp only [Qhl, if_neg (show ¬ n < 32 by omega)]; rfl, HBW.out.trans (Qgb HB.out HBW.out.size)⟩
end Go.Proofs.YtnnofopfbeklbaaGreat.C
end
