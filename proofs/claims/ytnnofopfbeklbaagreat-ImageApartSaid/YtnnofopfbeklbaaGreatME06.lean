/- Texts of this claim's author and of the print of its functions, merged by merge.py. -/
import Derived.Test.YtnnofopfbeklbaaGreatME02
import Derived.Test.YtnnofopfbeklbaaGreatME03
import Derived.Test.YtnnofopfbeklbaaGreatME04
import Derived.Test.YtnnofopfbeklbaaGreatME05
import Derived.OpenShut
set_option linter.unusedVariables false
set_option linter.unusedSimpArgs false
set_option maxHeartbeats 8000000
set_option maxRecDepth 100000
section
namespace Go.Proofs.YtnnofopfbeklbaaGreat.C
open Go.RowKit Go.Proofs.YtnnofopfbeklbaaGreatW.PrintWords Go.Proofs.YtnnofopfbeklbaaGreatW.PrintLast Go.Proofs.YtnnofopfbeklbaaGreatW.PrintMore
theorem st_Write (b g : Nat) (sd : Int) (V : V4) (rv : Value) (A0 : Option Addr) (c0 : Nat) (l : List Int) (w : World) (hr0 : Kd.C (Kd.int .u8) w A0 l.length l) (hfar : ∀ ad, A0 = some ad → 0 < l.length → ad.block ≠ g) (hv : StAt w g sd V rv 0) (hR : R8 w b rv []) (hbg : b ≤ g) (hbw : b ≤ w.heap.size) (hl : l.length ≤ 140737488355328) :
  Calls Tryz.prog 156 #[.pointer (some ⟨g, 0, none⟩), .slice A0 l.length c0] w fun e w' => e = .returned (.pointer (some ⟨g, 0, none⟩)) ∧ (∃ rv', StAt w' g sd (Qfg (l.length / 32) V l) rv' l.length ∧ R8 w' b rv' (l.drop (32 * (l.length / 32)))) ∧ Below b w w' := by
 have hu := Tryz.underlying274
 have hu2 := Tryz.underlying231
 have hu3 := Tryz.underlying52
 obtain ⟨A1, n1, c1, rfl⟩ := R8.shape hR
 have c6 : w.cell? ⟨g, 6, none⟩ = some (.int .u64 0) := (Qcj hv 6).trans rfl
 have c5 : w.cell? ⟨g, 5, none⟩ = some (.slice A1 n1 c1) := (Qcj hv 5).trans rfl
 have f6 := Qck hv 6
 have hw := IntWalk.u64_in (l.length : Int) (by omega)
 go_enter Tryz.func156, Tryz.ntmps156
 have hC1 : Kd.C (Kd.int .u8) (w.setCell ⟨g, 6, none⟩ (.int .u64 l.length)) A0 l.length l := Kd.C_keep (0 : Int) hr0 ((KeepBut.refl w g none).set_ 6 _) hfar
 have hv1 : StAt (w.setCell ⟨g, 6, none⟩ (.int .u64 l.length)) g sd V (.slice A1 n1 c1) l.length := Qcg hv 6 _
 have hR1 : R8 (w.setCell ⟨g, 6, none⟩ (.int .u64 l.length)) b (.slice A1 n1 c1) [] := hR.set hv (by decide) 6 _
 have hb1 : Below b w (w.setCell ⟨g, 6, none⟩ (.int .u64 l.length)) := Qfa (Below.refl _ _) hbg
 have hz1 : (w.setCell ⟨g, 6, none⟩ (.int .u64 l.length)).heap.size = w.heap.size := by simp
 go_wp2_with (first | (at_builtin; refine Kd.R_append_row (Value.int .u8) (0 : Int) (h1 := fun _ => rfl) (w0 := w) b rfl (.tmp 20) (.tmp 21) 52 5 (.int .u8 0) 1 rfl Tryz.underlying52 Qeu rfl (by decide) (.slice A1 n1 c1) [] l A0 l.length c0 (fun _ => True) rfl rfl (fun _ _ => trivial) ?hO ?hR ?hB ?hS ?hL ?_; (case hO => exact hR1); (case hR => exact hC1); (case hB => exact hb1); (case hS => rw [hz1]; exact hbw); (case hL => simp; omega); intro v2 w2 HR2 hb2 hg2 hat2; have hv2 := Qcl hv1 hg2 (hR1.clean hv1 (by decide)); simp only [List.nil_append] at HR2))
 have HV2 := QA (show StAt w2 g sd V (.slice A1 n1 c1) l.length from hv2)
 have HB2 := QA hb2
 obtain ⟨A2, cc2, rfl, hcc2, _⟩ := Kd.R_reads HR2
 have HQ2 := QA (Kd.Q_of_R HR2)
 clear hv2 hb2 HR2 hC1 hv1 hR1 hb1 hz1 c6 c5 f6 hr0 hfar hv hR hg2 hat2
 go_loopw [5] (fun v5 wr => ∃ (m : Nat) (l' : List Int) (V' : V4) (A : Option Addr) (c : Nat), v5 = .slice A l'.length c ∧ l'.length ≤ c ∧ l'.length ≤ l.length ∧ Aside0 (l'.length / 32 = m ∧ Qfg (l.length / 32) V l = Qfg m V' l' ∧ l.drop (32 * (l.length / 32)) = l'.drop (32 * m)) ∧ Aside0 (Q8 wr b (.slice A l'.length c) l') ∧ Aside0 (StAt wr g sd V' (.slice A1 n1 c1) l.length) ∧ Aside0 (Below b w wr))
  (fun v5 _ => lenV v5)
 case atStart => exact ⟨_, l, V, A2, cc2, rfl, hcc2, Nat.le_refl _, ⟨rfl, rfl, rfl⟩, HQ2, HV2, HB2⟩
 case round =>
  obtain ⟨m, l', V', A, c, rfl, hlc, hll, HM, HQ, HV, HB⟩ := hrel
  clear HQ2 HV2 HB2
  by_cases h32 : 32 ≤ l'.length
  ·have h32i : (32 : Int) ≤ (l'.length : Int) := by omega
   go_wp2_with fail
   go_loopw [6, 26] (fun v6 v26 wi => ∃ (i : Nat) (iv : Int), i ≤ 4 ∧ v26 = .int .i64 iv ∧ Aside0 (iv = (i : Int)) ∧ Aside0 (Q8 wi b (.slice A l'.length c) l') ∧ Aside0 (StAt wi g sd (Qfh i V' l') (.slice A1 n1 c1) l.length) ∧ Aside0 (Below b w wi))
    (fun _ v26 _ => 4 - (intOf v26).toNat)
   case atStart => exact ⟨0, 0, by omega, rfl, ⟨rfl⟩, HQ, HV, HB⟩
   case round =>
    obtain ⟨i, iv, hi, rfl, HI, HQi, HVi, HBi⟩ := hrel
    clear HQ HV HB
    by_cases h4 : i < 4
    ·have hk : i = 0 ∨ i = 1 ∨ i = 2 ∨ i = 3 := by omega
     rcases hk with rfl | rfl | rfl | rfl
     ·obtain rfl : iv = 0 := HI.out
      have cv : wr.cell? ⟨g, 1, none⟩ = some (.int .u64 V'.1) := (Qcj HVi.out 1).trans rfl
      have fv := Qck HVi.out 1
      go_wp2_with fail
      obtain ⟨A', hcut, hA'⟩ := Qfi A l'.length c 0 0 rfl (by omega)
      have hwa : IntKind.i64.wrap 0 = 0 := IntWalk.i64_in 0 (by decide)
      have hq : ∀ q, Q8 (wr.drewN q) b (.slice A' (l'.length - 0) (c - 0)) (l'.drop 0) := fun q => hA' _ _ _ rfl (Kd.Q_drewN HQi.out q)
      have h8 : 8 ≤ (l'.drop 0).length := by rw [List.length_drop]; omega
      go_region_with (first | (go_at_call 200; refine (Qfj (hq _) h8).mono ?_; rintro e w7 ⟨rfl, hd⟩; obtain ⟨q, rfl⟩ := hd.out; clear hd) | (go_at_call 199; refine (Qfk _ _ _).mono ?_; rintro e w8 ⟨rfl, hd⟩; obtain ⟨q2, rfl⟩ := hd.out; clear hd))
      all_goals
       go_wp2_with fail
       go_roundw
       case rel => exact ⟨1, 1, by omega, by go_num, ⟨rfl⟩, ⟨Kd.Q_set (Kd.Q_drewN HQi.out _) (cells := #[.int .u64 sd, .int .u64 (Qfh 0 V' l').1, .int .u64 (Qfh 0 V' l').2.1, .int .u64 (Qfh 0 V' l').2.2.1, .int .u64 (Qfh 0 V' l').2.2.2, .slice A1 n1 c1, .int .u64 l.length]) (t := 274) HVi.out (by intro q hq; rcases List.mem_cons.1 hq with rfl | hq; decide; cases hq) _ _⟩, ⟨Qcg (w := wr.drewN _) HVi.out 1 _⟩, ⟨Qfa (Qbs HBi.out _) hbg⟩⟩
       case measure => simp [intOf]
     ·obtain rfl : iv = 1 := HI.out
      have cv : wr.cell? ⟨g, 2, none⟩ = some (.int .u64 V'.2.1) := (Qcj HVi.out 2).trans rfl
      have fv := Qck HVi.out 2
      go_wp2_with fail
      obtain ⟨A', hcut, hA'⟩ := Qfi A l'.length c 8 8 rfl (by omega)
      have hwa : IntKind.i64.wrap 8 = 8 := IntWalk.i64_in 8 (by decide)
      have hq : ∀ q, Q8 (wr.drewN q) b (.slice A' (l'.length - 8) (c - 8)) (l'.drop 8) := fun q => hA' _ _ _ rfl (Kd.Q_drewN HQi.out q)
      have h8 : 8 ≤ (l'.drop 8).length := by rw [List.length_drop]; omega
      go_region_with (first | (go_at_call 200; refine (Qfj (hq _) h8).mono ?_; rintro e w7 ⟨rfl, hd⟩; obtain ⟨q, rfl⟩ := hd.out; clear hd) | (go_at_call 199; refine (Qfk _ _ _).mono ?_; rintro e w8 ⟨rfl, hd⟩; obtain ⟨q2, rfl⟩ := hd.out; clear hd))
      all_goals
       go_wp2_with fail
       go_roundw
       case rel => exact ⟨2, 2, by omega, by go_num, ⟨rfl⟩, ⟨Kd.Q_set (Kd.Q_drewN HQi.out _) (cells := #[.int .u64 sd, .int .u64 (Qfh 1 V' l').1, .int .u64 (Qfh 1 V' l').2.1, .int .u64 (Qfh 1 V' l').2.2.1, .int .u64 (Qfh 1 V' l').2.2.2, .slice A1 n1 c1, .int .u64 l.length]) (t := 274) HVi.out (by intro q hq; rcases List.mem_cons.1 hq with rfl | hq; decide; cases hq) _ _⟩, ⟨Qcg (w := wr.drewN _) HVi.out 2 _⟩, ⟨Qfa (Qbs HBi.out _) hbg⟩⟩
       case measure => simp [intOf]
     ·obtain rfl : iv = 2 := HI.out
      have cv : wr.cell? ⟨g, 3, none⟩ = some (.int .u64 V'.2.2.1) := (Qcj HVi.out 3).trans rfl
      have fv := Qck HVi.out 3
      go_wp2_with fail
      obtain ⟨A', hcut, hA'⟩ := Qfi A l'.length c 16 16 rfl (by omega)
      have hwa : IntKind.i64.wrap 16 = 16 := IntWalk.i64_in 16 (by decide)
      have hq : ∀ q, Q8 (wr.drewN q) b (.slice A' (l'.length - 16) (c - 16)) (l'.drop 16) := fun q => hA' _ _ _ rfl (Kd.Q_drewN HQi.out q)
      have h8 : 8 ≤ (l'.drop 16).length := by rw [List.length_drop]; omega
      go_region_with (first | (go_at_call 200; refine (Qfj (hq _) h8).mono ?_; rintro e w7 ⟨rfl, hd⟩; obtain ⟨q, rfl⟩ := hd.out; clear hd) | (go_at_call 199; refine (Qfk _ _ _).mono ?_; rintro e w8 ⟨rfl, hd⟩; obtain ⟨q2, rfl⟩ := hd.out; clear hd))
      all_goals
       go_wp2_with fail
       go_roundw
       case rel => exact ⟨3, 3, by omega, by go_num, ⟨rfl⟩, ⟨Kd.Q_set (Kd.Q_drewN HQi.out _) (cells := #[.int .u64 sd, .int .u64 (Qfh 2 V' l').1, .int .u64 (Qfh 2 V' l').2.1, .int .u64 (Qfh 2 V' l').2.2.1, .int .u64 (Qfh 2 V' l').2.2.2, .slice A1 n1 c1, .int .u64 l.length]) (t := 274) HVi.out (by intro q hq; rcases List.mem_cons.1 hq with rfl | hq; decide; cases hq) _ _⟩, ⟨Qcg (w := wr.drewN _) HVi.out 3 _⟩, ⟨Qfa (Qbs HBi.out _) hbg⟩⟩
       case measure => simp [intOf]
     ·obtain rfl : iv = 3 := HI.out
      have cv : wr.cell? ⟨g, 4, none⟩ = some (.int .u64 V'.2.2.2) := (Qcj HVi.out 4).trans rfl
      have fv := Qck HVi.out 4
      go_wp2_with fail
      obtain ⟨A', hcut, hA'⟩ := Qfi A l'.length c 24 24 rfl (by omega)
      have hwa : IntKind.i64.wrap 24 = 24 := IntWalk.i64_in 24 (by decide)
      have hq : ∀ q, Q8 (wr.drewN q) b (.slice A' (l'.length - 24) (c - 24)) (l'.drop 24) := fun q => hA' _ _ _ rfl (Kd.Q_drewN HQi.out q)
      have h8 : 8 ≤ (l'.drop 24).length := by rw [List.length_drop]; omega
      go_region_with (first | (go_at_call 200; refine (Qfj (hq _) h8).mono ?_; rintro e w7 ⟨rfl, hd⟩; obtain ⟨q, rfl⟩ := hd.out; clear hd) | (go_at_call 199; refine (Qfk _ _ _).mono ?_; rintro e w8 ⟨rfl, hd⟩; obtain ⟨q2, rfl⟩ := hd.out; clear hd))
      all_goals
       go_wp2_with fail
       go_roundw
       case rel => exact ⟨4, 4, by omega, by go_num, ⟨rfl⟩, ⟨Kd.Q_set (Kd.Q_drewN HQi.out _) (cells := #[.int .u64 sd, .int .u64 (Qfh 3 V' l').1, .int .u64 (Qfh 3 V' l').2.1, .int .u64 (Qfh 3 V' l').2.2.1, .int .u64 (Qfh 3 V' l').2.2.2, .slice A1 n1 c1, .int .u64 l.length]) (t := 274) HVi.out (by intro q hq; rcases List.mem_cons.1 hq with rfl | hq; decide; cases hq) _ _⟩, ⟨Qcg (w := wr.drewN _) HVi.out 4 _⟩, ⟨Qfa (Qbs HBi.out _) hbg⟩⟩
       case measure => simp [intOf]
    ·obtain rfl : i = 4 := by omega
     obtain rfl : iv = 4 := HI.out
     obtain ⟨A', hcut, hA'⟩ := Qfi A l'.length c 32 32 rfl h32
     go_wp2_with fail
     go_roundw
     case rel =>
      have e4 : Qfh 4 V' l' = stripe V' l' := rfl
      have hm := HM.out
      have hd : (l'.drop 32).length = l'.length - 32 := List.length_drop
      refine ⟨m - 1, l'.drop 32, stripe V' l', A', c - 32, by rw [hd], by rw [hd]; omega, by rw [hd]; omega, ⟨by rw [hd]; omega, ?_, ?_⟩, ⟨?_⟩, ⟨?_⟩, HBi⟩
      ·rw [hm.2.1, show m = (m - 1) + 1 by omega]
       rfl
      ·rw [hm.2.2, List.drop_drop]
       congr 1
       omega
      ·rw [hd]
       exact hA' _ _ _ rfl HQi.out
      ·exact HVi.out
     case measure => simp [lenV]; omega
  ·have h32i : (l'.length : Int) < 32 := by omega
   have hq' := Kd.Q_reads' HQ.out
   have cv : wr.cell? ⟨g, 5, none⟩ = some (.slice A1 n1 c1) := (Qcj HV.out 5).trans rfl
   go_wp2_with (first | (at_builtin; refine Kd.R_append_row (Value.int .u8) (0 : Int) (h1 := fun _ => rfl) (w0 := wr) b rfl (.const (.slice none 0 0)) (.tmp 50) 52 5 (.int .u8 0) 1 rfl Tryz.underlying52 Qeu rfl (by decide) (.slice none 0 0) [] l' A l'.length c (fun _ => True) rfl rfl (fun _ _ => trivial) ?hO ?hR ?hB ?hS ?hL ?_; (case hO => exact Kd.R_nil _ _ _ _ _); (case hR => exact hq'.2.2); (case hB => exact Below.refl _ _); (case hS => exact Nat.le_trans hbw HB.out.size); (case hL => simp; omega); intro v3 w3 HR3 hb3 hg3 hat3; obtain ⟨A3, n3, c3, rfl⟩ := R8.shape HR3; have hv3 := Qcl (show wr.heap[g]? = _ from HV.out) hg3 (by simp [Value.ownBlock]); have fv := Qck hv3 5; have cv3 : w3.cell? ⟨g, 5, none⟩ = some (.slice A1 n1 c1) := (Qcj hv3 5).trans rfl; (try simp only [List.nil_append] at HR3)))
   go_ret
   have hm := HM.out
   have hm0 : m = 0 := by omega
   subst hm0
   refine ⟨rfl, ⟨.slice A3 n3 c3, ?_, ?_⟩, Qfa (HB.out.trans hb3) hbg⟩
   ·rw [hm.2.1]
    exact Qcg hv3 5 _
   ·rw [hm.2.2]
    simpa using R8.set HR3 hv3 (by decide) 5 _
theorem sum_of (a0 : Int) (A1 : Option Addr) (c1 : Nat) (l1 : List Int) (w : World) (hr1 : Kd.C (Kd.int .u8) w A1 l1.length l1) (hl : l1.length ≤ 140737488355328) :
  Calls Tryz.prog 101 #[.int .u64 a0, .slice A1 l1.length c1] w fun e w' => e = .returned (.int .u64 (Qge a0 l1)) ∧ Below w.heap.size w w' := by
 go_enter Tryz.func101, Tryz.ntmps101
 go_wp2_with (first | (go_at_call 155; refine (st_New a0 w).mono ?_; rintro e w1 ⟨rfl, ⟨rv, hv, hR⟩, hb1⟩; have hv1 : StAt w1 w.heap.size a0 (IntKind.u64.wrap (IntKind.u64.wrap (a0 + Q1) + Q2), IntKind.u64.wrap (a0 + Q2), a0, IntKind.u64.wrap (a0 - Q1)) rv 0 := hv; have hr := Kd.C_below hr1 hb1; have hf := Kd.far_C (0 : Int) hr1 (Nat.le_refl w.heap.size)) | (go_at_call 156; refine (st_Write w.heap.size w.heap.size a0 _ rv A1 c1 l1 w1 hr hf hv1 hR (Nat.le_refl _) hb1.size hl).mono ?_; rintro e w2 ⟨rfl, ⟨rv2, hv2, hR2⟩, hb2⟩) | (go_at_call 157; refine (st_Sum w.heap.size w.heap.size a0 _ rv2 _ _ w2 hv2 (Kd.Q_of_R hR2)).mono ?_; rintro e w3 ⟨rfl, hb3⟩))
 go_ret
 exact ⟨rfl, (hb1.trans hb2).trans (Qfb hb3 (Nat.le_trans hb1.size hb2.size))⟩
theorem sum_of' (a0 : Int) (A1 : Option Addr) (c1 n : Nat) (l1 : List Int) (w : World) (hn : n = l1.length) (hr1 : Kd.C (Kd.int .u8) w A1 n l1) (hl : n ≤ 140737488355328) :
  Calls Tryz.prog 101 #[.int .u64 a0, .slice A1 n c1] w fun e w' => e = .returned (.int .u64 (Qge a0 l1)) ∧ Below w.heap.size w w' := by
 subst hn
 exact sum_of a0 A1 c1 l1 w hr1 hl
theorem hash_of (s : ByteArray) (w : World) (hl : s.size ≤ 140737488355328) :
  Calls Tryz.prog 60 #[.string s] w fun e w' => e = .returned (.int .u64 (Qge 0 (bytesOf s))) ∧ Below w.heap.size w w' := by
 have kb := fun W => Qcb (P := Tryz.prog) 9 52 5 Tryz.underlying9 Tryz.underlying52 Tryz.underlying5 s W
 have hbb := Qcc (Below.refl w.heap.size w) (Nat.le_refl _) 5 s
 go_enter Tryz.func60, Tryz.ntmps60
 go_wp2_with (go_at_call 101; refine (sum_of' 0 _ _ s.size (bytesOf s) (Lib.bytesWorld w 5 s) (Qca s).symm (bytes_C w s (by omega)) hl).mono ?_; rintro e w1 ⟨rfl, hb1⟩)
 go_ret
 exact ⟨rfl, Qbt hbb hbb.size hb1⟩
theorem u64_wrap (x : Int) : 0 ≤ IntKind.u64.wrap x ∧ IntKind.u64.wrap x < 18446744073709551616 := by
 simp [IntKind.wrap, IntKind.signed, IntKind.bits]
 omega
theorem u64_bits (op : BinOp) (x y : Int) : 0 ≤ Go.bits op .u64 x y ∧ Go.bits op .u64 x y < 18446744073709551616 := by
 unfold Go.bits
 split <;> exact u64_wrap _
theorem Qgf (sd : Int) (l : List Int) : 0 ≤ Qge sd l ∧ Qge sd l < 18446744073709551616 := by
 unfold Qge sumP finP
 split <;> exact u64_bits _ _ _
def Qgg (b : List Int) : List Int := Qfn (b ++ leb (Qge 0 b) 8) ++ [0]
theorem Qgh : ∀ (n : Nat) (b : List Int), b.length ≤ n → (Qfn b).length ≤ 2 * b.length + 1
 | n, b, h => by
  rcases Int.lt_or_le (ixOf (b.take 254) 0) 0 with h0 | h0
  ·by_cases hl : 254 < b.length
   ·rw [Qfr h0 hl]
    have hd : (b.drop 254).length < b.length := by rw [List.length_drop]; omega
    cases n with
    | zero => omega
    | succ n =>
     have := Qgh n (b.drop 254) (by omega)
     simp only [List.length_cons, List.length_append, List.length_take, List.length_drop] at this ⊢
     omega
   ·rw [Qfs h0 hl]
    simp
    omega
  ·obtain ⟨p, hp⟩ := Int.eq_ofNat_of_zero_le h0
   have h1 := (Qfl (b.take 254) 0).2
   rw [hp, List.length_take] at h1
   rw [Qfq hp]
   cases n with
   | zero => omega
   | succ n =>
    have := Qgh n (b.drop (p + 1)) qq_11
    simp only [List.length_cons, List.length_append, List.length_take, List.length_drop] at this ⊢
    omega
theorem R8.reads {W : World} {b : Nat} {v : Value} {xs : List Int} (h : R8 W b v xs) : ∃ A n c, v = .slice A n c ∧ Aside0 (n = xs.length) ∧ n ≤ c ∧ Kd.C (Kd.int .u8) W A n xs := by
 obtain ⟨A, c, e, h1, h2⟩ := Kd.R_reads h
 exact ⟨A, _, c, e, ⟨rfl⟩, h1, h2⟩
theorem stuff_at (A : Option Addr) (n c : Nat) (l : List Int) (w : World) (hC : Kd.C (Kd.int .u8) w A n l) (hc : n ≤ c) (hl : l.length ≤ 35184372088832) :
  Calls Tryz.prog 152 #[.slice A n c] w fun e w' => ∃ v0_ : Value, e = .returned (v0_) ∧ R8 w' w.heap.size v0_ (Qfn l) ∧ Below w.heap.size w w' := by
 have hn := hC.1
 subst hn
 exact stuff_of A c l w hC hc hl
theorem seal_len (l : List Int) : ([] ++ l ++ leb (Qge 0 l) 8).length = l.length + 8 := by simp [Qez]
theorem seal_of (A0 : Option Addr) (c0 : Nat) (l0 : List Int) (w : World) (hr0 : Kd.C (Kd.int .u8) w A0 l0.length l0) (hl : l0.length ≤ 35184372088824) :
  Calls Tryz.prog 96 #[.slice A0 l0.length c0] w fun e w' => ∃ v0_ : Value, e = .returned (v0_) ∧ R8 w' w.heap.size v0_ (Qgg l0) ∧ Below w.heap.size w w' := by
 have hI0 := QA (IsBuf.new w w.heap.size)
 have hb0 : Below w.heap.size w (w.alloc (.cells #[.slice none 0 0] 167)) := Qbq (Below.refl _ _) _
 have hz0 : w.heap.size ≤ (w.alloc (.cells #[.slice none 0 0] 167)).heap.size := hb0.size
 have hC0 := Kd.C_below hr0 hb0
 have hh := Qgf 0 l0
 go_enter Tryz.func96, Tryz.ntmps96
 go_wp2_with (first
  | (go_at_call 150; refine (buf_Raw w.heap.size w.heap.size A0 c0 l0 [] _ hC0 (Nat.le_refl _) hz0 hI0.out (by simp; omega)).mono ?_; rintro e w1 ⟨rfl, hI1, hb1⟩; have hC1 := Kd.C_below hr0 (hb0.trans hb1.1))
  | (go_at_call 101; refine (sum_of 0 A0 c0 l0 w1 hC1 (by omega)).mono ?_; rintro e w2 ⟨rfl, hb2⟩; have hI2 := hI1.kept hb2)
  | (go_at_call 151; refine (Qfd w.heap.size w.heap.size _ _ w2 hh.1 hh.2 (Nat.le_refl _) (Nat.le_trans (Nat.le_trans hz0 hb1.size) hb2.size) hI2 (by simp; omega)).mono ?_; rintro e w3 ⟨rfl, hI3, hb3⟩)
  | (go_at_call 97; refine (Qfe w.heap.size w.heap.size _ w3 hI3 (by rw [seal_len]; omega)).mono ?_; rintro e w4 ⟨v4, rfl, hR4, hb4⟩; obtain ⟨A4, n4, c4, rfl, hn4, hlc4, hC4⟩ := R8.reads hR4)
  | (go_at_call 152; refine (stuff_at A4 n4 c4 _ w4 hC4 hlc4 (by rw [seal_len]; omega)).mono ?_; rintro e w5 ⟨v5, rfl, hR5, hb5⟩; have HR5 := QA hR5; have hz5 : w.heap.size ≤ w5.heap.size := Nat.le_trans (Nat.le_trans (Nat.le_trans (Nat.le_trans (Nat.le_trans hz0 hb1.size) hb2.size) hb3.size) hb4.size) hb5.size; have hB5 := QA (show Below w.heap.size w w5 from ((((hb0.trans hb1.1).trans (Qfb hb2 (Nat.le_trans hz0 hb1.size))).trans hb3.1).trans (Qfb hb4 (Nat.le_trans (Nat.le_trans (Nat.le_trans hz0 hb1.size) hb2.size) hb3.size))).trans (Qfb hb5 (Nat.le_trans (Nat.le_trans (Nat.le_trans (Nat.le_trans hz0 hb1.size) hb2.size) hb3.size) hb4.size))); clear hR5)
  | (at_builtin; refine Kd.R_append (Kd.int .u8) (w0 := w) w.heap.size rfl (.tmp 10) (.tmp 11) 52 5 (.int .u8 0) 1 rfl Tryz.underlying52 Qeu rfl (by decide) (by omega) v5 (Qfn ([] ++ l0 ++ leb (Qge 0 l0) 8)) 0 [.int .u8 0] (fun _ => True) (fun _ => False) rfl ?ax ?aP (fun _ hk => hk.elim) ?aF ?aO ?aB ?aS ?aL ?_; (case ax => rfl); (case aP => rfl); (case aF => exact fun _ _ => trivial); (case aO => exact HR5.out.low (Nat.le_trans (Nat.le_trans (Nat.le_trans (Nat.le_trans hz0 hb1.size) hb2.size) hb3.size) hb4.size)); (case aB => exact hB5.out); (case aS => exact hz5); (case aL => have := Qgh _ ([] ++ l0 ++ leb (Qge 0 l0) 8) (Nat.le_refl _); rw [seal_len] at this; omega); intro v6 w6 HR6 hb6 hg6 hat6))
 go_ret
 exact ⟨v6, rfl, HR6, hb6⟩
def Qax.f (l0 : List Int) : Option (List Int) := if l0.length ≤ 35184372088824 then some (Qgg l0) else none
theorem Qax.calls (A0 : Option Addr) (c0 : Nat) (l0 : List Int) (r : List Int) (w : World) (hr0 : Kd.C (Kd.int .u8) w A0 l0.length l0) (hc0 : l0.length ≤ c0) (h : Qax.f l0 = some r) :
  Calls Tryz.prog 96 #[.slice A0 l0.length c0] w fun e w' => ∃ v0_ : Value, e = .returned (v0_) ∧ Kd.R (Kd.int .u8) 5 w' w.heap.size (fun _ => True) v0_ r ∧ Below w.heap.size w w' := by
 unfold Qax.f at h
 by_cases hl : l0.length ≤ 35184372088824
 ·rw [if_pos hl] at h
  cases h
  exact seal_of A0 c0 l0 w hr0 hl
 ·rw [if_neg hl] at h; cases h
def Qgi (e s n : Int) : List Int := Qgg ([1, 2, e] ++ vput 9 s ++ vput 9 n)
def Qav.f (a0_0 a0_1 a1 : Int) : Option (List Int × Int) :=
 (Qaz.f a0_0 a0_1 a1).bind fun e => if e = 0 then (if 0 ≤ a0_0 ∧ a0_0 < 256 ∧ 0 ≤ a0_1 ∧ a0_1 < 4294967296 ∧ 0 ≤ a1 ∧ a1 < 4294967296 then some (Qgi a0_0 a0_1 a1, 0) else none) else some ([], e)
theorem seal_at (A : Option Addr) (n c : Nat) (l : List Int) (w : World) (hC : Kd.C (Kd.int .u8) w A n l) (hl : l.length ≤ 35184372088824) :
  Calls Tryz.prog 96 #[.slice A n c] w fun e w' => ∃ v0_ : Value, e = .returned (v0_) ∧ R8 w' w.heap.size v0_ (Qgg l) ∧ Below w.heap.size w w' := by
 have hn := hC.1
 subst hn
 exact seal_of A c l w hC hl
theorem box2 {W : World} {B : Nat} {e s : Int} (h : W.heap[B]? = some (.cells #[.int .u8 e, .int .u32 s] 27 (0, 0))) : W.cell? ⟨B, 0, none⟩ = some (.int .u8 e) ∧ W.cell? ⟨B, 1, none⟩ = some (.int .u32 s) :=
 ⟨(Qcj h 0).trans rfl, (Qcj h 1).trans rfl⟩
theorem head_of (e s n : Int) (w : World) (hc : Qaz.f e s n = some 0) (he0 : 0 ≤ e) (he1 : e < 256) (hs0 : 0 ≤ s) (hs1 : s < 4294967296) (hn0 : 0 ≤ n) (hn1 : n < 4294967296) :
  Calls Tryz.prog 53 #[.agg #[.int .u8 e, .int .u32 s], .int .u32 n] w fun ee w' => ∃ v0_ : Value, ee = .returned (.tuple #[v0_, .int .i64 0]) ∧ R8 w' w.heap.size v0_ (Qgi e s n) ∧ Below w.heap.size w w' := by
 have hu := Tryz.underlying27
 have hl1 := Qft 9 s
 have hl2 := Qft 9 n
 have HC := QA hc
 clear hc
 have hba : Below w.heap.size w (w.alloc (.cells #[.int .u8 e, .int .u32 s] 27)) := Qbq (Below.refl _ _) _
 have hbn := Qct w (.cells #[.int .u8 e, .int .u32 s] 27)
 go_enter Tryz.func53, Tryz.ntmps53
 go_wp2_with (first
  | (go_at_call 93; refine (Qaz.calls e s n 0 _ HC.out).mono ?_; rintro ee w1 ⟨rfl, hb1⟩; have hk1 := Qcs hbn hb1; have hw1 := QA (Qbt hba hba.size hb1); have hs1' := QA (show w.heap.size < w1.heap.size from Qci hk1); have HI1 := QA (IsBuf.new w1 w.heap.size); have hk1' := Qcp hk1 (.cells #[.slice none 0 0] 167); obtain ⟨c0, c1⟩ := box2 hk1'; clear hk1 hb1 hbn hba))
 obtain ⟨W, hW⟩ : ∃ W, W = w1.alloc (.cells #[.slice none 0 0] 167) := ⟨_, rfl⟩
 have hbW : Below w1.heap.size w1 W := by rw [hW]; exact Qbq (Below.refl _ _) _
 rw [← hW] at hk1' c0 c1 HI1 ⊢
 clear hW
 have hkd := Qcs hk1' (Qbr (Below.refl W.heap.size W))
 have hId := HI1.out.kept (Qbr (Below.refl W.heap.size W))
 obtain ⟨j0, j1⟩ := box2 hkd
 have hg := Nat.le_of_lt hs1'.out
 have hzd : w.heap.size ≤ W.drew.heap.size := Nat.le_trans hg hbW.size
 have hne := Nat.ne_of_lt hs1'.out
 go_region_held3 (fun w' => w'.cell? ⟨w.heap.size, 0, none⟩ = some (.int .u8 e) ∧ w'.cell? ⟨w.heap.size, 1, none⟩ = some (.int .u32 s)) (first | exact ⟨j0, j1⟩ | exact ⟨i0, i1⟩ | exact ⟨i2, i3⟩ | exact ⟨i4, i5⟩) (first
  | (go_at_call_of 94 (Value.int .u8 1); refine (Qfc w.heap.size w1.heap.size 1 [] W.drew (by decide) (by decide) hg hzd hId (by simp)).mono ?_; rintro ee w2 ⟨rfl, hI2, hb2⟩; have hk2 := hb2.2 _ _ _ hkd (by decide) hne; obtain ⟨i0, i1⟩ := box2 hk2)
  | (go_at_call_of 94 (Value.int .u8 2); refine (Qfc w.heap.size w1.heap.size 2 ([] ++ [1]) w2 (by decide) (by decide) hg (Nat.le_trans hzd hb2.size) hI2 (by simp)).mono ?_; rintro ee w3 ⟨rfl, hI3, hb3⟩; have hk3 := hb3.2 _ _ _ hk2 (by decide) hne; obtain ⟨i2, i3⟩ := box2 hk3)
  | (go_at_call_of 94 (Value.int .u8 e); refine (Qfc w.heap.size w1.heap.size e ([] ++ [1] ++ [2]) w3 he0 he1 hg (Nat.le_trans (Nat.le_trans hzd hb2.size) hb3.size) hI3 (by simp)).mono ?_; rintro ee w4 ⟨rfl, hI4, hb4⟩; have hk4 := hb4.2 _ _ _ hk3 (by decide) hne; obtain ⟨i4, i5⟩ := box2 hk4))
 have hz4 : w.heap.size ≤ w4.heap.size := Nat.le_trans (Nat.le_trans (Nat.le_trans hzd hb2.size) hb3.size) hb4.size
 have HB4 := QA (show Below w.heap.size w w4 from ((((hw1.out.trans (Qfb hbW hg)).trans (Qfb (Qbr (Below.refl W.heap.size W)) (Nat.le_trans hg hbW.size))).trans hb2.1).trans hb3.1).trans hb4.1)
 clear i0 i1 i2 i3 j0 j1 hk2 hk3 hb2 hb3 hb4 hI2 hI3 hkd hId
 go_wp2_with (first
  | (go_at_call_of 95 (Value.int .u64 s); refine (Qfu w.heap.size w1.heap.size s _ w4 hs0 (by omega) hg hz4 hI4 (by simp)).mono ?_; rintro ee w5 ⟨⟨_, rfl⟩, hI5, hb5⟩)
  | (go_at_call_of 95 (Value.int .u64 n); refine (Qfu w.heap.size w1.heap.size n _ w5 hn0 (by omega) hg (Nat.le_trans hz4 hb5.size) hI5 (by simp; omega)).mono ?_; rintro ee w6 ⟨⟨_, rfl⟩, hI6, hb6⟩)
  | (go_at_call 97; refine (Qfe w.heap.size w1.heap.size _ w6 hI6 (by simp; omega)).mono ?_; rintro ee w7 ⟨v7, rfl, hR7, hb7⟩; obtain ⟨A7, n7, c7, rfl, hn7, hlc7, hC7⟩ := R8.reads hR7)
  | (go_at_call 96; refine (seal_at A7 n7 c7 _ w7 hC7 (by simp; omega)).mono ?_; rintro ee w8 ⟨v8, rfl, hR8, hb8⟩))
 refine bodyPost_ret (results_tmp2 rfl _ _ _) rfl ?_
 have hz6 : w.heap.size ≤ w6.heap.size := Nat.le_trans (Nat.le_trans hz4 hb5.size) hb6.size
 have hz7 : w.heap.size ≤ w7.heap.size := Nat.le_trans hz6 hb7.size
 exact ⟨v8, rfl, R8.low hR8 hz7, (((HB4.out.trans hb5.1).trans hb6.1).trans (Qfb hb7 hz6)).trans (Qfb hb8 hz7)⟩
theorem head_not (e s n c : Int) (w : World) (hc : Qaz.f e s n = some c) (hn : c ≠ 0) :
  Calls Tryz.prog 53 #[.agg #[.int .u8 e, .int .u32 s], .int .u32 n] w fun ee w' => ∃ v0_ : Value, ee = .returned (.tuple #[v0_, .int .i64 c]) ∧ R8 w' w.heap.size v0_ [] ∧ Below w.heap.size w w' := by
 have hu := Tryz.underlying27
 have HC := QA hc
 clear hc
 have hn1 : (c == 0) = false := by simpa using hn
 have hn2 : (c != 0) = true := by simpa using hn
 have hba : Below w.heap.size w (w.alloc (.cells #[.int .u8 e, .int .u32 s] 27)) := Qbq (Below.refl _ _) _
 go_enter Tryz.func53, Tryz.ntmps53
 go_wp2_with (go_at_call 93; refine (Qaz.calls e s n c _ HC.out).mono ?_; rintro ee w1 ⟨rfl, hb1⟩)
 refine bodyPost_ret (results_tmp2 rfl _ _ _) rfl ?_
 exact ⟨_, rfl, Kd.R_nil _ _ _ _ _, Qbt hba hba.size hb1⟩
theorem Qav.calls (a0_0 a0_1 a1 : Int) (r1 : List Int) (r2 : Int) (w : World) (h : Qav.f a0_0 a0_1 a1 = some (r1, r2)) :
  Calls Tryz.prog 53 #[.agg #[.int .u8 a0_0, .int .u32 a0_1], .int .u32 a1] w fun e w' => ∃ v0_ : Value, e = .returned (.tuple #[v0_, .int .i64 r2]) ∧ Kd.R (Kd.int .u8) 5 w' w.heap.size (fun _ => True) v0_ r1 ∧ Below w.heap.size w w' := by
 unfold Qav.f at h
 obtain ⟨c, hc, h⟩ := Option.bind_eq_some_iff.mp h
 by_cases h0 : c = 0
 ·subst h0
  rw [if_pos rfl] at h
  by_cases h1 : 0 ≤ a0_0 ∧ a0_0 < 256 ∧ 0 ≤ a0_1 ∧ a0_1 < 4294967296 ∧ 0 ≤ a1 ∧ a1 < 4294967296
  ·rw [if_pos h1] at h
   cases h
   exact head_of _ _ _ w hc h1.1 h1.2.1 h1.2.2.1 h1.2.2.2.1 h1.2.2.2.2.1 h1.2.2.2.2.2
  ·rw [if_neg h1] at h; cases h
 ·rw [if_neg h0] at h
  cases h
  exact head_not _ _ _ _ w hc h0
end Go.Proofs.YtnnofopfbeklbaaGreat.C
end
section
namespace Go.Proofs.YtnnofopfbeklbaaGreat.C
open Go.RowKit Go.Proofs.YtnnofopfbeklbaaGreatW.PrintWords Go.Proofs.YtnnofopfbeklbaaGreatW.PrintLast Go.Proofs.YtnnofopfbeklbaaGreatW.PrintMore
attribute [local go_sem] Qeh Qei Qej Qek Qel Qem Qen Qeo
def Qaw.f (a0_0 : Bool) (a0_1 : Int) (a0_2 : ByteArray) (a0_3 : ByteArray) : Option (List Int × Int) := (Qbj.f a0_0 a0_1 a0_2 a0_3).bind fun bt118 => (if bt118.2 = 0 then ((Qax.f bt118.1).bind fun t122 => (some (t122, 0))) else (some (([] : List Int), bt118.2)))
theorem Qaw.calls (a0_0 : Bool) (a0_1 : Int) (a0_2 : ByteArray) (a0_3 : ByteArray) (r1 : List Int) (r2 : Int) (w : World) (h : Qaw.f a0_0 a0_1 a0_2 a0_3 = some (r1, r2)) :
  Calls Tryz.prog 57 #[.agg #[.bool a0_0, .int .u64 a0_1, .string a0_2, .string a0_3]] w fun e w' => ∃ v0_ : Value, e = .returned (.tuple #[v0_, .int .i64 r2]) ∧ Kd.R (Kd.int .u8) 5 w' w.heap.size (fun _ => True) v0_ r1 ∧ Below w.heap.size w w' := by
 have hu39 := Tryz.underlying39
 have HB := QA (Below.refl w.heap.size w)
 have H : ((Qbj.f a0_0 a0_1 a0_2 a0_3).bind fun bt118 => (if bt118.2 = 0 then ((Qax.f bt118.1).bind fun t122 => (some (t122, 0))) else (some (([] : List Int), bt118.2)))) = some (r1, r2) := h
 clear h
 replace H := Option.bind_eq_some_iff.mp H
 obtain ⟨⟨t118, t121⟩, A20, H⟩ := H
 replace H : (if t121 = 0 then ((Qax.f t118).bind fun t122 => (some (t122, 0))) else (some (([] : List Int), t121))) = some (r1, r2) := H
 have A2 := QA A20
 clear A20
 by_cases c3 : t121 = 0
 ·rw [if_pos c3] at H
  have c3b0 : (t121 == 0) = true := beq_iff_eq.mpr c3
  have c3b1 : (t121 != 0) = false := bne_eq_false_iff_eq.mpr c3
  clear c3
  replace H := Option.bind_eq_some_iff.mp H
  obtain ⟨t122, A40, H⟩ := H
  replace H : (some (t122, 0)) = some (r1, r2) := H
  have A4 := QA A40
  clear A40
  simp only [Option.some.injEq, Prod.mk.injEq] at H
  obtain ⟨rfl, rfl⟩ := H
  go_enter Tryz.func57, Tryz.ntmps57
  go_wp2_with (first | ((with_reducible refine Qde (N := 1) rfl ?_); refine qq_e 1 #[.bool a0_0, .int .u64 a0_1, .string a0_2, .string a0_3] 39 ?_; intro gb117 hg w5 hbox hb; have n0_ := QA (Qcz qq_b hb); have n1_ := QA (hbox); have n2_ := QA ((qq_s hg : w.heap.size ≤ gb117)); have n3_ := QA ((qq_s hg : w.heap.size ≤ gb117)); clear HB; have HB := n0_; have BK117 := n1_; have GW117 := n2_; have GE117 := n3_; clear n0_ n1_ n2_ n3_; clear hb hbox hg; have hcz6_0 := qq_c (.bool a0_0) BK117.out 0 rfl; have hcz6_1 := qq_c (.int .u64 a0_1) BK117.out 1 rfl; have hcz6_2 := qq_c (.string a0_2) BK117.out 2 rfl; have hcz6_3 := qq_c (.string a0_3) BK117.out 3 rfl; have hfz6_0 := Qck BK117.out 0; have hfz6_1 := Qck BK117.out 1; have hfz6_2 := Qck BK117.out 2; have hfz6_3 := Qck BK117.out 3) | ((with_reducible refine Qep (f := 99) rfl ?_); refine Qdn (some 8) rfl rfl Tryz.func99 qq_6 rfl #[.agg #[.bool a0_0, .int .u64 a0_1, .string a0_2, .string a0_3]] rfl qq_1 ?_; (with_reducible refine (Qbj.calls a0_0 a0_1 a0_2 a0_3 t118 t121 _ A2.out).mono ?_); rintro e w7 ⟨v119, rfl, ho0, hb⟩; refine ⟨_, rfl, ?_⟩; have n0_ := QA (Kd.R_lower ho0 (Qcy qq_b)); have n1_ := QA (Qcs (g := gb117) (o := .cells #[.bool a0_0, .int .u64 a0_1, .string a0_2, .string a0_3] 39 (0, 0)) qq_0 hb); have n2_ := QA (Qcz qq_b hb); clear BK117; clear HB; have HO120 := n0_; have BK117 := n1_; have HB := n2_; clear n0_ n1_ n2_; (try clear hb); (try clear hb2); (try clear hk); (try clear hi); (try clear ho0); obtain ⟨Ao8, co8, eo8⟩ := Kd.R_slice HO120.out; subst eo8) | ((with_reducible refine Qep (f := 96) rfl ?_); refine Qdn (some 15) rfl rfl Tryz.func96 qq_6 rfl #[.slice Ao8 t118.length co8] rfl qq_1 ?_; (with_reducible refine (Qax.calls _ _ t118 t122 _ ?side1 ?side2 A4.out).mono ?_); (case side1 => repeat (first | exact (Kd.R_reads' HO120.out).2.2 | (with_reducible refine Kd.C_alloc ?_ _) | (with_reducible refine Kd.C_drewN ?_ _) | (with_reducible refine Kd.C_drew ?_))); (case side2 => exact (Kd.R_reads' HO120.out).2.1); rintro e w9 ⟨v123, rfl, ho0, hb⟩; refine ⟨_, rfl, ?_⟩; have n0_ := QA (Kd.R_elder' qq_2 (Kd.R_base ho0) hb); have n1_ := QA (Kd.R_lower (Kd.R_new' ho0 (Kd.R_lt qq_2)) (Qcy qq_b)); have n2_ := QA (Qcs (g := gb117) (o := .cells #[.bool a0_0, .int .u64 a0_1, .string a0_2, .string a0_3] 39 (0, 0)) qq_0 hb); have n3_ := QA (Qcz qq_b hb); clear HO120; clear BK117; clear HB; have HO120 := n0_; have HO124 := n1_; have BK117 := n2_; have HB := n3_; clear n0_ n1_ n2_ n3_; (try clear hb); (try clear hb2); (try clear hk); (try clear hi); (try clear ho0)))
  go_ret2
  exact ⟨_, by first | rfl | (simp [Qes, Qet] <;> rfl) | (simp [*, Qes, Qet] <;> rfl), by (with_reducible repeat (first | apply Kd.R_alloc | apply Kd.R_drewN | apply Kd.R_drew)); exact Kd.R_mono HO124.out (fun _ hk => trivial), qq_b⟩
 ·rw [if_neg c3] at H
  have c3b0 : (t121 == 0) = false := beq_eq_false_iff_ne.mpr c3
  have c3b1 : (t121 != 0) = true := bne_iff_ne.mpr c3
  simp only [Option.some.injEq, Prod.mk.injEq] at H
  obtain ⟨rfl, rfl⟩ := H
  go_enter Tryz.func57, Tryz.ntmps57
  go_wp2_with (first | ((with_reducible refine Qde (N := 1) rfl ?_); refine qq_e 1 #[.bool a0_0, .int .u64 a0_1, .string a0_2, .string a0_3] 39 ?_; intro gb117 hg w10 hbox hb; have n0_ := QA (Qcz qq_b hb); have n1_ := QA (hbox); have n2_ := QA ((qq_s hg : w.heap.size ≤ gb117)); have n3_ := QA ((qq_s hg : w.heap.size ≤ gb117)); clear HB; have HB := n0_; have BK117 := n1_; have GW117 := n2_; have GE117 := n3_; clear n0_ n1_ n2_ n3_; clear hb hbox hg; have hcz11_0 := qq_c (.bool a0_0) BK117.out 0 rfl; have hcz11_1 := qq_c (.int .u64 a0_1) BK117.out 1 rfl; have hcz11_2 := qq_c (.string a0_2) BK117.out 2 rfl; have hcz11_3 := qq_c (.string a0_3) BK117.out 3 rfl; have hfz11_0 := Qck BK117.out 0; have hfz11_1 := Qck BK117.out 1; have hfz11_2 := Qck BK117.out 2; have hfz11_3 := Qck BK117.out 3) | ((with_reducible refine Qep (f := 99) rfl ?_); refine Qdn (some 8) rfl rfl Tryz.func99 qq_6 rfl #[.agg #[.bool a0_0, .int .u64 a0_1, .string a0_2, .string a0_3]] rfl qq_1 ?_; (with_reducible refine (Qbj.calls a0_0 a0_1 a0_2 a0_3 t118 t121 _ A2.out).mono ?_); rintro e w12 ⟨v119, rfl, ho0, hb⟩; refine ⟨_, rfl, ?_⟩; have n0_ := QA (Kd.R_lower ho0 (Qcy qq_b)); have n1_ := QA (Qcs (g := gb117) (o := .cells #[.bool a0_0, .int .u64 a0_1, .string a0_2, .string a0_3] 39 (0, 0)) qq_0 hb); have n2_ := QA (Qcz qq_b hb); clear BK117; clear HB; have HO120 := n0_; have BK117 := n1_; have HB := n2_; clear n0_ n1_ n2_; (try clear hb); (try clear hb2); (try clear hk); (try clear hi); (try clear ho0)))
  go_ret2
  exact ⟨_, by first | rfl | (simp [Qes, Qet] <;> rfl) | (simp [*, Qes, Qet] <;> rfl), by first | exact Kd.R_nil _ _ _ _ _ | exact Kd.N_nil _ _ _ _ _ | exact Kd.V_nil _ _ _ _ _ | exact Kd.Q_nil _ _ _ _ _ | exact Kd.S_nil _ _ _ _ _, qq_b⟩
def Qbd.f (a0_0 : Int) (a0_1 : Int) (a1 : Int) : Option (Int × Int × Int × Int × Int × Int) := (Qav.f a0_0 a0_1 a1).bind fun bt108 => (if bt108.2 = 0 then (some (a0_0, a0_1, a1, (bt108.1.length : Int), 0, 0)) else (some (0, 0, 0, 0, 0, bt108.2)))
theorem Qbd.calls (a0_0 : Int) (a0_1 : Int) (a1 : Int) (r1 : Int) (r2 : Int) (r3 : Int) (r4 : Int) (r5 : Int) (r6 : Int) (w : World) (h : Qbd.f a0_0 a0_1 a1 = some (r1, r2, r3, r4, r5, r6)) :
  Calls Tryz.prog 52 #[.agg #[.int .u8 a0_0, .int .u32 a0_1], .int .u32 a1] w fun e w' => e = .returned (.tuple #[.agg #[.int .u8 r1, .int .u32 r2, .int .u32 r3, .int .i64 r4, .int .i64 r5], .int .i64 r6]) ∧ Below w.heap.size w w' := by
 have hu27 := Tryz.underlying27
 have hu47 := Tryz.underlying47
 have HB := QA (Below.refl w.heap.size w)
 have H : ((Qav.f a0_0 a0_1 a1).bind fun bt108 => (if bt108.2 = 0 then (some (a0_0, a0_1, a1, (bt108.1.length : Int), 0, 0)) else (some (0, 0, 0, 0, 0, bt108.2)))) = some (r1, r2, r3, r4, r5, r6) := h
 clear h
 replace H := Option.bind_eq_some_iff.mp H
 obtain ⟨⟨t108, t111⟩, A30, H⟩ := H
 replace H : (if t111 = 0 then (some (a0_0, a0_1, a1, (t108.length : Int), 0, 0)) else (some (0, 0, 0, 0, 0, t111))) = some (r1, r2, r3, r4, r5, r6) := H
 have A3 := QA A30
 clear A30
 by_cases c4 : t111 = 0
 ·rw [if_pos c4] at H
  have c4b0 : (t111 == 0) = true := beq_iff_eq.mpr c4
  have c4b1 : (t111 != 0) = false := bne_eq_false_iff_eq.mpr c4
  clear c4
  simp only [Option.some.injEq, Prod.mk.injEq] at H
  obtain ⟨rfl, rfl, rfl, rfl, rfl, rfl⟩ := H
  go_enter Tryz.func52, Tryz.ntmps52
  go_wp2_with (first | ((with_reducible refine Qde (N := 2) rfl ?_); refine qq_e 2 #[.int .u8 a0_0, .int .u32 a0_1] 27 ?_; intro gb106 hg w5 hbox hb; have n0_ := QA (Qcz qq_b hb); have n1_ := QA (hbox); have n2_ := QA ((qq_s hg : w.heap.size ≤ gb106)); have n3_ := QA ((qq_s hg : w.heap.size ≤ gb106)); clear HB; have HB := n0_; have BK106 := n1_; have GW106 := n2_; have GE106 := n3_; clear n0_ n1_ n2_ n3_; clear hb hbox hg) | ((with_reducible refine Qde (N := 4) rfl ?_); refine qq_e 4 #[.int .u8 0, .int .u32 0, .int .u32 0, .int .i64 0, .int .i64 0] 47 ?_; intro gb107 hg w6 hbox hb; have n0_ := QA (Qcs (g := gb106) (o := .cells #[.int .u8 a0_0, .int .u32 a0_1] 27 (0, 0)) qq_0 hb); have n1_ := QA (Qcz qq_b hb); have n2_ := QA (hbox); have n3_ := QA ((qq_s hg : w.heap.size ≤ gb107)); have n4_ := QA ((qq_s hg : w.heap.size ≤ gb107)); have n5_ := QA ((by rw [hg]; exact Nat.ne_of_lt (Qci (g := gb106) (o := .cells #[.int .u8 a0_0, .int .u32 a0_1] 27 (0, 0)) qq_0) : gb106 ≠ gb107)); have n6_ := QA ((by rw [hg]; exact Nat.ne_of_gt (Qci (g := gb106) (o := .cells #[.int .u8 a0_0, .int .u32 a0_1] 27 (0, 0)) qq_0) : gb107 ≠ gb106)); clear BK106; clear HB; have BK106 := n0_; have HB := n1_; have BK107 := n2_; have GW107 := n3_; have GE107 := n4_; have NB106_107 := n5_; have NB107_106 := n6_; clear n0_ n1_ n2_ n3_ n4_ n5_ n6_; clear hb hbox hg; have hnb7 := NB106_107.out; have hnc7 := NB107_106.out; have hcz8_0 := qq_c (.int .u8 a0_0) BK106.out 0 rfl; have hcz8_1 := qq_c (.int .u32 a0_1) BK106.out 1 rfl; have hfz8_0 := Qck BK106.out 0; have hfz8_1 := Qck BK106.out 1) | ((with_reducible refine Qep (f := 53) rfl ?_); refine Qdn (some 11) rfl rfl Tryz.func53 qq_6 rfl #[.agg #[.int .u8 a0_0, .int .u32 a0_1], .int .u32 a1] rfl qq_1 ?_; (with_reducible refine (Qav.calls a0_0 a0_1 a1 t108 t111 _ A3.out).mono ?_); rintro e w9 ⟨v109, rfl, ho0, hb⟩; refine ⟨_, rfl, ?_⟩; have n0_ := QA (Kd.R_lower ho0 (Qcy qq_b)); have n1_ := QA (Qcs (g := gb106) (o := .cells #[.int .u8 a0_0, .int .u32 a0_1] 27 (0, 0)) qq_0 hb); have n2_ := QA (Qcs (g := gb107) (o := .cells #[.int .u8 0, .int .u32 0, .int .u32 0, .int .i64 0, .int .i64 0] 47 (0, 0)) qq_0 hb); have n3_ := QA (Qcz qq_b hb); clear BK106; clear BK107; clear HB; have HO110 := n0_; have BK106 := n1_; have BK107 := n2_; have HB := n3_; clear n0_ n1_ n2_ n3_; (try clear hb); (try clear hb2); (try clear hk); (try clear hi); (try clear ho0); have hcz10_0 := qq_c (.int .u8 a0_0) BK106.out 0 rfl; have hcz10_1 := qq_c (.int .u32 a0_1) BK106.out 1 rfl; have hfz10_0 := Qck BK106.out 0; have hfz10_1 := Qck BK106.out 1; obtain ⟨Ao11, co11, eo11⟩ := Kd.R_slice HO110.out; subst eo11; have hcz12_0 := qq_c (.int .u8 0) BK107.out 0 rfl; have hcz12_1 := qq_c (.int .u32 0) BK107.out 1 rfl; have hcz12_2 := qq_c (.int .u32 0) BK107.out 2 rfl; have hcz12_3 := qq_c (.int .i64 0) BK107.out 3 rfl; have hcz12_4 := qq_c (.int .i64 0) BK107.out 4 rfl; have hfz12_0 := Qck BK107.out 0; have hfz12_1 := Qck BK107.out 1; have hfz12_2 := Qck BK107.out 2; have hfz12_3 := Qck BK107.out 3; have hfz12_4 := Qck BK107.out 4))
  refine bodyPost_ret (Qcu rfl _ _ gb107 47 #[.int .u8 a0_0, .int .u32 a0_1, .int .u32 a1, .int .i64 (t108.length : Int), .int .i64 0] (0, 0) _ rfl (by (with_reducible repeat (first | apply Qcr | apply Qcq | apply Qcp)); refine Qdb (cs := #[.int .u8 a0_0, .int .u32 a0_1, .int .u32 a1, .int .i64 (t108.length : Int), .int .i64 0]) ?_ 4 _ rfl; (with_reducible repeat (first | apply Qcr | apply Qcq | apply Qcp)); refine Qdb (cs := #[.int .u8 a0_0, .int .u32 a0_1, .int .u32 a1, .int .i64 0, .int .i64 0]) ?_ 3 _ rfl; (with_reducible repeat (first | apply Qcr | apply Qcq | apply Qcp)); refine Qdb (cs := #[.int .u8 a0_0, .int .u32 a0_1, .int .u32 0, .int .i64 0, .int .i64 0]) ?_ 2 _ rfl; (with_reducible repeat (first | apply Qcr | apply Qcq | apply Qcp)); refine Qdb (cs := #[.int .u8 a0_0, .int .u32 0, .int .u32 0, .int .i64 0, .int .i64 0]) ?_ 1 _ rfl; (with_reducible repeat (first | apply Qcr | apply Qcq | apply Qcp)); refine Qdb (cs := #[.int .u8 0, .int .u32 0, .int .u32 0, .int .i64 0, .int .i64 0]) ?_ 0 _ rfl; (with_reducible repeat (first | apply Qcr | apply Qcq | apply Qcp)); exact BK107.out) Tryz.underlying47 rfl qq_6) rfl ?_
  exact ⟨by first | rfl | (simp [Qes, Qet] <;> rfl) | (simp [*, Qes, Qet] <;> rfl), qq_b⟩
 ·rw [if_neg c4] at H
  have c4b0 : (t111 == 0) = false := beq_eq_false_iff_ne.mpr c4
  have c4b1 : (t111 != 0) = true := bne_iff_ne.mpr c4
  simp only [Option.some.injEq, Prod.mk.injEq] at H
  obtain ⟨rfl, rfl, rfl, rfl, rfl, rfl⟩ := H
  go_enter Tryz.func52, Tryz.ntmps52
  go_wp2_with (first | ((with_reducible refine Qde (N := 2) rfl ?_); refine qq_e 2 #[.int .u8 a0_0, .int .u32 a0_1] 27 ?_; intro gb106 hg w13 hbox hb; have n0_ := QA (Qcz qq_b hb); have n1_ := QA (hbox); have n2_ := QA ((qq_s hg : w.heap.size ≤ gb106)); have n3_ := QA ((qq_s hg : w.heap.size ≤ gb106)); clear HB; have HB := n0_; have BK106 := n1_; have GW106 := n2_; have GE106 := n3_; clear n0_ n1_ n2_ n3_; clear hb hbox hg) | ((with_reducible refine Qde (N := 4) rfl ?_); refine qq_e 4 #[.int .u8 0, .int .u32 0, .int .u32 0, .int .i64 0, .int .i64 0] 47 ?_; intro gb107 hg w14 hbox hb; have n0_ := QA (Qcs (g := gb106) (o := .cells #[.int .u8 a0_0, .int .u32 a0_1] 27 (0, 0)) qq_0 hb); have n1_ := QA (Qcz qq_b hb); have n2_ := QA (hbox); have n3_ := QA ((qq_s hg : w.heap.size ≤ gb107)); have n4_ := QA ((qq_s hg : w.heap.size ≤ gb107)); have n5_ := QA ((by rw [hg]; exact Nat.ne_of_lt (Qci (g := gb106) (o := .cells #[.int .u8 a0_0, .int .u32 a0_1] 27 (0, 0)) qq_0) : gb106 ≠ gb107)); have n6_ := QA ((by rw [hg]; exact Nat.ne_of_gt (Qci (g := gb106) (o := .cells #[.int .u8 a0_0, .int .u32 a0_1] 27 (0, 0)) qq_0) : gb107 ≠ gb106)); clear BK106; clear HB; have BK106 := n0_; have HB := n1_; have BK107 := n2_; have GW107 := n3_; have GE107 := n4_; have NB106_107 := n5_; have NB107_106 := n6_; clear n0_ n1_ n2_ n3_ n4_ n5_ n6_; clear hb hbox hg; have hnb15 := NB106_107.out; have hnc15 := NB107_106.out; have hcz16_0 := qq_c (.int .u8 a0_0) BK106.out 0 rfl; have hcz16_1 := qq_c (.int .u32 a0_1) BK106.out 1 rfl; have hfz16_0 := Qck BK106.out 0; have hfz16_1 := Qck BK106.out 1) | ((with_reducible refine Qep (f := 53) rfl ?_); refine Qdn (some 11) rfl rfl Tryz.func53 qq_6 rfl #[.agg #[.int .u8 a0_0, .int .u32 a0_1], .int .u32 a1] rfl qq_1 ?_; (with_reducible refine (Qav.calls a0_0 a0_1 a1 t108 t111 _ A3.out).mono ?_); rintro e w17 ⟨v109, rfl, ho0, hb⟩; refine ⟨_, rfl, ?_⟩; have n0_ := QA (Kd.R_lower ho0 (Qcy qq_b)); have n1_ := QA (Qcs (g := gb106) (o := .cells #[.int .u8 a0_0, .int .u32 a0_1] 27 (0, 0)) qq_0 hb); have n2_ := QA (Qcs (g := gb107) (o := .cells #[.int .u8 0, .int .u32 0, .int .u32 0, .int .i64 0, .int .i64 0] 47 (0, 0)) qq_0 hb); have n3_ := QA (Qcz qq_b hb); clear BK106; clear BK107; clear HB; have HO110 := n0_; have BK106 := n1_; have BK107 := n2_; have HB := n3_; clear n0_ n1_ n2_ n3_; (try clear hb); (try clear hb2); (try clear hk); (try clear hi); (try clear ho0); have hcz18_0 := qq_c (.int .u8 0) BK107.out 0 rfl; have hcz18_1 := qq_c (.int .u32 0) BK107.out 1 rfl; have hcz18_2 := qq_c (.int .u32 0) BK107.out 2 rfl; have hcz18_3 := qq_c (.int .i64 0) BK107.out 3 rfl; have hcz18_4 := qq_c (.int .i64 0) BK107.out 4 rfl; have hfz18_0 := Qck BK107.out 0; have hfz18_1 := Qck BK107.out 1; have hfz18_2 := Qck BK107.out 2; have hfz18_3 := Qck BK107.out 3; have hfz18_4 := Qck BK107.out 4))
  refine bodyPost_ret (Qcu rfl _ _ gb107 47 #[.int .u8 0, .int .u32 0, .int .u32 0, .int .i64 0, .int .i64 0] (0, 0) _ rfl (by (with_reducible repeat (first | apply Qcr | apply Qcq | apply Qcp)); refine Qdb (cs := #[.int .u8 0, .int .u32 0, .int .u32 0, .int .i64 0, .int .i64 0]) ?_ 4 _ rfl; (with_reducible repeat (first | apply Qcr | apply Qcq | apply Qcp)); refine Qdb (cs := #[.int .u8 0, .int .u32 0, .int .u32 0, .int .i64 0, .int .i64 0]) ?_ 3 _ rfl; (with_reducible repeat (first | apply Qcr | apply Qcq | apply Qcp)); refine Qdb (cs := #[.int .u8 0, .int .u32 0, .int .u32 0, .int .i64 0, .int .i64 0]) ?_ 2 _ rfl; (with_reducible repeat (first | apply Qcr | apply Qcq | apply Qcp)); refine Qdb (cs := #[.int .u8 0, .int .u32 0, .int .u32 0, .int .i64 0, .int .i64 0]) ?_ 1 _ rfl; (with_reducible repeat (first | apply Qcr | apply Qcq | apply Qcp)); refine Qdb (cs := #[.int .u8 0, .int .u32 0, .int .u32 0, .int .i64 0, .int .i64 0]) ?_ 0 _ rfl; (with_reducible repeat (first | apply Qcr | apply Qcq | apply Qcp)); exact BK107.out) Tryz.underlying47 rfl qq_6) rfl ?_
  exact ⟨by first | rfl | (simp [Qes, Qet] <;> rfl) | (simp [*, Qes, Qet] <;> rfl), qq_b⟩
end Go.Proofs.YtnnofopfbeklbaaGreat.C
end
