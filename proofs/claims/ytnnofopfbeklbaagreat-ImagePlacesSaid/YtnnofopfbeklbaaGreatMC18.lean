/- Texts of this claim's author and of the print of its functions, merged by merge.py. -/
import Derived.Test.YtnnofopfbeklbaaGreatMC02
import Derived.Test.YtnnofopfbeklbaaGreatMC11
import Derived.Test.YtnnofopfbeklbaaGreatMC05
import Derived.Test.YtnnofopfbeklbaaGreatMC17
import Derived.Test.YtnnofopfbeklbaaGreatMC10
import Derived.Test.YtnnofopfbeklbaaGreatMC12
import Derived.Test.YtnnofopfbeklbaaGreatMC08
import Derived.Test.YtnnofopfbeklbaaGreatMC09
set_option linter.unusedVariables false
set_option linter.unusedSimpArgs false
section
namespace Go.Proofs.YtnnofopfbeklbaaGreat.C
open Go.RowKit Go.Proofs.YtnnofopfbeklbaaGreatW.PrintWords Go.Proofs.YtnnofopfbeklbaaGreatW.PrintLast Go.Proofs.YtnnofopfbeklbaaGreatW.PrintMore
abbrev Room5 := Int × Int × Int × Int × Int
def IsBd (W : World) (b g : Nat) (R : Room5) (fr : List Int) (tb : List S117) : Prop :=
 ∃ fv tv, W.heap[g]? = some (.cells #[.int .u8 R.1, .int .u32 R.2.1, .int .u32 R.2.2.1, .int .i64 R.2.2.2.1, .int .i64 R.2.2.2.2, fv, tv] 108 (0, 0)) ∧ R8 W b fv fr ∧ Kd.R k117 117 W b (fun _ => True) tv tb
theorem IsBd.kept {W W' : World} {b g : Nat} {R : Room5} {fr : List Int} {tb : List S117} (h : IsBd W b g R fr tb) (hb : Below W.heap.size W W') : IsBd W' b g R fr tb := by
 obtain ⟨fv, tv, h1, h2, h3⟩ := h
 exact ⟨fv, tv, Qdg h1 hb, h2.kept hb, Kd.R_below h3 hb⟩
theorem room5 {W : World} {B : Nat} {e s n u c : Int} (h : W.heap[B]? = some (.cells #[.int .u8 e, .int .u32 s, .int .u32 n, .int .i64 u, .int .i64 c] 47 (0, 0))) :
  W.cell? ⟨B, 0, none⟩ = some (.int .u8 e) ∧ W.cell? ⟨B, 1, none⟩ = some (.int .u32 s) ∧ W.cell? ⟨B, 2, none⟩ = some (.int .u32 n) ∧ W.cell? ⟨B, 3, none⟩ = some (.int .i64 u) ∧ W.cell? ⟨B, 4, none⟩ = some (.int .i64 c) :=
 ⟨(Qcx h 0).trans rfl, (Qcx h 1).trans rfl, (Qcx h 2).trans rfl, (Qcx h 3).trans rfl, (Qcx h 4).trans rfl⟩
set_option maxRecDepth 100000 in
set_option maxHeartbeats 2000000 in
theorem bd_New (e s n u c : Int) (hd : List Int) (w : World) (hp : Qbp.f e s n = some (e, s, n, u, c, 0)) (hh : Qbg.f e s n = some (hd, 0)) :
  Calls Tryz.prog 18 #[.agg #[.int .u8 e, .int .u32 s], .int .u32 n] w fun ee w' => ∃ g, ee = .returned (.tuple #[.pointer (some ⟨g, 0, none⟩), .int .i64 0]) ∧ IsBd w' w.heap.size g (e, s, n, u, c) hd [] ∧ Below w.heap.size w w' ∧ w.heap.size ≤ g := by
 have hu := Tryz.underlying27
 have hu2 := Tryz.underlying47
 have hu3 := Tryz.underlying108
 have HP := QA hp
 have HH := QA hh
 clear hp hh
 have hba : Below w.heap.size w (w.alloc (.cells #[.int .u8 e, .int .u32 s] 27)) := Qcc (Below.refl _ _) _
 have hbn := Qdh w (.cells #[.int .u8 e, .int .u32 s] 27)
 go_enter Tryz.func18, Tryz.ntmps18
 go_wp2_with (first
  | (go_at_call 52; refine (Qbp.calls e s n _ _ _ _ _ _ _ HP.out).mono ?_; rintro ee w1 ⟨rfl, hb1⟩; have hk1 := Qdg hbn hb1; have hw1 := QA (Qcf hba hba.size hb1); have hs1 := QA (show w.heap.size < w1.heap.size from Qcw hk1); have hk1' := Qdd hk1 (.cells #[.int .u8 e, .int .u32 s, .int .u32 n, .int .i64 u, .int .i64 c] 47); obtain ⟨c0, c1⟩ := box2 hk1'; clear hk1 hb1 hbn hba)
  | (go_at_call 53; refine (Qbg.calls e s n hd 0 _ HH.out).mono ?_; rintro ee w3 ⟨v3, rfl, hR3, hb3⟩; have hk3 := Qdg (Qdh w1 (.cells #[.int .u8 e, .int .u32 s, .int .u32 n, .int .i64 u, .int .i64 c] 47)) hb3; obtain ⟨d0, d1, d2, d3, d4⟩ := room5 hk3; obtain ⟨A3, n3, c3, rfl⟩ := R8.shape hR3))
 refine bodyPost_ret (results_tmp2 rfl _ _ _) rfl ?_
 have hz1 := Nat.le_of_lt hs1.out
 have hbr : Below w1.heap.size w1 (w1.alloc (.cells #[.int .u8 e, .int .u32 s, .int .u32 n, .int .i64 u, .int .i64 c] 47)) := Qcc (Below.refl _ _) _
 have hz3 : w.heap.size ≤ w3.heap.size := Nat.le_trans (Nat.le_trans hz1 hbr.size) hb3.size
 refine ⟨w3.heap.size, rfl, ⟨_, _, Qdh w3 _, ?_, Kd.R_nil _ _ _ _ _⟩, ?_, hz3⟩
 ·exact R8.low (R8.kept hR3 (Qcc (Below.refl _ _) _)) (Nat.le_trans hz1 hbr.size)
 ·exact ((hw1.out.trans (Qgb hbr hz1)).trans (Qgb hb3 (Nat.le_trans hz1 hbr.size))).trans (Qgb (Qcc (Below.refl w3.heap.size w3) _) hz3)
set_option maxRecDepth 100000 in
set_option maxHeartbeats 1000000 in
theorem bd_Frames (b g : Nat) (R : Room5) (fr : List Int) (tb : List S117) (w : World) (hI : IsBd w b g R fr tb) (hl : fr.length ≤ 140737488355328) :
  Calls Tryz.prog 29 #[.pointer (some ⟨g, 0, none⟩)] w fun e w' => ∃ v : Value, e = .returned v ∧ R8 w' w.heap.size v fr ∧ Below w.heap.size w w' := by
 obtain ⟨fv, tv, hv, hR, hT⟩ := hI
 obtain ⟨A, n, c, rfl, hn, hlc, hC⟩ := R8.reads hR
 have hc : w.cell? ⟨g, 5, none⟩ = some (.slice A n c) := (Qcx hv 5).trans rfl
 have hcl := hC.1
 have hu3 := Tryz.underlying108
 have hcall : Calls Tryz.prog 70 #[.slice A n c] w fun e w' => ∃ v0_ : Value, e = .returned (v0_) ∧ R8 w' w.heap.size v0_ fr ∧ Below w.heap.size w w' := by
  subst hcl
  exact clone_of A c fr w hC hl
 clear hcl
 go_enter Tryz.func29, Tryz.ntmps29
 go_wp2_with (go_at_call 70; refine hcall.mono ?_; rintro e w' ⟨v1, rfl, hd, hb⟩)
 go_ret
 exact ⟨_, rfl, hd, hb⟩
set_option maxRecDepth 100000 in
set_option maxHeartbeats 2000000 in
theorem bd_whole (b0 b g : Nat) (R : Room5) (fr : List Int) (tb : List S117) (fs : List Int) (fsv : Value) (sz : Nat) (w : World) (hI : IsBd w b0 g R fr tb) (hF : R8 w b fsv fs) (hbw : b ≤ w.heap.size) (hsz : Qal.f R.1 R.2.1 = some (sz : Int)) (hle : fs.length ≤ sz) (hs2 : sz ≤ 70368744177664) :
  Calls Tryz.prog 69 #[.pointer (some ⟨g, 0, none⟩), fsv] w fun e w' => ∃ v : Value, e = .returned v ∧ R8 w' b v (fs ++ List.replicate (sz - fs.length) 255) ∧ Below b w w' := by
 obtain ⟨fv, tv, hv, hR, hT⟩ := hI
 obtain ⟨A, n, c, rfl, hn, hlc, hC⟩ := R8.reads hF
 have hnf : n = fs.length := hn.out
 have hc0 : w.cell? ⟨g, 0, none⟩ = some (.int .u8 R.1) := (Qcx hv 0).trans rfl
 have hc1 : w.cell? ⟨g, 1, none⟩ = some (.int .u32 R.2.1) := (Qcx hv 1).trans rfl
 have hu := Tryz.underlying27
 have hu2 := Tryz.underlying47
 have hu3 := Tryz.underlying108
 have hnsz : n ≤ sz := by omega
 have hsub : IntKind.i64.wrap ((sz : Int) - (n : Int)) = ((sz - n : Nat) : Int) := by rw [IntWalk.i64_in _ (by omega)]; omega
 have hsub2 : (sz : Int) - (n : Int) = ((sz - n : Nat) : Int) := by omega
 obtain ⟨k, hk⟩ : ∃ k, k = sz - n := ⟨_, rfl⟩
 rw [← hk] at hsub hsub2
 have HK := QA hk
 have HSZ := QA hsz
 have HF := QA hF
 have HNF := QA hnf
 clear hk hsz hF hnf
 go_enter Tryz.func69, Tryz.ntmps69
 go_wp2_with (first
  | (go_at_call 78; refine (Qal.calls _ _ _ _ HSZ.out).mono ?_; rintro e w1 ⟨rfl, hb1⟩)
  | (go_at_call 120; go_loud (refine (repeat_of _ _ 255 k _ (by have := HK.out; omega) ?hrep).mono ?_; (case hrep => exact Kd.C_of_reads (d := (0 : Int)) ⟨rfl, by omega, fun _ => ⟨_, rfl, fun j hj => by (obtain rfl : j = 0 := (by omega)); exact (Qcx (Qdh w1 _) 0).trans rfl⟩⟩); rintro e w2 ⟨A2, c2, rfl, hkc2, hC2, hb2⟩))
  | (at_builtin; refine Kd.R_append_rows (Kd.int .u8) (Rr := fun x cs => cs = [.int .u8 x]) (w0 := w) b rfl (.tmp 15) (.tmp 18) 52 5 (.int .u8 0) 1 rfl Tryz.underlying52 Qft rfl (by decide) (by omega) (.slice A n c) fs (List.replicate k 255) A2 k c2 (fun _ => True) (fun _ => False) rfl rfl ?bO hC2 (fun _ _ h => h) (fun _ hk => hk.elim) (fun _ _ => trivial) ?bB ?bS ?bL ?_; (case bO => exact R8.kept (R8.kept (R8.kept HF.out hb1) (Qcc (Below.refl _ _) _)) hb2); (case bB => exact ((Qgb hb1 hbw).trans (Qgb (Qcc (Below.refl w1.heap.size w1) _) (Nat.le_trans hbw hb1.size))).trans (Qgb hb2 (by rw [World.size_alloc]; have := hb1.size; omega)); ); (case bS => have h1 := hb1.size; have h2 := hb2.size; rw [World.size_alloc] at h2; omega); (case bL => have := HK.out; have := HNF.out; omega); intro v3 w3 HR3 hb3 hg3 hat3))
 go_ret
 refine ⟨v3, rfl, ?_, hb3⟩
 have e1 : k = sz - fs.length := by rw [HK.out, HNF.out]
 rw [← e1]
 exact HR3
set_option maxRecDepth 100000 in
set_option maxHeartbeats 1000000 in
theorem bd_Open (b g : Nat) (R : Room5) (fr : List Int) (tb : List S117) (sz : Nat) (w : World) (hI : IsBd w b g R fr tb) (hsz : Qal.f R.1 R.2.1 = some (sz : Int)) (hle : fr.length ≤ sz) (hs2 : sz ≤ 70368744177664) :
  Calls Tryz.prog 30 #[.pointer (some ⟨g, 0, none⟩)] w fun e w' => ∃ v : Value, e = .returned v ∧ R8 w' w.heap.size v (fr ++ List.replicate (sz - fr.length) 255) ∧ Below w.heap.size w w' := by
 go_enter Tryz.func30, Tryz.ntmps30
 go_wp2_with (first
  | (go_at_call 29; refine (bd_Frames b g R fr tb w hI (by omega)).mono ?_; rintro e w1 ⟨v1, rfl, hR1, hb1⟩)
  | (go_at_call 69; refine (bd_whole b w.heap.size g R fr tb fr v1 sz w1 (hI.kept hb1) hR1 hb1.size hsz hle hs2).mono ?_; rintro e w2 ⟨v2, rfl, hR2, hb2⟩))
 go_ret
 exact ⟨v2, rfl, hR2, hb1.trans hb2⟩
def Qhs (W : World) (g : Nat) (R : Room5) (fv tv : Value) : Prop := W.heap[g]? = some (.cells #[.int .u8 R.1, .int .u32 R.2.1, .int .u32 R.2.2.1, .int .i64 R.2.2.2.1, .int .i64 R.2.2.2.2, fv, tv] 108 (0, 0))
theorem Qht {W : World} {g : Nat} {R : Room5} {fv tv : Value} (h : Qhs W g R fv tv) :
  W.cell? ⟨g, 0, none⟩ = some (.int .u8 R.1) ∧ W.cell? ⟨g, 1, none⟩ = some (.int .u32 R.2.1) ∧ W.cell? ⟨g, 2, none⟩ = some (.int .u32 R.2.2.1) ∧ W.cell? ⟨g, 3, none⟩ = some (.int .i64 R.2.2.2.1) ∧ W.cell? ⟨g, 4, none⟩ = some (.int .i64 R.2.2.2.2) ∧ W.cell? ⟨g, 5, none⟩ = some fv ∧ W.cell? ⟨g, 6, none⟩ = some tv :=
 ⟨(Qcx h 0).trans rfl, (Qcx h 1).trans rfl, (Qcx h 2).trans rfl, (Qcx h 3).trans rfl, (Qcx h 4).trans rfl, (Qcx h 5).trans rfl, (Qcx h 6).trans rfl⟩
theorem info_ent : (Tryz.prog.info? 117).map (fun i => (i.zero, i.size, i.bytes)) = some (some (.agg #[.int .u64 0, .int .u32 0]), 2, 16) := by kernel_rfl
theorem bd_set5 {W : World} {b g : Nat} {R : Room5} (R' : Room5) {fv tv : Value} {fr : List Int} {tb : List S117} (hv : Qhs W g R fv tv) (hR : R8 W b fv fr) (hT : Kd.R k117 117 W b (fun _ => True) tv tb) (hbg : b ≤ g) :
  ∃ W', W' = (((((W.setCell ⟨g, 0, none⟩ (.int .u8 R'.1)).setCell ⟨g, 1, none⟩ (.int .u32 R'.2.1)).setCell ⟨g, 2, none⟩ (.int .u32 R'.2.2.1)).setCell ⟨g, 3, none⟩ (.int .i64 R'.2.2.2.1)).setCell ⟨g, 4, none⟩ (.int .i64 R'.2.2.2.2)) ∧
   Qhs W' g R' fv tv ∧ R8 W' b fv fr ∧ Kd.R k117 117 W' b (fun _ => True) tv tb ∧ Below b W W' ∧ ∀ k, k ≠ g → W'.heap[k]? = W.heap[k]? := by
 have ht : ∀ q, q ∈ 117 :: (k117).E → q ≠ 108 := by decide
 have b1 := Qcu hv 0 (.int .u8 R'.1)
 have b2 := Qcu b1 1 (.int .u32 R'.2.1)
 have b3 := Qcu b2 2 (.int .u32 R'.2.2.1)
 have b4 := Qcu b3 3 (.int .i64 R'.2.2.2.1)
 have b5 := Qcu b4 4 (.int .i64 R'.2.2.2.2)
 refine ⟨_, rfl, b5, ?_, ?_, ?_, fun k hk => ?_⟩
 ·exact R8.set (R8.set (R8.set (R8.set (R8.set hR hv (by decide) 0 _) b1 (by decide) 1 _) b2 (by decide) 2 _) b3 (by decide) 3 _) b4 (by decide) 4 _
 ·exact Kd.R_set (Kd.R_set (Kd.R_set (Kd.R_set (Kd.R_set hT hv ht 0 _) b1 ht 1 _) b2 ht 2 _) b3 ht 3 _) b4 ht 4 _
 ·exact Qga (Qga (Qga (Qga (Qga (Below.refl _ _) hbg) hbg) hbg) hbg) hbg
 ·rw [Below.heap_setCell _ _ _ k hk, Below.heap_setCell _ _ _ k hk, Below.heap_setCell _ _ _ k hk, Below.heap_setCell _ _ _ k hk, Below.heap_setCell _ _ _ k hk]
set_option maxRecDepth 100000 in
set_option maxHeartbeats 4000000 in
theorem bd_Add (b g : Nat) (R R' : Room5) (fr F : List Int) (tb : List S117) (d : Bool) (s : Int) (key v : ByteArray) (w : World) (hI : IsBd w b g R fr tb) (hbg : b ≤ g) (hbw : b ≤ w.heap.size)
  (hchk : chk d key v = 0) (hput : Qbh.f d s key v = some (F, 0)) (htl : Qbu.f R.1 R.2.1 F.length = some false) (htk : Qbt.f R.1 R.2.1 R.2.2.1 R.2.2.2.1 R.2.2.2.2 F.length = some (R'.1, R'.2.1, R'.2.2.1, R'.2.2.2.1, R'.2.2.2.2, 0))
  (hl : fr.length + F.length ≤ 70368744177664) (hk : key.size ≤ 70368744177664) (ht : tb.length ≤ 1099511627776) :
  Calls Tryz.prog 21 #[.pointer (some ⟨g, 0, none⟩), .agg #[.bool d, .int .u64 s, .string key, .string v]] w fun e w' => e = .returned (.tuple #[.int .u32 ((fr.length : Int) % 4294967296), .int .i64 0]) ∧ IsBd w' b g R' (fr ++ F) (tb ++ [⟨Qhn 0 (bytesOf key), (fr.length : Int) % 4294967296⟩]) ∧ Below b w w' := by
 have hu := Tryz.underlying39
 have hu1 := Tryz.underlying27
 have hu2 := Tryz.underlying47
 have hu3 := Tryz.underlying108
 obtain ⟨fv, tv, hv, hR, hT⟩ := hI
 obtain ⟨AT, nT, cT, rfl⟩ : ∃ A n c, tv = .slice A n c := by
  obtain ⟨A, c, e⟩ := Kd.R_slice hT
  exact ⟨A, _, c, e⟩
 obtain ⟨A, n, c, rfl, hn, hlc, hC⟩ := R8.reads hR
 have hv' : Qhs w g R (.slice A n c) (.slice AT nT cT) := hv
 have hgw : g < w.heap.size := Qcw hv
 have hcheck := chk_is d s key v
 rw [hchk] at hcheck
 have HCK := QA hcheck
 have HPU := QA hput
 have HTL := QA htl
 have HTK := QA htk
 have HR := QA hR
 have HT := QA hT
 have HV := QA hv'
 have hn0 := hn
 clear hcheck hput htl htk hchk hR hT hv hC hn hv'
 have hba : Below w.heap.size w (w.alloc (.cells #[.bool d, .int .u64 s, .string key, .string v] 39)) := Qcc (Below.refl _ _) _
 have hbn := Qdh w (.cells #[.bool d, .int .u64 s, .string key, .string v] 39)
 go_enter Tryz.func21, Tryz.ntmps21
 go_upto_region 12 with (first
  | (go_at_call 56; refine (Qbw.calls 1 _ s key v 0 _ HCK.out).mono ?_; rintro e w1 ⟨rfl, hb1⟩; have hB1 := QA (Qcf hba hba.size hb1); have hk1 := Qdg hbn hb1; obtain ⟨c0, c1, c2, c3⟩ := box4 hk1)
  | (go_at_call 57; refine (Qbh.calls _ s key v F 0 _ HPU.out).mono ?_; rintro e w2 ⟨vF, rfl, hRF, hb2⟩; have hB2 := QA (Qcf hB1.out hB1.out.size hb2); have hk2 := Qdg hk1 hb2; obtain ⟨AF, nF, cF, rfl, hnF, hlF, hCF⟩ := R8.reads hRF; have hv2 : Qhs w2 g R (.slice A n c) (.slice AT nT cT) := Qdg HV.out hB2.out; obtain ⟨g0, g1, g2, g3, g4, g5, g6⟩ := Qht hv2; clear c0 c1 c2 c3)
  | (go_at_call 58; refine (Qbu.calls _ _ _ false _ (by rw [hnF.out]; exact HTL.out)).mono ?_; rintro e w3 ⟨rfl, hb3⟩; have hB3 := QA (Qcf hB2.out hB2.out.size hb3); have hk3 := Qdg hk2 hb3; have hv3 : Qhs w3 g R (.slice A n c) (.slice AT nT cT) := Qdg HV.out hB3.out; obtain ⟨h0, h1, h2, h3, h4, h5, h6⟩ := Qht hv3; clear g0 g1 g2 g3 g4 g5 g6)
  | (go_at_call 59; refine (Qbt.calls _ _ _ _ _ _ _ _ _ _ _ _ _ (by rw [hnF.out]; exact HTK.out)).mono ?_; rintro e w4 ⟨rfl, hb4⟩; have hB4 := QA (Qcf hB3.out hB3.out.size hb4); have hk4 := Qdg hk3 hb4; have hv4 : Qhs w4 g R (.slice A n c) (.slice AT nT cT) := Qdg HV.out hB4.out; have hv5 : Qhs (w4.alloc (.cells #[.int .u8 R'.1, .int .u32 R'.2.1, .int .u32 R'.2.2.1, .int .i64 R'.2.2.2.1, .int .i64 R'.2.2.2.2] 47)) g R (.slice A n c) (.slice AT nT cT) := Qdd hv4 _; obtain ⟨i0, i1, i2, i3, i4, i5, i6⟩ := Qht hv5; have f0 := Qcy hv5 0; have f1 := Qcy hv5 1; have f2 := Qcy hv5 2; have f3 := Qcy hv5 3; have f4 := Qcy hv5 4; have f5 := Qcy hv5 5; clear h0 h1 h2 h3 h4 h5 h6))
 have hv5 : Qhs (w4.alloc (.cells #[.int .u8 R'.1, .int .u32 R'.2.1, .int .u32 R'.2.2.1, .int .i64 R'.2.2.2.1, .int .i64 R'.2.2.2.2] 47)) g R (.slice A n c) (.slice AT nT cT) := Qdd hv4 _
 have hb5 : Below w4.heap.size w4 (w4.alloc (.cells #[.int .u8 R'.1, .int .u32 R'.2.1, .int .u32 R'.2.2.1, .int .i64 R'.2.2.2.1, .int .i64 R'.2.2.2.2] 47)) := Qcc (Below.refl _ _) _
 have hB5 := Qcf hB4.out hB4.out.size hb5
 obtain ⟨W6, hW6, hv6, hR6, hT6, hb6, hk6⟩ := bd_set5 R' hv5 (R8.kept HR.out hB5) (Kd.R_below HT.out hB5) hbg
 rw [← hW6]
 have hs6 : w4.heap.size ≤ W6.heap.size := Nat.le_trans hb5.size hb6.size
 clear hW6 i0 i1 i2 i3 i4 i5 i6 f0 f1 f2 f3 f4 f5
 obtain ⟨m0, m1, m2, m3, m4, m5, m6⟩ := Qht hv6
 have hg1 : g < w1.heap.size := Nat.lt_of_lt_of_le hgw hB1.out.size
 have hRF5 := R8.kept (R8.kept (R8.kept hRF hb3) hb4) hb5
 have hRF6 : R8 W6 w1.heap.size (.slice AF nF cF) F := Kd.R_mono (Kd.R_step (Kd.R_bound hRF5) (fun k hk _ => hk6 k (by have := hk.2.1; omega))) (fun _ _ => trivial)
 have hCF6 : Kd.C (Kd.int .u8) W6 AF nF F := by
  have h := Kd.R_reads' hRF6
  rw [h.1]
  exact h.2.2
 have hB6 := QA ((Qgb hB5 hbw).trans hb6)
 have hz6 : b ≤ W6.heap.size := Nat.le_trans hbw hB6.out.size
 clear hRF5 hRF6 hRF
 go_wp2_with (first
  | (at_builtin; go_loud (refine Kd.R_append_rows (Kd.int .u8) (Rr := fun x cs => cs = [.int .u8 x]) (w0 := W6) b rfl (.tmp 57) (.tmp 58) 52 5 (.int .u8 0) 1 rfl Tryz.underlying52 Qft rfl (by decide) (by omega) (.slice A n c) fr F AF nF cF (fun _ => True) (fun _ => False) rfl rfl hR6 hCF6 (fun _ _ h => h) (fun _ hk => hk.elim) (fun _ _ => trivial) (Below.refl _ _) hz6 ?bL ?_; (case bL => have := hnF.out; omega); intro v7 w7 HR7 hb7 hg7 hat7; obtain ⟨A7, n7, c7, rfl⟩ := R8.shape HR7; have hv7 : Qhs w7 g R' (.slice A n c) (.slice AT nT cT) := Qcz hv6 hg7 (R8.clean hR6 hv6 (by decide)); obtain ⟨p0, p1, p2, p3, p4, p5, p6⟩ := Qht hv7; have f5 := Qcy hv7 5; clear m0 m1 m2 m3 m4 m5 m6)))
 have hgB : w.heap.size ≠ g := by omega
 have q5 := Qdd hk4 (.cells #[.int .u8 R'.1, .int .u32 R'.2.1, .int .u32 R'.2.2.1, .int .i64 R'.2.2.2.1, .int .i64 R'.2.2.2.2] 47)
 have q6 := (hk6 _ hgB).trans q5
 have q7 := Qcz q6 hg7 (R8.clean hR6 q6 (by decide))
 have hT7 := Kd.R_over' hT6 (Kd.R_typed hR6) (by decide) hg7
 have ht : ∀ q, q ∈ 117 :: (k117).E → q ≠ 108 := by decide
 obtain ⟨W8, hW8⟩ : ∃ W8, W8 = w7.setCell ⟨g, 5, none⟩ (.slice A7 n7 c7) := ⟨_, rfl⟩
 have q8 : W8.heap[w.heap.size]? = some (.cells #[.bool d, .int .u64 s, .string key, .string v] 39 (0, 0)) := by rw [hW8]; exact Qcv q7 hgB _
 have hv8 : Qhs W8 g R' (.slice A7 n7 c7) (.slice AT nT cT) := by rw [hW8]; exact Qcu hv7 5 _
 have hR8 : R8 W8 b (.slice A7 n7 c7) (fr ++ F) := by rw [hW8]; exact R8.set HR7 hv7 (by decide) 5 _
 have hT8 : Kd.R k117 117 W8 b (fun _ => True) (.slice AT nT cT) tb := by rw [hW8]; exact Kd.R_set hT7 hv7 ht 5 _
 have hB8 : Aside0 (Below b w W8) := ⟨by rw [hW8]; exact Qga (hB6.out.trans hb7) hbg⟩
 rw [← hW8]
 clear hW8
 have HR8 := QA hR8
 have HT8 := QA hT8
 clear hR8 hT8 hT7 hT6 hR6 HR7 q5 q6 q7 hv7
 obtain ⟨r0, r1, r2, r3⟩ := box4 q8
 obtain ⟨s0, s1, s2, s3, s4, s5, s6⟩ := Qht hv8
 have hz8 : b ≤ W8.heap.size := Nat.le_trans hbw hB8.out.size
 clear p0 p1 p2 p3 p4 p5 p6
 have hnn : n = fr.length := hn0.out
 have HNN := QA hnn
 clear hnn
 go_region_law (first
  | (go_simp; go_at_call 60; refine (hash_of key W8.drew (by omega)).mono ?_; rintro e w9 ⟨rfl, hb9⟩; have hv9 : Qhs w9 g R' (.slice A7 n7 c7) (.slice AT nT cT) := Qdg (w := W8.drew) hv8 hb9; have hB9 : Aside0 (Below b w w9) := ⟨(hB8.out.trans (Qcd (Below.refl _ _))).trans (Qgb hb9 hz8)⟩; have HR9 := QA (R8.kept (W := W8.drew) HR8.out hb9); have HT9 := QA (Kd.R_below (w := W8.drew) HT8.out hb9); obtain ⟨u0, u1, u2, u3, u4, u5, u6⟩ := Qht hv9; have a6 : ∀ o, (w9.alloc o).cell? ⟨g, 6, none⟩ = some (.slice AT nT cT) := (fun o => (Qht (Qdd hv9 o)).2.2.2.2.2.2))
  | (refine Kd.R_append_step k117 (w0 := w) b (by rfl) (.tmp 66) (.tmp 72) 106 117 (.agg #[(.int .u64 0), (.int .u32 0)]) 16 rfl Tryz.underlying106 info_ent rfl (by decide) (by omega) (.slice AT nT cT) tb (⟨Qhn 0 (bytesOf key), (n : Int) % 4294967296⟩ : S117) [.int .u64 (Qhn 0 (bytesOf key)), .int .u32 ((n : Int) % 4294967296)] (fun _ => True) (fun _ => False) rfl ?ax ?aP (fun _ hk => hk.elim) (fun _ _ => trivial) ?aO hB9.out ?aS ?aL ?_; (case ax => rfl); (case aP => exact k117_mkM _ _ _ (⟨Qhn 0 (bytesOf key), (n : Int) % 4294967296⟩ : S117)); (case aO => exact HT9.out); (case aS => exact Nat.le_trans hbw hB9.out.size); (case aL => omega); intro v10 w10 HR10 hb10 hg10 hat10; obtain ⟨A10, n10, c10, rfl⟩ : ∃ A n c, v10 = .slice A n c := (by obtain ⟨A, c, e⟩ := Kd.R_slice HR10; exact ⟨A, _, c, e⟩); have hv10 : Qhs w10 g R' (.slice A7 n7 c7) (.slice AT nT cT) := Qcz hv9 hg10 (Kd.R_ne HT9.out hv9 (by decide)); have HR10' := QA (Kd.R_over' HR9.out (Kd.R_typed HT9.out) (by decide) hg10); obtain ⟨x0, x1, x2, x3, x4, x5, x6⟩ := Qht hv10; have fx := Qcy hv10 6; clear u0 u1 u2 u3 u4 u5 u6 a6))
 all_goals
  go_wp2
  refine bodyPost_ret (results_tmp2 rfl _ _ _) rfl ?_
  refine ⟨by (rw [← HNN.out]; rfl), ⟨_, _, Qcu hv10 6 _, R8.set HR10'.out hv10 (by decide) 6 _, ?_⟩, Qga hb10 hbg⟩
  rw [← HNN.out]
  exact Kd.R_set HR10 hv10 ht 6 _
end Go.Proofs.YtnnofopfbeklbaaGreat.C
end
section
namespace Go.Proofs.YtnnofopfbeklbaaGreat.C
open Go.RowKit Go.Proofs.YtnnofopfbeklbaaGreatW.PrintWords Go.Proofs.YtnnofopfbeklbaaGreatW.PrintLast Go.Proofs.YtnnofopfbeklbaaGreatW.PrintMore
attribute [local go_sem] Qfg Qfh Qfi Qfj Qfk Qfl Qfm Qfn
def Qag.l0 : Nat → Int → List Int → Int → Int → Option (Int)
 | 0, _, _, _, _ => none
 | k + 1, x3, x6, x7, x8 => if x8 < x7 then (if 0 ≤ x8 then (if x8 < (x6.length : Int) then (if (rd x6 x8) = x3 then (Qag.l0 k x3 x6 x7 (wrap64 (x8 + 1))) else (some (rd x6 x8))) else (none)) else (none)) else (some x3)
def Qag.f (k : Nat) (l0 : List Int) : Option (Int) := Qag.l0 k 0 l0 (l0.length : Int) 0
theorem Qag.mono_l : ∀ k, (∀ y0 y1 y2 y3, LeO (Qag.l0 k y0 y1 y2 y3) (Qag.l0 (k + 1) y0 y1 y2 y3))
 | 0 => fun _ _ _ _ r h => by simp [Qag.l0] at h
 | k + 1 => by
  have ih0 := Qag.mono_l k
  ·intro y0 y1 y2 y3
   unfold Qag.l0
   repeat' first
   | (with_reducible exact ih0 _ _ _ _)
   | (with_reducible exact LeO.refl _)
   | (with_reducible exact LeO.none _)
   | (with_reducible refine LeO.ite ?_ ?_)
   | (with_reducible refine LeO.bind ?_ (fun _ => ?_))
   | exact ih0 _ _ _ _
   | exact LeO.none _
   | refine LeO.ite ?_ ?_
   | refine LeO.bind ?_ (fun _ => ?_)
theorem Qag.mono : ∀ a0 k, LeO (Qag.f k a0) (Qag.f (k + 1) a0) := by
 intro a0 k
 have ih0 := Qag.mono_l k
 unfold Qag.f
 repeat' first
   | (with_reducible exact ih0 _ _ _ _)
   | (with_reducible exact LeO.refl _)
   | (with_reducible exact LeO.none _)
   | (with_reducible refine LeO.ite ?_ ?_)
   | (with_reducible refine LeO.bind ?_ (fun _ => ?_))
   | exact ih0 _ _ _ _
   | exact LeO.none _
   | refine LeO.ite ?_ ?_
   | refine LeO.bind ?_ (fun _ => ?_)
set_option maxHeartbeats 8000000 in
set_option maxRecDepth 100000 in
theorem Qag.calls (k : Nat) (A0 : Option Addr) (c0 : Nat) (l0 : List Int) (r : Int) (w : World) (hr0 : Kd.C (Kd.int .i64) w A0 l0.length l0) (hc0 : l0.length ≤ c0) (h : Qag.f k l0 = some r) :
  Calls Tryz.prog 165 #[.slice A0 l0.length c0] w fun e w' => e = .returned (.int .i64 r) ∧ Drawn0 w w' := by
 have HR0 := QA hr0
 have HC0 := QA hc0
 clear hr0 hc0
 have H : (Qag.l0 k 0 l0 (l0.length : Int) 0) = some r := h
 clear h
 have H' := QA H
 clear H
 go_enter Tryz.func165, Tryz.ntmps165
 go_wp2
 go_loopg [8] k (fun kq v8 w' => ∃ (x8_1 : Int), v8 = .int .i64 x8_1 ∧ Aside0 (Qag.l0 kq 0 l0 (l0.length : Int) x8_1 = some r) ∧ Aside0 (kq ≤ k) ∧ Drawn0 w w')
 case atStart => exact ⟨(0), (by first | rfl | (simp; done) | (simp [*]; done)), H', ⟨Nat.le_refl _⟩, by repeat (first | exact Drawn0.refl _ | apply Drawn0.step)⟩
 case round =>
  clear H'
  obtain ⟨x8_1, rfl, HA, HK1, ⟨m1, rfl⟩⟩ := hrel
  cases gk with
  | zero => exact absurd HA.out (by simp [Qag.l0])
  | succ k1 =>
   have H := HA.out
   clear HA
   simp only [Qag.l0] at H
   by_cases c2 : x8_1 < (l0.length : Int)
   ·rw [if_pos c2] at H
    have c2b0 : decide (x8_1 < (l0.length : Int)) = true := decide_eq_true c2
    clear c2
    by_cases c3 : 0 ≤ x8_1
    ·rw [if_pos c3] at H
     have c3b0 : decide (0 ≤ x8_1) = true := decide_eq_true c3
     clear c3
     by_cases c4 : x8_1 < (l0.length : Int)
     ·rw [if_pos c4] at H
      have c4b0 : decide (x8_1 < (l0.length : Int)) = true := decide_eq_true c4
      clear c4
      by_cases c5 : (rd l0 x8_1) = 0
      ·rw [if_pos c5] at H
       have c5b0 : ((rd l0 x8_1) == 0) = true := beq_iff_eq.mpr c5
       have c5b1 : ((rd l0 x8_1) != 0) = false := bne_eq_false_iff_eq.mpr c5
       clear c5
       have H' := QA H
       clear H
       have p208 : 0 ≤ (x8_1 : Int) := of_decide_eq_true (by first | (with_reducible assumption) | assumption)
       have q208 : x8_1 < (l0.length : Int) := of_decide_eq_true (by first | (with_reducible assumption) | assumption)
       obtain ⟨ad208, e208, hx208_0⟩ := Kd.at_int HR0.out x8_1 p208 q208
       cases e208
       replace p208 := eq_true p208
       replace q208 := eq_true q208
       go_wp2
       go_roundg k1
       case measure => have := HK1.out; omega
       case rel => exact ⟨(wrap64 (x8_1 + 1)), (by first | rfl | (simp; done) | (simp [*]; done)), H', ⟨by have := HK1.out; omega⟩, by repeat (first | exact Drawn0.refl _ | apply Drawn0.step)⟩
      ·rw [if_neg c5] at H
       have c5b0 : ((rd l0 x8_1) == 0) = false := beq_eq_false_iff_ne.mpr c5
       have c5b1 : ((rd l0 x8_1) != 0) = true := bne_iff_ne.mpr c5
       obtain rfl := Option.some.inj H
       have p208 : 0 ≤ (x8_1 : Int) := of_decide_eq_true (by first | (with_reducible assumption) | assumption)
       have q208 : x8_1 < (l0.length : Int) := of_decide_eq_true (by first | (with_reducible assumption) | assumption)
       obtain ⟨ad208, e208, hx208_0⟩ := Kd.at_int HR0.out x8_1 p208 q208
       cases e208
       replace p208 := eq_true p208
       replace q208 := eq_true q208
       go_wp2
       go_ret
       exact ⟨by first | rfl | (simp; done) | (simp [*]; done), by repeat (first | exact Drawn0.refl _ | apply Drawn0.step)⟩
     ·rw [if_neg c4] at H
      exact absurd H (by simp)
    ·rw [if_neg c3] at H
     exact absurd H (by simp)
   ·rw [if_neg c2] at H
    have c2b0 : decide (x8_1 < (l0.length : Int)) = false := decide_eq_false c2
    clear c2
    obtain rfl := Option.some.inj H
    go_wp2
    go_ret
    exact ⟨by first | rfl | (simp; done) | (simp [*]; done), by repeat (first | exact Drawn0.refl _ | apply Drawn0.step)⟩
def Qah.f (a0 : Int) : Option (Bool) := some (a0 != a0)
set_option maxHeartbeats 8000000 in
set_option maxRecDepth 100000 in
theorem Qah.calls (a0 : Int) (r : Bool) (w : World) (h : Qah.f a0 = some r) :
  Calls Tryz.prog 216 #[.int .u32 a0] w fun e w' => e = .returned (.bool r) ∧ Drawn0 w w' := by
 have H : (some (a0 != a0)) = some r := h
 clear h
 obtain rfl := Option.some.inj H
 go_enter Tryz.func216, Tryz.ntmps216
 go_wp2
 go_ret
 exact ⟨by first | rfl | (simp; done) | (simp [*]; done), by repeat (first | exact Drawn0.refl _ | apply Drawn0.step)⟩
def Qae.f (a0 : Int) (a1 : Int) : Option (Int) := (Qah.f a0).bind fun t211 => ((Qah.f a1).bind fun t212 => (if t211 = true then (if t212 = true then (some 0) else (some (-1))) else (if t212 = true then (some 1) else (if a0 < a1 then (some (-1)) else (if a0 > a1 then (some 1) else (some 0))))))
set_option maxHeartbeats 8000000 in
set_option maxRecDepth 100000 in
theorem Qae.calls (a0 : Int) (a1 : Int) (r : Int) (w : World) (h : Qae.f a0 a1 = some r) :
  Calls Tryz.prog 167 #[.int .u32 a0, .int .u32 a1] w fun e w' => e = .returned (.int .i64 r) ∧ Drawn0 w w' := by
 have H : ((Qah.f a0).bind fun t211 => ((Qah.f a1).bind fun t212 => (if t211 = true then (if t212 = true then (some 0) else (some (-1))) else (if t212 = true then (some 1) else (if a0 < a1 then (some (-1)) else (if a0 > a1 then (some 1) else (some 0))))))) = some r := h
 clear h
 replace H := Option.bind_eq_some_iff.mp H
 obtain ⟨t211, A30, H⟩ := H
 replace H : ((Qah.f a1).bind fun t212 => (if t211 = true then (if t212 = true then (some 0) else (some (-1))) else (if t212 = true then (some 1) else (if a0 < a1 then (some (-1)) else (if a0 > a1 then (some 1) else (some 0)))))) = some r := H
 have A3 := QA A30
 clear A30
 replace H := Option.bind_eq_some_iff.mp H
 obtain ⟨t212, A40, H⟩ := H
 replace H : (if t211 = true then (if t212 = true then (some 0) else (some (-1))) else (if t212 = true then (some 1) else (if a0 < a1 then (some (-1)) else (if a0 > a1 then (some 1) else (some 0))))) = some r := H
 have A4 := QA A40
 clear A40
 by_cases c5 : t211 = true
 ·subst c5
  have H1 : (if t212 = true then (some 0) else (some (-1))) = some r := by rw [if_pos rfl] at H; exact H
  clear H
  have H := H1
  clear H1
  by_cases c6 : t212 = true
  ·subst c6
   have H1 : (some 0) = some r := by rw [if_pos rfl] at H; exact H
   clear H
   have H := H1
   clear H1
   obtain rfl := Option.some.inj H
   go_enter Tryz.func167, Tryz.ntmps167
   go_wp2_with (first | ((with_reducible refine Qfo (f := 216) rfl ?_); refine Qej (some 8) rfl rfl Tryz.func216 (by kernel_rfl) rfl #[.int .u32 a0] rfl (by (try simp only [List.map_toArray, List.map_cons, List.map_nil]); first | done | rfl | (simp only [List.length_drop, List.length_take]; rfl)) ?_; (with_reducible refine (Qah.calls a0 true _ A3.out).mono ?_); rintro e w' ⟨rfl, ⟨nd, rfl⟩⟩; refine ⟨_, rfl, ?_⟩) | ((with_reducible refine Qfo (f := 216) rfl ?_); refine Qej (some 10) rfl rfl Tryz.func216 (by kernel_rfl) rfl #[.int .u32 a1] rfl (by (try simp only [List.map_toArray, List.map_cons, List.map_nil]); first | done | rfl | (simp only [List.length_drop, List.length_take]; rfl)) ?_; (with_reducible refine (Qah.calls a1 true _ A4.out).mono ?_); rintro e w' ⟨rfl, ⟨nd, rfl⟩⟩; refine ⟨_, rfl, ?_⟩))
   go_ret
   exact ⟨by first | rfl | (simp; done) | (simp [*]; done), by repeat (first | exact Drawn0.refl _ | apply Drawn0.step)⟩
  ·replace c6 := Bool.eq_false_iff.mpr c6
   subst c6
   have H1 : (some (-1)) = some r := by rw [if_neg (show ¬ (false = true) by decide)] at H; exact H
   clear H
   have H := H1
   clear H1
   obtain rfl := Option.some.inj H
   go_enter Tryz.func167, Tryz.ntmps167
   go_wp2_with (first | ((with_reducible refine Qfo (f := 216) rfl ?_); refine Qej (some 8) rfl rfl Tryz.func216 (by kernel_rfl) rfl #[.int .u32 a0] rfl (by (try simp only [List.map_toArray, List.map_cons, List.map_nil]); first | done | rfl | (simp only [List.length_drop, List.length_take]; rfl)) ?_; (with_reducible refine (Qah.calls a0 true _ A3.out).mono ?_); rintro e w' ⟨rfl, ⟨nd, rfl⟩⟩; refine ⟨_, rfl, ?_⟩) | ((with_reducible refine Qfo (f := 216) rfl ?_); refine Qej (some 10) rfl rfl Tryz.func216 (by kernel_rfl) rfl #[.int .u32 a1] rfl (by (try simp only [List.map_toArray, List.map_cons, List.map_nil]); first | done | rfl | (simp only [List.length_drop, List.length_take]; rfl)) ?_; (with_reducible refine (Qah.calls a1 false _ A4.out).mono ?_); rintro e w' ⟨rfl, ⟨nd, rfl⟩⟩; refine ⟨_, rfl, ?_⟩))
   go_ret
   exact ⟨by first | rfl | (simp; done) | (simp [*]; done), by repeat (first | exact Drawn0.refl _ | apply Drawn0.step)⟩
 ·replace c5 := Bool.eq_false_iff.mpr c5
  subst c5
  have H1 : (if t212 = true then (some 1) else (if a0 < a1 then (some (-1)) else (if a0 > a1 then (some 1) else (some 0)))) = some r := by rw [if_neg (show ¬ (false = true) by decide)] at H; exact H
  clear H
  have H := H1
  clear H1
  by_cases c7 : t212 = true
  ·subst c7
   have H1 : (some 1) = some r := by rw [if_pos rfl] at H; exact H
   clear H
   have H := H1
   clear H1
   obtain rfl := Option.some.inj H
   go_enter Tryz.func167, Tryz.ntmps167
   go_wp2_with (first | ((with_reducible refine Qfo (f := 216) rfl ?_); refine Qej (some 8) rfl rfl Tryz.func216 (by kernel_rfl) rfl #[.int .u32 a0] rfl (by (try simp only [List.map_toArray, List.map_cons, List.map_nil]); first | done | rfl | (simp only [List.length_drop, List.length_take]; rfl)) ?_; (with_reducible refine (Qah.calls a0 false _ A3.out).mono ?_); rintro e w' ⟨rfl, ⟨nd, rfl⟩⟩; refine ⟨_, rfl, ?_⟩) | ((with_reducible refine Qfo (f := 216) rfl ?_); refine Qej (some 10) rfl rfl Tryz.func216 (by kernel_rfl) rfl #[.int .u32 a1] rfl (by (try simp only [List.map_toArray, List.map_cons, List.map_nil]); first | done | rfl | (simp only [List.length_drop, List.length_take]; rfl)) ?_; (with_reducible refine (Qah.calls a1 true _ A4.out).mono ?_); rintro e w' ⟨rfl, ⟨nd, rfl⟩⟩; refine ⟨_, rfl, ?_⟩))
   go_ret
   exact ⟨by first | rfl | (simp; done) | (simp [*]; done), by repeat (first | exact Drawn0.refl _ | apply Drawn0.step)⟩
  ·replace c7 := Bool.eq_false_iff.mpr c7
   subst c7
   have H1 : (if a0 < a1 then (some (-1)) else (if a0 > a1 then (some 1) else (some 0))) = some r := by rw [if_neg (show ¬ (false = true) by decide)] at H; exact H
   clear H
   have H := H1
   clear H1
   by_cases c8 : a0 < a1
   ·rw [if_pos c8] at H
    have c8b0 : decide (a0 < a1) = true := decide_eq_true c8
    clear c8
    obtain rfl := Option.some.inj H
    go_enter Tryz.func167, Tryz.ntmps167
    go_wp2_with (first | ((with_reducible refine Qfo (f := 216) rfl ?_); refine Qej (some 8) rfl rfl Tryz.func216 (by kernel_rfl) rfl #[.int .u32 a0] rfl (by (try simp only [List.map_toArray, List.map_cons, List.map_nil]); first | done | rfl | (simp only [List.length_drop, List.length_take]; rfl)) ?_; (with_reducible refine (Qah.calls a0 false _ A3.out).mono ?_); rintro e w' ⟨rfl, ⟨nd, rfl⟩⟩; refine ⟨_, rfl, ?_⟩) | ((with_reducible refine Qfo (f := 216) rfl ?_); refine Qej (some 10) rfl rfl Tryz.func216 (by kernel_rfl) rfl #[.int .u32 a1] rfl (by (try simp only [List.map_toArray, List.map_cons, List.map_nil]); first | done | rfl | (simp only [List.length_drop, List.length_take]; rfl)) ?_; (with_reducible refine (Qah.calls a1 false _ A4.out).mono ?_); rintro e w' ⟨rfl, ⟨nd, rfl⟩⟩; refine ⟨_, rfl, ?_⟩))
    go_ret
    exact ⟨by first | rfl | (simp; done) | (simp [*]; done), by repeat (first | exact Drawn0.refl _ | apply Drawn0.step)⟩
   ·rw [if_neg c8] at H
    have c8b0 : decide (a0 < a1) = false := decide_eq_false c8
    clear c8
    by_cases c9 : a0 > a1
    ·rw [if_pos c9] at H
     have c9b0 : decide (a1 < a0) = true := decide_eq_true c9
     clear c9
     obtain rfl := Option.some.inj H
     go_enter Tryz.func167, Tryz.ntmps167
     go_wp2_with (first | ((with_reducible refine Qfo (f := 216) rfl ?_); refine Qej (some 8) rfl rfl Tryz.func216 (by kernel_rfl) rfl #[.int .u32 a0] rfl (by (try simp only [List.map_toArray, List.map_cons, List.map_nil]); first | done | rfl | (simp only [List.length_drop, List.length_take]; rfl)) ?_; (with_reducible refine (Qah.calls a0 false _ A3.out).mono ?_); rintro e w' ⟨rfl, ⟨nd, rfl⟩⟩; refine ⟨_, rfl, ?_⟩) | ((with_reducible refine Qfo (f := 216) rfl ?_); refine Qej (some 10) rfl rfl Tryz.func216 (by kernel_rfl) rfl #[.int .u32 a1] rfl (by (try simp only [List.map_toArray, List.map_cons, List.map_nil]); first | done | rfl | (simp only [List.length_drop, List.length_take]; rfl)) ?_; (with_reducible refine (Qah.calls a1 false _ A4.out).mono ?_); rintro e w' ⟨rfl, ⟨nd, rfl⟩⟩; refine ⟨_, rfl, ?_⟩))
     go_ret
     exact ⟨by first | rfl | (simp; done) | (simp [*]; done), by repeat (first | exact Drawn0.refl _ | apply Drawn0.step)⟩
    ·rw [if_neg c9] at H
     have c9b0 : decide (a1 < a0) = false := decide_eq_false c9
     clear c9
     obtain rfl := Option.some.inj H
     go_enter Tryz.func167, Tryz.ntmps167
     go_wp2_with (first | ((with_reducible refine Qfo (f := 216) rfl ?_); refine Qej (some 8) rfl rfl Tryz.func216 (by kernel_rfl) rfl #[.int .u32 a0] rfl (by (try simp only [List.map_toArray, List.map_cons, List.map_nil]); first | done | rfl | (simp only [List.length_drop, List.length_take]; rfl)) ?_; (with_reducible refine (Qah.calls a0 false _ A3.out).mono ?_); rintro e w' ⟨rfl, ⟨nd, rfl⟩⟩; refine ⟨_, rfl, ?_⟩) | ((with_reducible refine Qfo (f := 216) rfl ?_); refine Qej (some 10) rfl rfl Tryz.func216 (by kernel_rfl) rfl #[.int .u32 a1] rfl (by (try simp only [List.map_toArray, List.map_cons, List.map_nil]); first | done | rfl | (simp only [List.length_drop, List.length_take]; rfl)) ?_; (with_reducible refine (Qah.calls a1 false _ A4.out).mono ?_); rintro e w' ⟨rfl, ⟨nd, rfl⟩⟩; refine ⟨_, rfl, ?_⟩))
     go_ret
     exact ⟨by first | rfl | (simp; done) | (simp [*]; done), by repeat (first | exact Drawn0.refl _ | apply Drawn0.step)⟩
def Qai.f (a0 : Int) : Option (Bool) := some (a0 != a0)
set_option maxHeartbeats 8000000 in
set_option maxRecDepth 100000 in
theorem Qai.calls (a0 : Int) (r : Bool) (w : World) (h : Qai.f a0 = some r) :
  Calls Tryz.prog 215 #[.int .u64 a0] w fun e w' => e = .returned (.bool r) ∧ Drawn0 w w' := by
 have H : (some (a0 != a0)) = some r := h
 clear h
 obtain rfl := Option.some.inj H
 go_enter Tryz.func215, Tryz.ntmps215
 go_wp2
 go_ret
 exact ⟨by first | rfl | (simp; done) | (simp [*]; done), by repeat (first | exact Drawn0.refl _ | apply Drawn0.step)⟩
end Go.Proofs.YtnnofopfbeklbaaGreat.C
end
