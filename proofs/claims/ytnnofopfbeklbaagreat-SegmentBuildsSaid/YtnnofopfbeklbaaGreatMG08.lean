/- Texts of this claim's author and of the print of its functions, merged by merge.py. -/
import Derived.Test.YtnnofopfbeklbaaGreatMG02
import Derived.Lib.MakeNoZero
import Derived.Laws.CopyOwn
import Derived.Laws.MathBits
import Derived.Deep.RegionLaw
import Derived.Test.YtnnofopfbeklbaaGreatMG07
import Derived.Test.YtnnofopfbeklbaaGreatMG06
import Derived.Test.YtnnofopfbeklbaaGreatMG03
import Derived.Test.YtnnofopfbeklbaaGreatMG05
set_option linter.unusedVariables false
set_option linter.unusedSimpArgs false
set_option maxHeartbeats 8000000
set_option maxRecDepth 100000
section
namespace Go.Proofs.YtnnofopfbeklbaaGreat.C
open Go.RowKit Go.Proofs.YtnnofopfbeklbaaGreatW.PrintWords Go.Proofs.YtnnofopfbeklbaaGreatW.PrintLast Go.Proofs.YtnnofopfbeklbaaGreatW.PrintMore
theorem mul_one_n (n : Int) (h0 : 0 ≤ n) (h1 : n ≤ 140737488355328) : Qaa.f 1 n = some (0, n) := by
 have e1 : Go.bits .and .u64 1 4294967295 = 1 := by rw [and_low32 _ (by omega) (by omega)]; rfl
 have e2 : Go.bits .and .u64 n 4294967295 = n % 4294967296 := and_low32 _ (by omega) (by omega)
 have e3 : ∀ x : Int, 0 ≤ x → x ≤ 18446744073709551615 → IntKind.u64.wrap x = x := fun x a b => IntWalk.u64_in x ⟨a, b⟩
 unfold Qaa.f Qab.f
 rw [e1, e2]
 have d1 : (1 : Int) / 4294967296 = 0 := by decide
 have m0 : 0 ≤ n % 4294967296 := by omega
 have m1 : n % 4294967296 < 4294967296 := by omega
 have q0 : 0 ≤ n / 4294967296 := by omega
 have q1 : n / 4294967296 < 4294967296 := by omega
 have d2 : (n % 4294967296) / 4294967296 = 0 := by omega
 have d3 : (n / 4294967296) / 4294967296 = 0 := by omega
 have z3 : IntKind.u64.wrap 0 = 0 := e3 0 (by omega) (by omega)
 have zb : Go.bits .and .u64 0 4294967295 = 0 := by rw [and_low32 _ (by omega) (by omega)]; rfl
 simp only [d1, Int.zero_mul, Int.one_mul, z3, e3 _ m0 (by omega), d2, Int.add_zero, Int.zero_add, Int.zero_ediv, zb, e3 _ q0 (by omega), d3, e3 _ h0 (by omega), Option.bind_some]
attribute [local go_sem] Qfx Qfy Qfz Qga
def Fill (w wr : World) (g n bp : Nat) (x : Int) : Prop :=
 ∃ cur : List Value, wr.heap[g]? = some (.cells cur.toArray 5 (0, 0)) ∧ n ≤ cur.length ∧ (∀ j, j < bp → cur[j]? = some (.int .u8 x)) ∧ Below w.heap.size w wr ∧ w.heap.size ≤ g
theorem Fill.splice {w w1 : World} {g n bp k : Nat} {x : Int} {cur : List Value} (hc : ∀ j, j < bp → cur[j]? = some (.int .u8 x)) (hl : n ≤ cur.length) (hbk : bp + k ≤ n) (hg : w1.heap[g]? = some (.cells (splice cur bp (List.replicate k (.int .u8 x))).toArray 5 (0, 0))) (hB : Below w.heap.size w w1) (hle : w.heap.size ≤ g) : Fill w w1 g n (bp + k) x := by
 refine ⟨_, hg, ?_, ?_, hB, hle⟩
 ·rw [length_splice _ _ _ (by simp; omega)]; exact hl
 ·intro j hj
  unfold Go.splice
  by_cases h1 : j < bp
  ·rw [List.getElem?_append_left (by simp; omega), List.getElem?_take_of_lt h1]
   exact hc j h1
  ·rw [List.getElem?_append_right (by simp; omega), List.length_take, Nat.min_eq_left (by omega), List.getElem?_append_left (by simp; omega)]
   simp [List.getElem?_replicate]
   omega
theorem repeat_pos (A0 : Option Addr) (c0 : Nat) (x : Int) (n : Nat) (w : World) (hn0 : 0 < n) (hn : n ≤ 140737488355328) (hr0 : Kd.C (Kd.int .u8) w A0 1 [x]) :
    Calls Tryz.prog 120 #[.slice A0 1 c0, .int .i64 n] w fun e w' => ∃ g, e = .returned (.slice (some ⟨g, 0, none⟩) n n) ∧ Fill w w' g n n x := by
  have hmul := mul_one_n n (by omega) (by omega)
  obtain ⟨ad, c, rfl, _, hK, hcell0⟩ := Kd.C_get hr0 0 0 (by omega) (by omega)
  have hK' : c = [.int .u8 x] := hK
  subst hK'
  have hcell := hcell0 0 _ rfl
  clear hcell0 hK
  have n0 : (0 : Int) < (n : Int) := by omega
  have n1 : (n : Int) ≤ 140737488355328 := by omega
  go_enter Tryz.func120, Tryz.ntmps120
  have hsz1 : (Tryz.prog.info? 5).map (·.size) = some 1 := by kernel_rfl
  obtain ⟨g, hg⟩ : ∃ g, g = w.heap.size := ⟨_, rfl⟩
  go_wp2_with (go_at_call 168; refine (Qaa.calls 1 n 0 n w hmul).mono ?_; rintro e w' ⟨rfl, hd⟩; obtain ⟨q, rfl⟩ := hd.out; clear hd; fail)
  go_at_call 168
  refine (Qaa.calls 1 n 0 n w hmul).mono ?_
  rintro e w' ⟨rfl, hd⟩
  obtain ⟨q, rfl⟩ := hd.out
  clear hd
  obtain ⟨cs, hrunM, hle, hmx⟩ := Lib.run_makeNoZero (P := Tryz.prog) (w.drewN q) #[3] 52 5 Tryz.underlying52 n (by omega)
  have hcall : (callFunc 169 #[.int .i64 (n : Int)]).run Tryz.prog (w.drewN q) = .ok (.value (.slice (some ⟨w.heap.size, 0, none⟩) n cs.size)) ((w.alloc (.cells cs 5)).drewN (q + 2)) := by
    rw [run_callFunc_extern Tryz.func169 qq_6 qq_6 qq_6 (e := Extern.BytealgMakeNoZero.makeNoZero #[3] #[52]) qq_6, hrunM]
    rfl
  clear hrunM hmx
  have i1 : (n : Int) ≤ (cs.size : Int) := by omega
  have hcell' : ((w.alloc (.cells cs 5)).drewN (q + 2)).cell? (ad.add 0) = some (.int .u8 x) := by
    rw [World.cell?_drewN]
    exact (((Below.refl _ w).alloc (Nat.le_refl _) _).cell (World.block_lt_of_cell? w _ hcell)).trans hcell
  obtain ⟨W0, hW0⟩ : ∃ W0, ((w.alloc (.cells cs 5)).drewN (q + 2)) = W0 := ⟨_, rfl⟩
  have hh0 : W0.heap[g]? = some (.cells cs.toList.toArray 5 (0, 0)) := by rw [← hW0, hg]; simpa using heap_alloc_new w (.cells cs 5)
  have hb0 : Below w.heap.size w W0 := by rw [← hW0]; exact Qcq ((Below.refl _ w).alloc (Nat.le_refl _) _) _
  rw [hW0] at hcall hcell'
  clear hW0
  have HG := QA hg
  rw [← hg] at hcall
  clear hg
  by_cases hbig : 8192 < (n : Int)
  all_goals
    go_wp2_with (refine wpList_copy_splice rfl (.tmp 58) (.tmp 59) 52 52 ?ho 5 Tryz.underlying52 hsz1 (some ⟨g, 0, none⟩) (some ad) n n 1 c0 ?hd ?hs g 0 cs.toList 5 hh0 [.int .u8 x] ?hn ?hpos ?hfit ?h1 w.heap.size w hb0 ?hBg ?_; (case ho => rfl); (case hd => rfl); (case hs => rfl); (case hn => simp [Nat.min_def]; omega); (case hpos => intro _; refine ⟨rfl, ad, rfl, fun j v hj => ?_⟩; cases j with | zero => (simp at hj; subst hj; exact hcell') | succ j => (simp at hj)); (case hfit => simp; omega); (case h1 => intro v hv; simp at hv; subst hv; rfl); (case hBg => rw [HG.out]; exact Nat.le_refl _); intro w1 HG1 hb1)
    have HF1 : Fill w w1 g n (0 + 1) x := Fill.splice (cur := cs.toList) (bp := 0) (k := 1) (by intro j hj; omega) (by simpa using hle) (by omega) HG1.out hb1 (by rw [HG.out]; exact Nat.le_refl _)
    clear HG1 hb1
    go_loopw [10] (fun v10 wr => ∃ (bp : Nat), 1 ≤ bp ∧ bp ≤ n ∧ v10 = .int .i64 (bp : Int) ∧ Aside0 (Fill w wr g n bp x)) (fun v10 _ => n - (intOf v10).toNat)
    case atStart => exact ⟨1, Nat.le_refl _, by omega, rfl, ⟨HF1⟩⟩
    case round =>
      clear HF1
      obtain ⟨bp, hb1, hb2, rfl, HF⟩ := hrel
      by_cases hlt : bp < n
      · by_cases c8 : 8192 < (bp : Int)
        all_goals first | (exfalso; omega) | skip
        all_goals
         obtain ⟨ch, hch1, hch2, hcb⟩ : ∃ ch : Nat, 1 ≤ ch ∧ ch ≤ bp ∧ ((8192 < (n : Int) → 8192 < (bp : Int) → ch = 8192) ∧ (¬ 8192 < (bp : Int) → ch = bp) ∧ (¬ 8192 < (n : Int) → ch = bp)) := by
          by_cases c : 8192 < (n : Int) ∧ 8192 < (bp : Int)
          · exact ⟨8192, by omega, by omega, fun _ _ => rfl, by omega, by omega⟩
          · exact ⟨bp, by omega, by omega, by omega, by omega, by omega⟩
         have e3 : (if 8192 < (bp : Int) then (8192 : Int) else (bp : Int)) ≤ (n : Int) := by split <;> omega
         first | rw [if_pos c8] at e3 | rw [if_neg c8] at e3
         have HCB := QA hcb
         clear hcb
         obtain ⟨cur, hcur, hcl, hcx, hB, hle2⟩ := HF.out
         obtain ⟨kk, hkk⟩ : ∃ kk, kk = Nat.min ch (n - bp) := ⟨_, rfl⟩
         have hk1 : 1 ≤ kk ∧ kk ≤ ch ∧ kk ≤ n - bp := by
           have h1 : kk ≤ ch := by rw [hkk]; exact Nat.min_le_left _ _
           have h2 : kk ≤ n - bp := by rw [hkk]; exact Nat.min_le_right _ _
           have h3 : 1 ≤ kk := by rw [hkk]; exact Nat.le_min.2 ⟨hch1, by omega⟩
           exact ⟨h3, h1, h2⟩
         have HKK := QA hkk
         clear hkk
         have hcells : ∀ j, j < ch → wr.cell? ⟨g, j, none⟩ = some (.int .u8 x) := by
           intro j hj
           have := hcx j (by omega)
           simp [World.cell?, hcur, this]
         have HCELLS := QA hcells
         have HCUR := QA hcur
         have HCX := QA hcx
         have HCL := QA hcl
         have HB := QA hB
         have HLE := QA hle2
         clear hcells hcur hcx hcl hB hle2 HF
         have e1 : (bp : Int) < (n : Int) := by omega
         have e2 : (ch : Int) ≤ (n : Int) := by omega
         have hn1 := QA (show (List.replicate kk (Value.int .u8 x)).length = Nat.min ch (n - bp) by rw [List.length_replicate]; exact HKK.out)
         have hn2 := QA (show ∀ j v, (List.replicate kk (Value.int .u8 x))[j]? = some v → wr.cell? ((⟨g, 0, none⟩ : Addr).add j) = some v by
           intro j v hj
           rw [List.getElem?_replicate] at hj
           split at hj
           · injection hj with hj
             subst hj
             rw [Qcu]
             exact HCELLS.out j (by omega)
           · cases hj)
         have hn3 := QA (show bp + (List.replicate kk (Value.int .u8 x)).length ≤ cur.length by rw [List.length_replicate]; have := HCL.out; omega)
         have hn4 := QA (show ∀ v ∈ List.replicate kk (Value.int .u8 x), v.oneCell' = true by intro v hv; rw [(List.mem_replicate.1 hv).2]; rfl)
         go_wp2_with fail
         go_region_law (refine step_copy_splice rfl (.tmp 70) (.tmp 73) 52 52 rfl 5 Tryz.underlying52 hsz1 (some ⟨g, bp, none⟩) (some ⟨g, 0, none⟩) (n - bp) (n - bp) ch n (by (try simp [Act.eval, Act.put]) <;> omega) (by (try simp [Act.eval, Act.put]) <;> (have := HCB.out; omega)) g bp cur 5 HCUR.out (List.replicate kk (.int .u8 x)) hn1.out (fun _ => ⟨rfl, _, rfl, hn2.out⟩) hn3.out hn4.out w.heap.size w (by first | exact HB.out | exact Qcp HB.out) HLE.out ?_; intro w4 HG4 hb4)
         have HF4 : Fill w w4 g n (bp + kk) x := Fill.splice HCX.out HCL.out (by omega) HG4.out hb4 HLE.out
         clear HG4 hb4
         go_wp2
         go_roundw
         case rel => exact ⟨bp + kk, by omega, by omega, by rw [IntWalk.i64_in _ (by omega)]; go_num, ⟨HF4⟩⟩
         case measure => simp [intOf, IntWalk.i64_in ((bp : Int) + (kk : Int)) (by omega)]; omega
      · obtain rfl : bp = n := by omega
        go_wp2
        go_ret
        exact ⟨g, rfl, HF.out⟩
theorem fill_reads {w w' : World} {g n : Nat} {x : Int} (h : Fill w w' g n n x) (hn : n ≤ 9223372036854775807) : Kd.C (Kd.int .u8) w' (some ⟨g, 0, none⟩) n (List.replicate n x) := by
 obtain ⟨cur, h1, h2, h3, h4, h5⟩ := h
 refine Kd.C_of_reads (d := (0 : Int)) ⟨List.length_replicate, hn, fun _ => ⟨_, rfl, fun j hj => ?_⟩⟩
 rw [Qcu, Qdj h1]
 simp [h3 j hj, List.getD_eq_getElem?_getD, List.getElem?_replicate, hj]
theorem repeat_of (A0 : Option Addr) (c0 : Nat) (x : Int) (n : Nat) (w : World) (hn : n ≤ 140737488355328) (hr0 : Kd.C (Kd.int .u8) w A0 1 [x]) :
  Calls Tryz.prog 120 #[.slice A0 1 c0, .int .i64 n] w fun e w' => ∃ A c, e = .returned (.slice A n c) ∧ n ≤ c ∧ Kd.C (Kd.int .u8) w' A n (List.replicate n x) ∧ Below w.heap.size w w' := by
 rcases Nat.eq_zero_or_pos n with rfl | hp
 ·go_enter Tryz.func120, Tryz.ntmps120
  go_wp2
  go_ret
  exact ⟨_, _, rfl, Nat.le_refl _, ⟨rfl, by omega, fun h => absurd h (by omega)⟩, Qco (Below.refl _ _) _⟩
 ·refine (repeat_pos A0 c0 x n w hp hn hr0).mono ?_
  rintro e w' ⟨g, rfl, hF⟩
  refine ⟨_, _, rfl, Nat.le_refl _, fill_reads hF (by omega), ?_⟩
  obtain ⟨cur, h1, h2, h3, h4, h5⟩ := hF
  exact h4
abbrev Room5 := Int × Int × Int × Int × Int
def IsBd (W : World) (b g : Nat) (R : Room5) (fr : List Int) (tb : List S117) : Prop :=
 ∃ fv tv, W.heap[g]? = some (.cells #[.int .u8 R.1, .int .u32 R.2.1, .int .u32 R.2.2.1, .int .i64 R.2.2.2.1, .int .i64 R.2.2.2.2, fv, tv] 108 (0, 0)) ∧ R8 W b fv fr ∧ Kd.R k117 117 W b (fun _ => True) tv tb
theorem IsBd.kept {W W' : World} {b g : Nat} {R : Room5} {fr : List Int} {tb : List S117} (h : IsBd W b g R fr tb) (hb : Below W.heap.size W W') : IsBd W' b g R fr tb := by
 obtain ⟨fv, tv, h1, h2, h3⟩ := h
 exact ⟨fv, tv, Qdt h1 hb, h2.kept hb, Kd.R_below h3 hb⟩
theorem room5 {W : World} {B : Nat} {e s n u c : Int} (h : W.heap[B]? = some (.cells #[.int .u8 e, .int .u32 s, .int .u32 n, .int .i64 u, .int .i64 c] 47 (0, 0))) :
  W.cell? ⟨B, 0, none⟩ = some (.int .u8 e) ∧ W.cell? ⟨B, 1, none⟩ = some (.int .u32 s) ∧ W.cell? ⟨B, 2, none⟩ = some (.int .u32 n) ∧ W.cell? ⟨B, 3, none⟩ = some (.int .i64 u) ∧ W.cell? ⟨B, 4, none⟩ = some (.int .i64 c) :=
 ⟨(Qdj h 0).trans rfl, (Qdj h 1).trans rfl, (Qdj h 2).trans rfl, (Qdj h 3).trans rfl, (Qdj h 4).trans rfl⟩
theorem bd_New (e s n u c : Int) (hd : List Int) (w : World) (hp : Qcd.f e s n = some (e, s, n, u, c, 0)) (hh : Qby.f e s n = some (hd, 0)) :
  Calls Tryz.prog 18 #[.agg #[.int .u8 e, .int .u32 s], .int .u32 n] w fun ee w' => ∃ g, ee = .returned (.tuple #[.pointer (some ⟨g, 0, none⟩), .int .i64 0]) ∧ IsBd w' w.heap.size g (e, s, n, u, c) hd [] ∧ Below w.heap.size w w' ∧ w.heap.size ≤ g := by
 have hu := Tryz.underlying27
 have hu2 := Tryz.underlying47
 have hu3 := Tryz.underlying108
 have HP := QA hp
 have HH := QA hh
 clear hp hh
 have hba : Below w.heap.size w (w.alloc (.cells #[.int .u8 e, .int .u32 s] 27)) := Qco (Below.refl _ _) _
 have hbn := Qdu w (.cells #[.int .u8 e, .int .u32 s] 27)
 go_enter Tryz.func18, Tryz.ntmps18
 go_wp2_with (first
  | (go_at_call 52; refine (Qcd.calls e s n _ _ _ _ _ _ _ HP.out).mono ?_; rintro ee w1 ⟨rfl, hb1⟩; have hk1 := Qdt hbn hb1; have hw1 := QA (Qcr hba hba.size hb1); have hs1 := QA (show w.heap.size < w1.heap.size from Qdi hk1); have hk1' := Qdq hk1 (.cells #[.int .u8 e, .int .u32 s, .int .u32 n, .int .i64 u, .int .i64 c] 47); obtain ⟨c0, c1⟩ := box2 hk1'; clear hk1 hb1 hbn hba)
  | (go_at_call 53; refine (Qby.calls e s n hd 0 _ HH.out).mono ?_; rintro ee w3 ⟨v3, rfl, hR3, hb3⟩; have hk3 := Qdt (Qdu w1 (.cells #[.int .u8 e, .int .u32 s, .int .u32 n, .int .i64 u, .int .i64 c] 47)) hb3; obtain ⟨d0, d1, d2, d3, d4⟩ := room5 hk3; obtain ⟨A3, n3, c3, rfl⟩ := R8.shape hR3))
 refine bodyPost_ret (results_tmp2 rfl _ _ _) rfl ?_
 have hz1 := Nat.le_of_lt hs1.out
 have hbr : Below w1.heap.size w1 (w1.alloc (.cells #[.int .u8 e, .int .u32 s, .int .u32 n, .int .i64 u, .int .i64 c] 47)) := Qco (Below.refl _ _) _
 have hz3 : w.heap.size ≤ w3.heap.size := Nat.le_trans (Nat.le_trans hz1 hbr.size) hb3.size
 refine ⟨w3.heap.size, rfl, ⟨_, _, Qdu w3 _, ?_, Kd.R_nil _ _ _ _ _⟩, ?_, hz3⟩
 ·exact R8.low (R8.kept hR3 (Qco (Below.refl _ _) _)) (Nat.le_trans hz1 hbr.size)
 ·exact ((hw1.out.trans (Qgu hbr hz1)).trans (Qgu hb3 (Nat.le_trans hz1 hbr.size))).trans (Qgu (Qco (Below.refl w3.heap.size w3) _) hz3)
theorem Qid (b g : Nat) (R : Room5) (fr : List Int) (tb : List S117) (w : World) (hI : IsBd w b g R fr tb) (hl : fr.length ≤ 140737488355328) :
  Calls Tryz.prog 29 #[.pointer (some ⟨g, 0, none⟩)] w fun e w' => ∃ v : Value, e = .returned v ∧ R8 w' w.heap.size v fr ∧ Below w.heap.size w w' := by
 obtain ⟨fv, tv, hv, hR, hT⟩ := hI
 obtain ⟨A, n, c, rfl, hn, hlc, hC⟩ := R8.reads hR
 have hc : w.cell? ⟨g, 5, none⟩ = some (.slice A n c) := (Qdj hv 5).trans rfl
 have hcl := hC.1
 have hu3 := Tryz.underlying108
 have hcall : Calls Tryz.prog 70 #[.slice A n c] w fun e w' => ∃ v0_ : Value, e = .returned (v0_) ∧ R8 w' w.heap.size v0_ fr ∧ Below w.heap.size w w' := by
  subst hcl
  exact clone_of A c fr w hC hl
 clear hcl
 go_enter Tryz.func29, Tryz.ntmps29
 go_wp2_with (go_at_call 70; refine hcall.mono ?_; rintro e w' ⟨v1, rfl, hd, hb⟩)
 go_ret
 exact ⟨_, rfl, hd, hb⟩
theorem bd_whole (b0 b g : Nat) (R : Room5) (fr : List Int) (tb : List S117) (fs : List Int) (fsv : Value) (sz : Nat) (w : World) (hI : IsBd w b0 g R fr tb) (hF : R8 w b fsv fs) (hbw : b ≤ w.heap.size) (hsz : Qal.f R.1 R.2.1 = some (sz : Int)) (hle : fs.length ≤ sz) (hs2 : sz ≤ 70368744177664) :
  Calls Tryz.prog 69 #[.pointer (some ⟨g, 0, none⟩), fsv] w fun e w' => ∃ v : Value, e = .returned v ∧ R8 w' b v (fs ++ List.replicate (sz - fs.length) 255) ∧ Below b w w' := by
 obtain ⟨fv, tv, hv, hR, hT⟩ := hI
 obtain ⟨A, n, c, rfl, hn, hlc, hC⟩ := R8.reads hF
 have hnf : n = fs.length := hn.out
 have hc0 : w.cell? ⟨g, 0, none⟩ = some (.int .u8 R.1) := (Qdj hv 0).trans rfl
 have hc1 : w.cell? ⟨g, 1, none⟩ = some (.int .u32 R.2.1) := (Qdj hv 1).trans rfl
 have hu := Tryz.underlying27
 have hu2 := Tryz.underlying47
 have hu3 := Tryz.underlying108
 have hnsz : n ≤ sz := by omega
 have hsub : IntKind.i64.wrap ((sz : Int) - (n : Int)) = ((sz - n : Nat) : Int) := by rw [IntWalk.i64_in _ (by omega)]; omega
 have hsub2 : (sz : Int) - (n : Int) = ((sz - n : Nat) : Int) := by omega
 obtain ⟨k, hk⟩ : ∃ k, k = sz - n := ⟨_, rfl⟩
 rw [← hk] at hsub hsub2
 have HK := QA hk
 have HSZ := QA hsz
 have HF := QA hF
 have HNF := QA hnf
 clear hk hsz hF hnf
 go_enter Tryz.func69, Tryz.ntmps69
 go_wp2_with (first
  | (go_at_call 78; refine (Qal.calls _ _ _ _ HSZ.out).mono ?_; rintro e w1 ⟨rfl, hb1⟩)
  | (go_at_call 120; go_loud (refine (repeat_of _ _ 255 k _ (by have := HK.out; omega) ?hrep).mono ?_; (case hrep => exact Kd.C_of_reads (d := (0 : Int)) ⟨rfl, by omega, fun _ => ⟨_, rfl, fun j hj => by (obtain rfl : j = 0 := (by omega)); exact (Qdj (Qdu w1 _) 0).trans rfl⟩⟩); rintro e w2 ⟨A2, c2, rfl, hkc2, hC2, hb2⟩))
  | (at_builtin; refine Kd.R_append_rows (Kd.int .u8) (Rr := fun x cs => cs = [.int .u8 x]) (w0 := w) b rfl (.tmp 15) (.tmp 18) 52 5 (.int .u8 0) 1 rfl Tryz.underlying52 Qgk rfl (by decide) (by omega) (.slice A n c) fs (List.replicate k 255) A2 k c2 (fun _ => True) (fun _ => False) rfl rfl ?bO hC2 (fun _ _ h => h) (fun _ hk => hk.elim) (fun _ _ => trivial) ?bB ?bS ?bL ?_; (case bO => exact R8.kept (R8.kept (R8.kept HF.out hb1) (Qco (Below.refl _ _) _)) hb2); (case bB => exact ((Qgu hb1 hbw).trans (Qgu (Qco (Below.refl w1.heap.size w1) _) (Nat.le_trans hbw hb1.size))).trans (Qgu hb2 (by rw [World.size_alloc]; have := hb1.size; omega)); ); (case bS => have h1 := hb1.size; have h2 := hb2.size; rw [World.size_alloc] at h2; omega); (case bL => have := HK.out; have := HNF.out; omega); intro v3 w3 HR3 hb3 hg3 hat3))
 go_ret
 refine ⟨v3, rfl, ?_, hb3⟩
 have e1 : k = sz - fs.length := by rw [HK.out, HNF.out]
 rw [← e1]
 exact HR3
theorem bd_Open (b g : Nat) (R : Room5) (fr : List Int) (tb : List S117) (sz : Nat) (w : World) (hI : IsBd w b g R fr tb) (hsz : Qal.f R.1 R.2.1 = some (sz : Int)) (hle : fr.length ≤ sz) (hs2 : sz ≤ 70368744177664) :
  Calls Tryz.prog 30 #[.pointer (some ⟨g, 0, none⟩)] w fun e w' => ∃ v : Value, e = .returned v ∧ R8 w' w.heap.size v (fr ++ List.replicate (sz - fr.length) 255) ∧ Below w.heap.size w w' := by
 go_enter Tryz.func30, Tryz.ntmps30
 go_wp2_with (first
  | (go_at_call 29; refine (Qid b g R fr tb w hI (by omega)).mono ?_; rintro e w1 ⟨v1, rfl, hR1, hb1⟩)
  | (go_at_call 69; refine (bd_whole b w.heap.size g R fr tb fr v1 sz w1 (hI.kept hb1) hR1 hb1.size hsz hle hs2).mono ?_; rintro e w2 ⟨v2, rfl, hR2, hb2⟩))
 go_ret
 exact ⟨v2, rfl, hR2, hb1.trans hb2⟩
def Qie (W : World) (g : Nat) (R : Room5) (fv tv : Value) : Prop := W.heap[g]? = some (.cells #[.int .u8 R.1, .int .u32 R.2.1, .int .u32 R.2.2.1, .int .i64 R.2.2.2.1, .int .i64 R.2.2.2.2, fv, tv] 108 (0, 0))
theorem Qif {W : World} {g : Nat} {R : Room5} {fv tv : Value} (h : Qie W g R fv tv) :
  W.cell? ⟨g, 0, none⟩ = some (.int .u8 R.1) ∧ W.cell? ⟨g, 1, none⟩ = some (.int .u32 R.2.1) ∧ W.cell? ⟨g, 2, none⟩ = some (.int .u32 R.2.2.1) ∧ W.cell? ⟨g, 3, none⟩ = some (.int .i64 R.2.2.2.1) ∧ W.cell? ⟨g, 4, none⟩ = some (.int .i64 R.2.2.2.2) ∧ W.cell? ⟨g, 5, none⟩ = some fv ∧ W.cell? ⟨g, 6, none⟩ = some tv :=
 ⟨(Qdj h 0).trans rfl, (Qdj h 1).trans rfl, (Qdj h 2).trans rfl, (Qdj h 3).trans rfl, (Qdj h 4).trans rfl, (Qdj h 5).trans rfl, (Qdj h 6).trans rfl⟩
theorem info_ent : (Tryz.prog.info? 117).map (fun i => (i.zero, i.size, i.bytes)) = some (some (.agg #[.int .u64 0, .int .u32 0]), 2, 16) := by kernel_rfl
theorem bd_set5 {W : World} {b g : Nat} {R : Room5} (R' : Room5) {fv tv : Value} {fr : List Int} {tb : List S117} (hv : Qie W g R fv tv) (hR : R8 W b fv fr) (hT : Kd.R k117 117 W b (fun _ => True) tv tb) (hbg : b ≤ g) :
  ∃ W', W' = (((((W.setCell ⟨g, 0, none⟩ (.int .u8 R'.1)).setCell ⟨g, 1, none⟩ (.int .u32 R'.2.1)).setCell ⟨g, 2, none⟩ (.int .u32 R'.2.2.1)).setCell ⟨g, 3, none⟩ (.int .i64 R'.2.2.2.1)).setCell ⟨g, 4, none⟩ (.int .i64 R'.2.2.2.2)) ∧
   Qie W' g R' fv tv ∧ R8 W' b fv fr ∧ Kd.R k117 117 W' b (fun _ => True) tv tb ∧ Below b W W' ∧ ∀ k, k ≠ g → W'.heap[k]? = W.heap[k]? := by
 have ht : ∀ q, q ∈ 117 :: (k117).E → q ≠ 108 := by decide
 have b1 := Qdg hv 0 (.int .u8 R'.1)
 have b2 := Qdg b1 1 (.int .u32 R'.2.1)
 have b3 := Qdg b2 2 (.int .u32 R'.2.2.1)
 have b4 := Qdg b3 3 (.int .i64 R'.2.2.2.1)
 have b5 := Qdg b4 4 (.int .i64 R'.2.2.2.2)
 refine ⟨_, rfl, b5, ?_, ?_, ?_, fun k hk => ?_⟩
 ·exact R8.set (R8.set (R8.set (R8.set (R8.set hR hv (by decide) 0 _) b1 (by decide) 1 _) b2 (by decide) 2 _) b3 (by decide) 3 _) b4 (by decide) 4 _
 ·exact Kd.R_set (Kd.R_set (Kd.R_set (Kd.R_set (Kd.R_set hT hv ht 0 _) b1 ht 1 _) b2 ht 2 _) b3 ht 3 _) b4 ht 4 _
 ·exact Qgt (Qgt (Qgt (Qgt (Qgt (Below.refl _ _) hbg) hbg) hbg) hbg) hbg
 ·rw [Below.heap_setCell _ _ _ k hk, Below.heap_setCell _ _ _ k hk, Below.heap_setCell _ _ _ k hk, Below.heap_setCell _ _ _ k hk, Below.heap_setCell _ _ _ k hk]
def Tb (g : Nat) (w w' : World) : Prop := ∀ k cs t, w.heap[k]? = some (.cells cs t (0, 0)) → t ≠ 5 → t ≠ 117 → k ≠ g → w'.heap[k]? = some (.cells cs t (0, 0))
theorem Tb.below {g : Nat} {w w' : World} (h : Below w.heap.size w w') : Tb g w w' := fun _ _ _ h1 _ _ _ => Qdt h1 h
theorem Tb.trans {g : Nat} {a b c : World} (h : Tb g a b) (k : Tb g b c) : Tb g a c := fun _ _ _ h1 h2 h3 h4 => k _ _ _ (h _ _ _ h1 h2 h3 h4) h2 h3 h4
theorem Tb.set {g j : Nat} {w W : World} (h : Tb g w W) (v : Value) : Tb g w (W.setCell ⟨g, j, none⟩ v) := fun _ _ _ h1 h2 h3 h4 => Qdh (h _ _ _ h1 h2 h3 h4) h4 v
theorem Tb.grown {g q : Nat} {w W W' : World} {row : Option Nat} (h : Tb g w W) (hg : W.grownBy W' row) (hty : ∀ k, row = some k → ∃ cells, W.heap[k]? = some (.cells cells q (0, 0))) (hq : q = 5 ∨ q = 117) : Tb g w W' := fun k cs t h1 h2 h3 h4 => by
 have h5 := h _ _ _ h1 h2 h3 h4
 refine Qdl h5 hg (fun e => ?_)
 obtain ⟨cells, hc⟩ := hty k e.symm
 rw [hc] at h5
 injection h5 with h5
 injection h5 with _ h5
 rcases hq with hq | hq
 ·exact h2 (h5.symm.trans hq)
 ·exact h3 (h5.symm.trans hq)
theorem bd_Add (b g : Nat) (R R' : Room5) (fr F : List Int) (tb : List S117) (d : Bool) (s : Int) (key v : ByteArray) (w : World) (hI : IsBd w b g R fr tb) (hbg : b ≤ g) (hbw : b ≤ w.heap.size)
  (hchk : chk d key v = 0) (hput : Qbz.f d s key v = some (F, 0)) (htl : Qch.f R.1 R.2.1 F.length = some false) (htk : Qcg.f R.1 R.2.1 R.2.2.1 R.2.2.2.1 R.2.2.2.2 F.length = some (R'.1, R'.2.1, R'.2.2.1, R'.2.2.2.1, R'.2.2.2.2, 0))
  (hl : fr.length + F.length ≤ 70368744177664) (hk : key.size ≤ 70368744177664) (ht : tb.length ≤ 1099511627776) :
  Calls Tryz.prog 21 #[.pointer (some ⟨g, 0, none⟩), .agg #[.bool d, .int .u64 s, .string key, .string v]] w fun e w' => e = .returned (.tuple #[.int .u32 ((fr.length : Int) % 4294967296), .int .i64 0]) ∧ IsBd w' b g R' (fr ++ F) (tb ++ [⟨Qhz 0 (bytesOf key), (fr.length : Int) % 4294967296⟩]) ∧ Below b w w' ∧ Tb g w w' := by
 have hu := Tryz.underlying39
 have hu1 := Tryz.underlying27
 have hu2 := Tryz.underlying47
 have hu3 := Tryz.underlying108
 obtain ⟨fv, tv, hv, hR, hT⟩ := hI
 obtain ⟨AT, nT, cT, rfl⟩ : ∃ A n c, tv = .slice A n c := by
  obtain ⟨A, c, e⟩ := Kd.R_slice hT
  exact ⟨A, _, c, e⟩
 obtain ⟨A, n, c, rfl, hn, hlc, hC⟩ := R8.reads hR
 have hv' : Qie w g R (.slice A n c) (.slice AT nT cT) := hv
 have hgw : g < w.heap.size := Qdi hv
 have hcheck := Qhs d s key v
 rw [hchk] at hcheck
 have HCK := QA hcheck
 have HPU := QA hput
 have HTL := QA htl
 have HTK := QA htk
 have HR := QA hR
 have HT := QA hT
 have HV := QA hv'
 have hn0 := hn
 clear hcheck hput htl htk hchk hR hT hv hC hn hv'
 have hba : Below w.heap.size w (w.alloc (.cells #[.bool d, .int .u64 s, .string key, .string v] 39)) := Qco (Below.refl _ _) _
 have hbn := Qdu w (.cells #[.bool d, .int .u64 s, .string key, .string v] 39)
 go_enter Tryz.func21, Tryz.ntmps21
 go_upto_region 12 with (first
  | (go_at_call 56; refine (Qcj.calls 1 _ s key v 0 _ HCK.out).mono ?_; rintro e w1 ⟨rfl, hb1⟩; have hB1 := QA (Qcr hba hba.size hb1); have hk1 := Qdt hbn hb1; obtain ⟨c0, c1, c2, c3⟩ := box4 hk1)
  | (go_at_call 57; refine (Qbz.calls _ s key v F 0 _ HPU.out).mono ?_; rintro e w2 ⟨vF, rfl, hRF, hb2⟩; have hB2 := QA (Qcr hB1.out hB1.out.size hb2); have hk2 := Qdt hk1 hb2; obtain ⟨AF, nF, cF, rfl, hnF, hlF, hCF⟩ := R8.reads hRF; have hv2 : Qie w2 g R (.slice A n c) (.slice AT nT cT) := Qdt HV.out hB2.out; obtain ⟨g0, g1, g2, g3, g4, g5, g6⟩ := Qif hv2; clear c0 c1 c2 c3)
  | (go_at_call 58; refine (Qch.calls _ _ _ false _ (by rw [hnF.out]; exact HTL.out)).mono ?_; rintro e w3 ⟨rfl, hb3⟩; have hB3 := QA (Qcr hB2.out hB2.out.size hb3); have hk3 := Qdt hk2 hb3; have hv3 : Qie w3 g R (.slice A n c) (.slice AT nT cT) := Qdt HV.out hB3.out; obtain ⟨h0, h1, h2, h3, h4, h5, h6⟩ := Qif hv3; clear g0 g1 g2 g3 g4 g5 g6)
  | (go_at_call 59; refine (Qcg.calls _ _ _ _ _ _ _ _ _ _ _ _ _ (by rw [hnF.out]; exact HTK.out)).mono ?_; rintro e w4 ⟨rfl, hb4⟩; have hB4 := QA (Qcr hB3.out hB3.out.size hb4); have hk4 := Qdt hk3 hb4; have hv4 : Qie w4 g R (.slice A n c) (.slice AT nT cT) := Qdt HV.out hB4.out; have hv5 : Qie (w4.alloc (.cells #[.int .u8 R'.1, .int .u32 R'.2.1, .int .u32 R'.2.2.1, .int .i64 R'.2.2.2.1, .int .i64 R'.2.2.2.2] 47)) g R (.slice A n c) (.slice AT nT cT) := Qdq hv4 _; obtain ⟨i0, i1, i2, i3, i4, i5, i6⟩ := Qif hv5; have f0 := Qdk hv5 0; have f1 := Qdk hv5 1; have f2 := Qdk hv5 2; have f3 := Qdk hv5 3; have f4 := Qdk hv5 4; have f5 := Qdk hv5 5; clear h0 h1 h2 h3 h4 h5 h6))
 have hv5 : Qie (w4.alloc (.cells #[.int .u8 R'.1, .int .u32 R'.2.1, .int .u32 R'.2.2.1, .int .i64 R'.2.2.2.1, .int .i64 R'.2.2.2.2] 47)) g R (.slice A n c) (.slice AT nT cT) := Qdq hv4 _
 have hb5 : Below w4.heap.size w4 (w4.alloc (.cells #[.int .u8 R'.1, .int .u32 R'.2.1, .int .u32 R'.2.2.1, .int .i64 R'.2.2.2.1, .int .i64 R'.2.2.2.2] 47)) := Qco (Below.refl _ _) _
 have hB5 := Qcr hB4.out hB4.out.size hb5
 obtain ⟨W6, hW6, hv6, hR6, hT6, hb6, hk6⟩ := bd_set5 R' hv5 (R8.kept HR.out hB5) (Kd.R_below HT.out hB5) hbg
 have K6 : Aside0 (Tb g w W6) := ⟨fun k cs t h1 _ _ h4 => (hk6 k h4).trans (Qdt h1 hB5)⟩
 rw [← hW6]
 have hs6 : w4.heap.size ≤ W6.heap.size := Nat.le_trans hb5.size hb6.size
 clear hW6 i0 i1 i2 i3 i4 i5 i6 f0 f1 f2 f3 f4 f5
 obtain ⟨m0, m1, m2, m3, m4, m5, m6⟩ := Qif hv6
 have hg1 : g < w1.heap.size := Nat.lt_of_lt_of_le hgw hB1.out.size
 have hRF5 := R8.kept (R8.kept (R8.kept hRF hb3) hb4) hb5
 have hRF6 : R8 W6 w1.heap.size (.slice AF nF cF) F := Kd.R_mono (Kd.R_step (Kd.R_bound hRF5) (fun k hk _ => hk6 k (by have := hk.2.1; omega))) (fun _ _ => trivial)
 have hCF6 : Kd.C (Kd.int .u8) W6 AF nF F := by
  have h := Kd.R_reads' hRF6
  rw [h.1]
  exact h.2.2
 have hB6 := QA ((Qgu hB5 hbw).trans hb6)
 have hz6 : b ≤ W6.heap.size := Nat.le_trans hbw hB6.out.size
 clear hRF5 hRF6 hRF
 go_wp2_with (first
  | (at_builtin; go_loud (refine Kd.R_append_rows (Kd.int .u8) (Rr := fun x cs => cs = [.int .u8 x]) (w0 := W6) b rfl (.tmp 57) (.tmp 58) 52 5 (.int .u8 0) 1 rfl Tryz.underlying52 Qgk rfl (by decide) (by omega) (.slice A n c) fr F AF nF cF (fun _ => True) (fun _ => False) rfl rfl hR6 hCF6 (fun _ _ h => h) (fun _ hk => hk.elim) (fun _ _ => trivial) (Below.refl _ _) hz6 ?bL ?_; (case bL => have := hnF.out; omega); intro v7 w7 HR7 hb7 hg7 hat7; obtain ⟨A7, n7, c7, rfl⟩ := R8.shape HR7; have hv7 : Qie w7 g R' (.slice A n c) (.slice AT nT cT) := Qdl hv6 hg7 (R8.clean hR6 hv6 (by decide)); obtain ⟨p0, p1, p2, p3, p4, p5, p6⟩ := Qif hv7; have f5 := Qdk hv7 5; clear m0 m1 m2 m3 m4 m5 m6)))
 have K7 := QA (Tb.grown K6.out hg7 (Kd.R_typed hR6) (.inl rfl))
 have hgB : w.heap.size ≠ g := by omega
 have q5 := Qdq hk4 (.cells #[.int .u8 R'.1, .int .u32 R'.2.1, .int .u32 R'.2.2.1, .int .i64 R'.2.2.2.1, .int .i64 R'.2.2.2.2] 47)
 have q6 := (hk6 _ hgB).trans q5
 have q7 := Qdl q6 hg7 (R8.clean hR6 q6 (by decide))
 have hT7 := Kd.R_over' hT6 (Kd.R_typed hR6) (by decide) hg7
 have ht : ∀ q, q ∈ 117 :: (k117).E → q ≠ 108 := by decide
 obtain ⟨W8, hW8⟩ : ∃ W8, W8 = w7.setCell ⟨g, 5, none⟩ (.slice A7 n7 c7) := ⟨_, rfl⟩
 have q8 : W8.heap[w.heap.size]? = some (.cells #[.bool d, .int .u64 s, .string key, .string v] 39 (0, 0)) := by rw [hW8]; exact Qdh q7 hgB _
 have hv8 : Qie W8 g R' (.slice A7 n7 c7) (.slice AT nT cT) := by rw [hW8]; exact Qdg hv7 5 _
 have hR8 : R8 W8 b (.slice A7 n7 c7) (fr ++ F) := by rw [hW8]; exact R8.set HR7 hv7 (by decide) 5 _
 have hT8 : Kd.R k117 117 W8 b (fun _ => True) (.slice AT nT cT) tb := by rw [hW8]; exact Kd.R_set hT7 hv7 ht 5 _
 have hB8 : Aside0 (Below b w W8) := ⟨by rw [hW8]; exact Qgt (hB6.out.trans hb7) hbg⟩
 have K8 : Aside0 (Tb g w W8) := ⟨by rw [hW8]; exact K7.out.set _⟩
 rw [← hW8]
 clear hW8
 have HR8 := QA hR8
 have HT8 := QA hT8
 clear hR8 hT8 hT7 hT6 hR6 HR7 q5 q6 q7 hv7
 obtain ⟨r0, r1, r2, r3⟩ := box4 q8
 obtain ⟨s0, s1, s2, s3, s4, s5, s6⟩ := Qif hv8
 have hz8 : b ≤ W8.heap.size := Nat.le_trans hbw hB8.out.size
 clear p0 p1 p2 p3 p4 p5 p6
 have hnn : n = fr.length := hn0.out
 have HNN := QA hnn
 clear hnn
 go_region_law (first
  | (go_simp; go_at_call 60; refine (hash_of key W8.drew (by omega)).mono ?_; rintro e w9 ⟨rfl, hb9⟩; have hv9 : Qie w9 g R' (.slice A7 n7 c7) (.slice AT nT cT) := Qdt (w := W8.drew) hv8 hb9; have hB9 : Aside0 (Below b w w9) := ⟨(hB8.out.trans (Qcp (Below.refl _ _))).trans (Qgu hb9 hz8)⟩; have K9 := QA (K8.out.trans (Tb.below (w := W8.drew) hb9)); have HR9 := QA (R8.kept (W := W8.drew) HR8.out hb9); have HT9 := QA (Kd.R_below (w := W8.drew) HT8.out hb9); obtain ⟨u0, u1, u2, u3, u4, u5, u6⟩ := Qif hv9; have a6 : ∀ o, (w9.alloc o).cell? ⟨g, 6, none⟩ = some (.slice AT nT cT) := (fun o => (Qif (Qdq hv9 o)).2.2.2.2.2.2))
  | (refine Kd.R_append_step k117 (w0 := w) b (by rfl) (.tmp 66) (.tmp 72) 106 117 (.agg #[(.int .u64 0), (.int .u32 0)]) 16 rfl Tryz.underlying106 info_ent rfl (by decide) (by omega) (.slice AT nT cT) tb (⟨Qhz 0 (bytesOf key), (n : Int) % 4294967296⟩ : S117) [.int .u64 (Qhz 0 (bytesOf key)), .int .u32 ((n : Int) % 4294967296)] (fun _ => True) (fun _ => False) rfl ?ax ?aP (fun _ hk => hk.elim) (fun _ _ => trivial) ?aO hB9.out ?aS ?aL ?_; (case ax => rfl); (case aP => exact k117_mkM _ _ _ (⟨Qhz 0 (bytesOf key), (n : Int) % 4294967296⟩ : S117)); (case aO => exact HT9.out); (case aS => exact Nat.le_trans hbw hB9.out.size); (case aL => omega); intro v10 w10 HR10 hb10 hg10 hat10; obtain ⟨A10, n10, c10, rfl⟩ : ∃ A n c, v10 = .slice A n c := (by obtain ⟨A, c, e⟩ := Kd.R_slice HR10; exact ⟨A, _, c, e⟩); have hv10 : Qie w10 g R' (.slice A7 n7 c7) (.slice AT nT cT) := Qdl hv9 hg10 (Kd.R_ne HT9.out hv9 (by decide)); have K10 := QA (Tb.grown K9.out hg10 (Kd.R_typed HT9.out) (.inr rfl)); have HR10' := QA (Kd.R_over' HR9.out (Kd.R_typed HT9.out) (by decide) hg10); obtain ⟨x0, x1, x2, x3, x4, x5, x6⟩ := Qif hv10; have fx := Qdk hv10 6; clear u0 u1 u2 u3 u4 u5 u6 a6))
 all_goals
  go_wp2
  refine bodyPost_ret (results_tmp2 rfl _ _ _) rfl ?_
  refine ⟨by (rw [← HNN.out]; rfl), ⟨_, _, Qdg hv10 6 _, R8.set HR10'.out hv10 (by decide) 6 _, ?_⟩, Qgt hb10 hbg, K10.out.set _⟩
  rw [← HNN.out]
  exact Kd.R_set HR10 hv10 ht 6 _
theorem bd_Add_chk (g : Nat) (d : Bool) (s e : Int) (key v : ByteArray) (w : World) (hchk : chk d key v = e) (hne : e ≠ 0) :
  Calls Tryz.prog 21 #[.pointer (some ⟨g, 0, none⟩), .agg #[.bool d, .int .u64 s, .string key, .string v]] w fun ee w' => ee = .returned (.tuple #[.int .u32 0, .int .i64 e]) ∧ Below w.heap.size w w' := by
 have hu := Tryz.underlying39
 have hcheck := Qhs d s key v
 rw [hchk] at hcheck
 have HCK := QA hcheck
 have hnb : (e == 0) = false := beq_eq_false_iff_ne.2 hne
 have hnc : (e != 0) = true := bne_iff_ne.2 hne
 clear hcheck hchk
 have hba : Below w.heap.size w (w.alloc (.cells #[.bool d, .int .u64 s, .string key, .string v] 39)) := Qco (Below.refl _ _) _
 go_enter Tryz.func21, Tryz.ntmps21
 go_wp2_with (go_at_call 56; refine (Qcj.calls 1 _ s key v e _ HCK.out).mono ?_; rintro e w1 ⟨rfl, hb1⟩)
 refine bodyPost_ret (results_tmp2 rfl _ _ _) rfl ?_
 exact ⟨rfl, Qcr hba hba.size hb1⟩
theorem bd_Add_large (b g : Nat) (R : Room5) (fr F : List Int) (tb : List S117) (d : Bool) (s : Int) (key v : ByteArray) (w : World) (hI : IsBd w b g R fr tb)
  (hchk : chk d key v = 0) (hput : Qbz.f d s key v = some (F, 0)) (htl : Qch.f R.1 R.2.1 F.length = some true) :
  Calls Tryz.prog 21 #[.pointer (some ⟨g, 0, none⟩), .agg #[.bool d, .int .u64 s, .string key, .string v]] w fun e w' => e = .returned (.tuple #[.int .u32 0, .int .i64 6]) ∧ Below w.heap.size w w' := by
 have hu := Tryz.underlying39
 have hu1 := Tryz.underlying27
 have hu2 := Tryz.underlying47
 have hu3 := Tryz.underlying108
 obtain ⟨fv, tv, hv, hR, hT⟩ := hI
 have hv' : Qie w g R fv tv := hv
 have hcheck := Qhs d s key v
 rw [hchk] at hcheck
 have HCK := QA hcheck
 have HPU := QA hput
 have HTL := QA htl
 have HV := QA hv'
 clear hcheck hput htl hchk hR hT hv hv'
 have hba : Below w.heap.size w (w.alloc (.cells #[.bool d, .int .u64 s, .string key, .string v] 39)) := Qco (Below.refl _ _) _
 have hbn := Qdu w (.cells #[.bool d, .int .u64 s, .string key, .string v] 39)
 go_enter Tryz.func21, Tryz.ntmps21
 go_wp2_with (first
  | (go_at_call 56; refine (Qcj.calls 1 _ s key v 0 _ HCK.out).mono ?_; rintro e w1 ⟨rfl, hb1⟩; have hB1 := QA (Qcr hba hba.size hb1); have hk1 := Qdt hbn hb1; obtain ⟨c0, c1, c2, c3⟩ := box4 hk1)
  | (go_at_call 57; refine (Qbz.calls _ s key v F 0 _ HPU.out).mono ?_; rintro e w2 ⟨vF, rfl, hRF, hb2⟩; have hB2 := QA (Qcr hB1.out hB1.out.size hb2); have hk2 := Qdt hk1 hb2; obtain ⟨AF, nF, cF, rfl, hnF, hlF, hCF⟩ := R8.reads hRF; have hv2 : Qie w2 g R fv tv := Qdt HV.out hB2.out; obtain ⟨g0, g1, g2, g3, g4, g5, g6⟩ := Qif hv2; clear c0 c1 c2 c3)
  | (go_at_call 58; refine (Qch.calls _ _ _ true _ (by rw [hnF.out]; exact HTL.out)).mono ?_; rintro e w3 ⟨rfl, hb3⟩; have hB3 := QA (Qcr hB2.out hB2.out.size hb3)))
 refine bodyPost_ret (results_tmp2 rfl _ _ _) rfl ?_
 exact ⟨rfl, hB3.out⟩
theorem bd_Add_full (b g : Nat) (R : Room5) (fr F : List Int) (tb : List S117) (d : Bool) (s : Int) (key v : ByteArray) (w : World) (hI : IsBd w b g R fr tb)
  (hchk : chk d key v = 0) (hput : Qbz.f d s key v = some (F, 0)) (htl : Qch.f R.1 R.2.1 F.length = some false) (x0 x1 x2 x3 x4 er : Int) (her : er ≠ 0) (htk : Qcg.f R.1 R.2.1 R.2.2.1 R.2.2.2.1 R.2.2.2.2 F.length = some (x0, x1, x2, x3, x4, er)) :
  Calls Tryz.prog 21 #[.pointer (some ⟨g, 0, none⟩), .agg #[.bool d, .int .u64 s, .string key, .string v]] w fun e w' => e = .returned (.tuple #[.int .u32 0, .int .i64 er]) ∧ Below w.heap.size w w' := by
 have hu := Tryz.underlying39
 have hu1 := Tryz.underlying27
 have hu2 := Tryz.underlying47
 have hu3 := Tryz.underlying108
 obtain ⟨fv, tv, hv, hR, hT⟩ := hI
 have hv' : Qie w g R fv tv := hv
 have hcheck := Qhs d s key v
 rw [hchk] at hcheck
 have HCK := QA hcheck
 have HPU := QA hput
 have HTL := QA htl
 have HTK := QA htk
 have HV := QA hv'
 have hnb : (er == 0) = false := beq_eq_false_iff_ne.2 her
 have hnc : (er != 0) = true := bne_iff_ne.2 her
 clear hcheck hput htl hchk hR hT hv hv' htk
 have hba : Below w.heap.size w (w.alloc (.cells #[.bool d, .int .u64 s, .string key, .string v] 39)) := Qco (Below.refl _ _) _
 have hbn := Qdu w (.cells #[.bool d, .int .u64 s, .string key, .string v] 39)
 go_enter Tryz.func21, Tryz.ntmps21
 go_wp2_with (first
  | (go_at_call 56; refine (Qcj.calls 1 _ s key v 0 _ HCK.out).mono ?_; rintro e w1 ⟨rfl, hb1⟩; have hB1 := QA (Qcr hba hba.size hb1); have hk1 := Qdt hbn hb1; obtain ⟨c0, c1, c2, c3⟩ := box4 hk1)
  | (go_at_call 57; refine (Qbz.calls _ s key v F 0 _ HPU.out).mono ?_; rintro e w2 ⟨vF, rfl, hRF, hb2⟩; have hB2 := QA (Qcr hB1.out hB1.out.size hb2); have hk2 := Qdt hk1 hb2; obtain ⟨AF, nF, cF, rfl, hnF, hlF, hCF⟩ := R8.reads hRF; have hv2 : Qie w2 g R fv tv := Qdt HV.out hB2.out; obtain ⟨g0, g1, g2, g3, g4, g5, g6⟩ := Qif hv2; clear c0 c1 c2 c3)
  | (go_at_call 58; refine (Qch.calls _ _ _ false _ (by rw [hnF.out]; exact HTL.out)).mono ?_; rintro e w3 ⟨rfl, hb3⟩; have hB3 := QA (Qcr hB2.out hB2.out.size hb3); have hv3 : Qie w3 g R fv tv := Qdt HV.out hB3.out; obtain ⟨h0, h1, h2, h3, h4, h5, h6⟩ := Qif hv3; clear g0 g1 g2 g3 g4 g5 g6)
  | (go_at_call 59; refine (Qcg.calls _ _ _ _ _ _ _ _ _ _ _ _ _ (by rw [hnF.out]; exact HTK.out)).mono ?_; rintro e w4 ⟨rfl, hb4⟩; have hB4 := QA (Qcr hB3.out hB3.out.size hb4)))
 refine bodyPost_ret (results_tmp2 rfl _ _ _) rfl ?_
 exact ⟨rfl, hB4.out.trans (Qgu (Qco (Below.refl _ _) _) hB4.out.size)⟩
end Go.Proofs.YtnnofopfbeklbaaGreat.C
end
section
namespace Go.Proofs.YtnnofopfbeklbaaGreat.C
open Go.RowKit Go.Proofs.YtnnofopfbeklbaaGreatW.PrintWords Go.Proofs.YtnnofopfbeklbaaGreatW.PrintLast Go.Proofs.YtnnofopfbeklbaaGreatW.PrintMore
attribute [local go_sem] Qfx Qfy Qfz Qga Qgb Qgc Qgd Qge
def Qag.l0 : Nat → Int → List Int → Int → Int → Option (Int)
 | 0, _, _, _, _ => none
 | k + 1, x3, x6, x7, x8 => if x8 < x7 then (if 0 ≤ x8 then (if x8 < (x6.length : Int) then (if (rd x6 x8) = x3 then (Qag.l0 k x3 x6 x7 (wrap64 (x8 + 1))) else (some (rd x6 x8))) else (none)) else (none)) else (some x3)
def Qag.f (k : Nat) (l0 : List Int) : Option (Int) := Qag.l0 k 0 l0 (l0.length : Int) 0
theorem Qag.mono_l : ∀ k, (∀ y0 y1 y2 y3, LeO (Qag.l0 k y0 y1 y2 y3) (Qag.l0 (k + 1) y0 y1 y2 y3))
 | 0 => fun _ _ _ _ r h => by simp [Qag.l0] at h
 | k + 1 => by
  have ih0 := Qag.mono_l k
  ·intro y0 y1 y2 y3
   unfold Qag.l0
   repeat' first
   | (with_reducible exact ih0 _ _ _ _)
   | (with_reducible exact LeO.refl _)
   | (with_reducible exact LeO.none _)
   | (with_reducible refine LeO.ite ?_ ?_)
   | (with_reducible refine LeO.bind ?_ (fun _ => ?_))
   | exact ih0 _ _ _ _
   | exact LeO.none _
   | refine LeO.ite ?_ ?_
   | refine LeO.bind ?_ (fun _ => ?_)
theorem Qag.mono : ∀ a0 k, LeO (Qag.f k a0) (Qag.f (k + 1) a0) := by
 intro a0 k
 have ih0 := Qag.mono_l k
 unfold Qag.f
 repeat' first
   | (with_reducible exact ih0 _ _ _ _)
   | (with_reducible exact LeO.refl _)
   | (with_reducible exact LeO.none _)
   | (with_reducible refine LeO.ite ?_ ?_)
   | (with_reducible refine LeO.bind ?_ (fun _ => ?_))
   | exact ih0 _ _ _ _
   | exact LeO.none _
   | refine LeO.ite ?_ ?_
   | refine LeO.bind ?_ (fun _ => ?_)
theorem Qag.calls (k : Nat) (A0 : Option Addr) (c0 : Nat) (l0 : List Int) (r : Int) (w : World) (hr0 : Kd.C (Kd.int .i64) w A0 l0.length l0) (hc0 : l0.length ≤ c0) (h : Qag.f k l0 = some r) :
  Calls Tryz.prog 165 #[.slice A0 l0.length c0] w fun e w' => e = .returned (.int .i64 r) ∧ Drawn0 w w' := by
 have HR0 := QA hr0
 have HC0 := QA hc0
 clear hr0 hc0
 have H : (Qag.l0 k 0 l0 (l0.length : Int) 0) = some r := h
 clear h
 have H' := QA H
 clear H
 go_enter Tryz.func165, Tryz.ntmps165
 go_wp2
 go_loopg [8] k (fun kq v8 w' => ∃ (x8_1 : Int), v8 = .int .i64 x8_1 ∧ Aside0 (Qag.l0 kq 0 l0 (l0.length : Int) x8_1 = some r) ∧ Aside0 (kq ≤ k) ∧ Drawn0 w w')
 case atStart => exact ⟨(0), qq_5, H', ⟨Nat.le_refl _⟩, by repeat (first | exact Drawn0.refl _ | apply Drawn0.step)⟩
 case round =>
  clear H'
  obtain ⟨x8_1, rfl, HA, HK1, ⟨m1, rfl⟩⟩ := hrel
  cases gk with
  | zero => exact absurd HA.out (by simp [Qag.l0])
  | succ k1 =>
   have H := HA.out
   clear HA
   simp only [Qag.l0] at H
   by_cases c2 : x8_1 < (l0.length : Int)
   ·rw [if_pos c2] at H
    have c2b0 : decide (x8_1 < (l0.length : Int)) = true := decide_eq_true c2
    clear c2
    by_cases c3 : 0 ≤ x8_1
    ·rw [if_pos c3] at H
     have c3b0 : decide (0 ≤ x8_1) = true := decide_eq_true c3
     clear c3
     by_cases c4 : x8_1 < (l0.length : Int)
     ·rw [if_pos c4] at H
      have c4b0 : decide (x8_1 < (l0.length : Int)) = true := decide_eq_true c4
      clear c4
      by_cases c5 : (rd l0 x8_1) = 0
      ·rw [if_pos c5] at H
       have c5b0 : ((rd l0 x8_1) == 0) = true := beq_iff_eq.mpr c5
       have c5b1 : ((rd l0 x8_1) != 0) = false := bne_eq_false_iff_eq.mpr c5
       clear c5
       have H' := QA H
       clear H
       have p208 : 0 ≤ (x8_1 : Int) := of_decide_eq_true qq_7
       have q208 : x8_1 < (l0.length : Int) := of_decide_eq_true qq_7
       obtain ⟨ad208, e208, hx208_0⟩ := Kd.at_int HR0.out x8_1 p208 q208
       cases e208
       replace p208 := eq_true p208
       replace q208 := eq_true q208
       go_wp2
       go_roundg k1
       case measure => have := HK1.out; omega
       case rel => exact ⟨(wrap64 (x8_1 + 1)), qq_5, H', ⟨by have := HK1.out; omega⟩, by repeat (first | exact Drawn0.refl _ | apply Drawn0.step)⟩
      ·rw [if_neg c5] at H
       have c5b0 : ((rd l0 x8_1) == 0) = false := beq_eq_false_iff_ne.mpr c5
       have c5b1 : ((rd l0 x8_1) != 0) = true := bne_iff_ne.mpr c5
       obtain rfl := Option.some.inj H
       have p208 : 0 ≤ (x8_1 : Int) := of_decide_eq_true qq_7
       have q208 : x8_1 < (l0.length : Int) := of_decide_eq_true qq_7
       obtain ⟨ad208, e208, hx208_0⟩ := Kd.at_int HR0.out x8_1 p208 q208
       cases e208
       replace p208 := eq_true p208
       replace q208 := eq_true q208
       go_wp2
       go_ret
       exact ⟨by first | rfl | (simp; done) | (simp [*]; done), by repeat (first | exact Drawn0.refl _ | apply Drawn0.step)⟩
     ·rw [if_neg c4] at H
      exact absurd H (by simp)
    ·rw [if_neg c3] at H
     exact absurd H (by simp)
   ·rw [if_neg c2] at H
    have c2b0 : decide (x8_1 < (l0.length : Int)) = false := decide_eq_false c2
    clear c2
    obtain rfl := Option.some.inj H
    go_wp2
    go_ret
    exact ⟨by first | rfl | (simp; done) | (simp [*]; done), by repeat (first | exact Drawn0.refl _ | apply Drawn0.step)⟩
def Qah.f (a0 : Int) : Option (Bool) := some (a0 != a0)
theorem Qah.calls (a0 : Int) (r : Bool) (w : World) (h : Qah.f a0 = some r) :
  Calls Tryz.prog 216 #[.int .u32 a0] w fun e w' => e = .returned (.bool r) ∧ Drawn0 w w' := by
 have H : (some (a0 != a0)) = some r := h
 clear h
 obtain rfl := Option.some.inj H
 go_enter Tryz.func216, Tryz.ntmps216
 go_wp2
 go_ret
 exact ⟨by first | rfl | (simp; done) | (simp [*]; done), by repeat (first | exact Drawn0.refl _ | apply Drawn0.step)⟩
end Go.Proofs.YtnnofopfbeklbaaGreat.C
end
