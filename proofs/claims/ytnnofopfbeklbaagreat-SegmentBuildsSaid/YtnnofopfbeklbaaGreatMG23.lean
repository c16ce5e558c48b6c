/- Texts of this claim's author and of the print of its functions, merged by merge.py. -/
import Derived.Test.YtnnofopfbeklbaaGreatMG02
import Derived.Test.YtnnofopfbeklbaaGreatMG13
import Derived.Test.YtnnofopfbeklbaaGreatMG16
import Derived.Test.YtnnofopfbeklbaaGreatMG18
import Derived.Test.YtnnofopfbeklbaaGreatMG20
import Derived.Test.YtnnofopfbeklbaaGreatMG22
import Derived.Test.YtnnofopfbeklbaaGreatMG08
import Derived.Test.YtnnofopfbeklbaaGreatMG12
import Derived.Test.YtnnofopfbeklbaaGreatMG05
import Derived.Test.YtnnofopfbeklbaaGreatMG03
import Derived.Test.YtnnofopfbeklbaaGreatMG06
set_option linter.unusedVariables false
set_option linter.unusedSimpArgs false
set_option maxHeartbeats 8000000
set_option maxRecDepth 100000
section
namespace Go.Proofs.YtnnofopfbeklbaaGreat.C
open Go.RowKit Go.Proofs.YtnnofopfbeklbaaGreatW.PrintWords Go.Proofs.YtnnofopfbeklbaaGreatW.PrintLast Go.Proofs.YtnnofopfbeklbaaGreatW.PrintMore
attribute [local go_sem high] eqA27 eqA47
theorem z36 {W : World} {p : Nat} {v0 v1 v2 v3 v4 : Value} (h : W.heap[p]? = some (.cells #[v0, v1, v2, v3, v4] 36 (0, 0))) :
  W.cell? ⟨p, 0, none⟩ = some v0 ∧ W.cell? ⟨p, 1, none⟩ = some v1 ∧ W.cell? ⟨p, 2, none⟩ = some v2 ∧ W.cell? ⟨p, 3, none⟩ = some v3 ∧ W.cell? ⟨p, 4, none⟩ = some v4 ∧ W.frozen? ⟨p, 0, none⟩ = false ∧ W.frozen? ⟨p, 1, none⟩ = false ∧ W.frozen? ⟨p, 2, none⟩ = false ∧ W.frozen? ⟨p, 3, none⟩ = false ∧ W.frozen? ⟨p, 4, none⟩ = false :=
 ⟨(Qdj h 0).trans rfl, (Qdj h 1).trans rfl, (Qdj h 2).trans rfl, (Qdj h 3).trans rfl, (Qdj h 4).trans rfl, Qdk h 0, Qdk h 1, Qdk h 2, Qdk h 3, Qdk h 4⟩
def R9 (wf W : World) (b1 b2 : Bool) (x : Nat × Nat) : Prop :=
 Below wf.heap.size wf W ∧ (b1 = true → W.heap[x.1]? = some (.cells #[.int .u8 0, .int .u32 0, .int .u64 0, .int .i64 0, .int .i64 0] 36 (0, 0)) ∧ wf.heap.size ≤ x.1) ∧ (b2 = true → W.heap[x.2]? = some (.cells #[.int .u8 0, .int .u32 0, .int .u64 0, .int .i64 0, .int .i64 0] 36 (0, 0)) ∧ wf.heap.size ≤ x.2) ∧ (b1 = true → b2 = true → x.1 ≠ x.2)
theorem R9.start (wf : World) : R9 wf wf.drew false false (0, 0) := ⟨Qcp (Below.refl _ _), by simp, by simp, by simp⟩
theorem R9.below {wf W W' : World} {b1 b2 : Bool} {x : Nat × Nat} (h : R9 wf W b1 b2 x) (hb : Below W.heap.size W W') : R9 wf W' b1 b2 x :=
 ⟨h.1.trans (Qgu hb h.1.size), fun h1 => ⟨Qdt (h.2.1 h1).1 hb, (h.2.1 h1).2⟩, fun h1 => ⟨Qdt (h.2.2.1 h1).1 hb, (h.2.2.1 h1).2⟩, h.2.2.2⟩
theorem R9.one {wf W : World} {b2 : Bool} {p p2 : Nat} (h : R9 wf W false b2 (p, p2)) : R9 wf (W.alloc (.cells #[.int .u8 0, .int .u32 0, .int .u64 0, .int .i64 0, .int .i64 0] 36)) true b2 (W.heap.size, p2) := by
 have h' := h.below (Qco (Below.refl _ _) (.cells #[.int .u8 0, .int .u32 0, .int .u64 0, .int .i64 0, .int .i64 0] 36))
 refine ⟨h'.1, fun _ => ⟨Qdu W _, h.1.size⟩, h'.2.2.1, fun _ h2 => ?_⟩
 have := Qdi (h.2.2.1 h2).1
 exact fun h3 => by omega
theorem R9.two {wf W : World} {b1 : Bool} {p p2 : Nat} (h : R9 wf W b1 false (p, p2)) : R9 wf (W.alloc (.cells #[.int .u8 0, .int .u32 0, .int .u64 0, .int .i64 0, .int .i64 0] 36)) b1 true (p, W.heap.size) := by
 have h' := h.below (Qco (Below.refl _ _) (.cells #[.int .u8 0, .int .u32 0, .int .u64 0, .int .i64 0, .int .i64 0] 36))
 refine ⟨h'.1, h'.2.1, fun _ => ⟨Qdu W _, h.1.size⟩, fun h1 _ => ?_⟩
 have := Qdi (h.2.1 h1).1
 exact fun h3 => by omega
theorem R9.all {wf W : World} {p p2 : Nat} (h : R9 wf W true true (p, p2)) : Below wf.heap.size wf W ∧ (W.heap[p]? = some (.cells #[.int .u8 0, .int .u32 0, .int .u64 0, .int .i64 0, .int .i64 0] 36 (0, 0)) ∧ wf.heap.size ≤ p) ∧ (W.heap[p2]? = some (.cells #[.int .u8 0, .int .u32 0, .int .u64 0, .int .i64 0, .int .i64 0] 36 (0, 0)) ∧ wf.heap.size ≤ p2) ∧ p ≠ p2 := ⟨h.1, h.2.1 rfl, h.2.2.1 rfl, h.2.2.2 rfl rfl⟩
theorem Qji {W W' : World} {q : Nat} (h : W'.heap[q]? = W.heap[q]?) (j : Nat) : W'.cell? ⟨q, j, none⟩ = W.cell? ⟨q, j, none⟩ := by simp only [World.cell?, h]
theorem set36 {W w0 : World} {p m : Nat} {v0 v1 v2 v3 v4 : Value} (h3 : W.heap[p]? = some (.cells #[v0, v1, v2, v3, v4] 36 (0, 0))) (hp : m ≤ p) (hB : Below m w0 W) (a b c d e : Value) :
  ∃ W', W' = (((((W.setCell ⟨p, 0, none⟩ a).setCell ⟨p, 1, none⟩ b).setCell ⟨p, 2, none⟩ c).setCell ⟨p, 3, none⟩ d).setCell ⟨p, 4, none⟩ e) ∧ W'.heap[p]? = some (.cells #[a, b, c, d, e] 36 (0, 0)) ∧ (∀ k, k ≠ p → W'.heap[k]? = W.heap[k]?) ∧ Below m w0 W' := by
 have b1 := Qdg h3 0 a
 have b2 := Qdg b1 1 b
 have b3 := Qdg b2 2 c
 have b4 := Qdg b3 3 d
 have b5 := Qdg b4 4 e
 refine ⟨_, rfl, b5, fun k hk => ?_, Qgt (Qgt (Qgt (Qgt (Qgt hB hp) hp) hp) hp) hp⟩
 rw [Below.heap_setCell _ _ _ k hk, Below.heap_setCell _ _ _ k hk, Below.heap_setCell _ _ _ k hk, Below.heap_setCell _ _ _ k hk, Below.heap_setCell _ _ _ k hk]
def SBSt (w W : World) (b g q p p2 : Nat) (e s n u c m2 mu mc : Int) (vh : Value) (hd : List Rec) (B : Bd) : Prop :=
 IsB W b g B ∧ W.heap[q]? = some (.cells #[.int .u8 e, .int .u32 s] 27 (0, 0)) ∧ W.heap[p]? = some (.cells #[.int .u8 e, .int .u32 s, .int .u64 n, .int .i64 u, .int .i64 c] 36 (0, 0)) ∧
  W.heap[p2]? = some (.cells #[.int .u8 e, .int .u32 s, .int .u64 m2, .int .i64 mu, .int .i64 mc] 36 (0, 0)) ∧ Kd.R k39 39 W b (fun _ => True) vh hd ∧ Below w.heap.size w W ∧ b ≤ W.heap.size
theorem IsBd.typed {W : World} {b g : Nat} {R : Room5} {fr : List Int} {tb : List S117} (h : IsBd W b g R fr tb) : ∃ cs, W.heap[g]? = some (.cells cs 108 (0, 0)) := by
 obtain ⟨fv, tv, hv, _⟩ := h
 exact ⟨_, hv⟩
theorem IsBd.blk {W W' : World} {b g : Nat} {R : Room5} {fr : List Int} {tb : List S117} (h : IsBd W b g R fr tb) (hm : ∀ (k : Nat) (cs : Array Value) (t : TypeId), W.heap[k]? = some (.cells cs t (0, 0)) → (t = 5 ∨ t = 117 ∨ t = 108) → W'.heap[k]? = W.heap[k]?) : IsBd W' b g R fr tb := by
 obtain ⟨fv, tv, hv, hR, hT⟩ := h
 refine ⟨fv, tv, (hm _ _ _ hv (.inr (.inr rfl))).trans hv, ?_, ?_⟩
 ·refine Kd.R_mono (Kd.R_step (Kd.R_bound hR) (fun k hk _ => ?_)) (fun _ _ => trivial)
  obtain ⟨_, _, _, qq, hq, cells, hc⟩ := hk
  exact hm k _ _ hc (by revert hq; revert qq; intro qq hc hq; rcases List.mem_cons.1 hq with rfl | hq; exact .inl rfl; cases hq)
 ·refine Kd.R_mono (Kd.R_step (Kd.R_bound hT) (fun k hk _ => ?_)) (fun _ _ => trivial)
  obtain ⟨_, _, _, qq, hq, cells, hc⟩ := hk
  exact hm k _ _ hc (by have ht : ∀ q, q ∈ 117 :: (k117).E → q = 117 := (by decide); exact .inr (.inl (ht qq hq)))
theorem RRec.blk {W W' : World} {b : Nat} {v : Value} {l : List Rec} (h : Kd.R k39 39 W b (fun _ => True) v l) (hm : ∀ (k : Nat) (cs : Array Value), W.heap[k]? = some (.cells cs 39 (0, 0)) → W'.heap[k]? = W.heap[k]?) : Kd.R k39 39 W' b (fun _ => True) v l := by
 refine Kd.R_mono (Kd.R_step (Kd.R_bound h) (fun k hk _ => ?_)) (fun _ _ => trivial)
 obtain ⟨_, _, _, qq, hq, cells, hc⟩ := hk
 have ht : ∀ q, q ∈ 39 :: (k39).E → q = 39 := by decide
 obtain rfl := ht qq hq
 exact hm k _ hc
section
variable {w W W' : World} {b g q p p2 : Nat} {e s n u c m2 mu mc : Int} {vh : Value} {hd : List Rec} {B : Bd}
theorem SBSt.below (h : SBSt w W b g q p p2 e s n u c m2 mu mc vh hd B) (hb : Below W.heap.size W W') : SBSt w W' b g q p p2 e s n u c m2 mu mc vh hd B := by
 obtain ⟨h1, h2, h3, h4, h5, h6, h7⟩ := h
 exact ⟨IsBd.kept h1 hb, Qdt h2 hb, Qdt h3 hb, Qdt h4 hb, Kd.R_below h5 hb, h6.trans (Qgu hb h6.size), Nat.le_trans h7 hb.size⟩
theorem SBSt.atp (h : SBSt w W b g q p p2 e s n u c m2 mu mc vh hd B) (j : Nat) : W.frozen? ⟨p, j, none⟩ = false := Qdk h.2.2.1 j
theorem SBSt.alloc (h : SBSt w W b g q p p2 e s n u c m2 mu mc vh hd B) (o : Obj) : SBSt w (W.alloc o) b g q p p2 e s n u c m2 mu mc vh hd B := h.below (Qco (Below.refl _ _) _)
theorem SBSt.add {B' : Bd} (h : SBSt w W b g q p p2 e s n u c m2 mu mc vh hd B) (hwb : w.heap.size ≤ b) (hI : IsB W' b g B') (hb : Below b W W') (ht : Tb g W W') : SBSt w W' b g q p p2 e s n u c m2 mu mc vh hd B' := by
 obtain ⟨h1, h2, h3, h4, h5, h6, h7⟩ := h
 obtain ⟨cs, hv⟩ := IsBd.typed h1
 refine ⟨hI, ht _ _ _ h2 (by decide) (by decide) (Qdm h2 hv (by decide)), ht _ _ _ h3 (by decide) (by decide) (Qdm h3 hv (by decide)), ht _ _ _ h4 (by decide) (by decide) (Qdm h4 hv (by decide)), RRec.blk h5 (fun k cs hc => ?_), h6.trans (Qgu hb hwb), Nat.le_trans h7 hb.size⟩
 rw [hc]
 exact ht _ _ _ hc (by decide) (by decide) (Qdm hc hv (by decide))
theorem SBSt.grown {vh' : Value} {hd' : List Rec} (h : SBSt w W b g q p p2 e s n u c m2 mu mc vh hd B) (hwb : w.heap.size ≤ b) (hR : Kd.R k39 39 W' b (fun _ => True) vh' hd') (hb : Below b W W') (hg : W.grownBy W' vh.ownBlock) : SBSt w W' b g q p p2 e s n u c m2 mu mc vh' hd' B := by
 obtain ⟨h1, h2, h3, h4, h5, h6, h7⟩ := h
 refine ⟨IsBd.blk h1 (fun k cs t hc ht => ?_), Qdl h2 hg (Kd.R_ne h5 h2 (by decide)), Qdl h3 hg (Kd.R_ne h5 h3 (by decide)), Qdl h4 hg (Kd.R_ne h5 h4 (by decide)), hR, h6.trans (Qgu hb hwb), Nat.le_trans h7 hb.size⟩
 rw [hc]
 exact Qdl hc hg (Kd.R_ne h5 hc (by rcases ht with rfl | rfl | rfl <;> decide))
theorem SBSt.set (h : SBSt w W b g q p p2 e s n u c m2 mu mc vh hd B) (hwp : b ≤ p) (hwb : w.heap.size ≤ b) (hpp : p ≠ p2) (u' c' : Int) :
  ∃ W', W' = (((((W.setCell ⟨p, 0, none⟩ (.int .u8 e)).setCell ⟨p, 1, none⟩ (.int .u32 s)).setCell ⟨p, 2, none⟩ (.int .u64 n)).setCell ⟨p, 3, none⟩ (.int .i64 u')).setCell ⟨p, 4, none⟩ (.int .i64 c')) ∧ SBSt w W' b g q p p2 e s n u' c' m2 mu mc vh hd B ∧ ∀ k, k ≠ p → W'.heap[k]? = W.heap[k]? := by
 obtain ⟨h1, h2, h3, h4, h5, h6, h7⟩ := h
 have b1 := Qdg h3 0 (.int .u8 e)
 have b2 := Qdg b1 1 (.int .u32 s)
 have b3 := Qdg b2 2 (.int .u64 n)
 have b4 := Qdg b3 3 (.int .i64 u')
 have b5 := Qdg b4 4 (.int .i64 c')
 have far : ∀ k, k ≠ p → (((((W.setCell ⟨p, 0, none⟩ (.int .u8 e)).setCell ⟨p, 1, none⟩ (.int .u32 s)).setCell ⟨p, 2, none⟩ (.int .u64 n)).setCell ⟨p, 3, none⟩ (.int .i64 u')).setCell ⟨p, 4, none⟩ (.int .i64 c')).heap[k]? = W.heap[k]? := fun k hk => by
  rw [Below.heap_setCell _ _ _ k hk, Below.heap_setCell _ _ _ k hk, Below.heap_setCell _ _ _ k hk, Below.heap_setCell _ _ _ k hk, Below.heap_setCell _ _ _ k hk]
 refine ⟨_, rfl, ⟨IsBd.blk h1 (fun k cs t hc ht => far k (Qdm hc h3 (by rcases ht with rfl | rfl | rfl <;> decide))), (far q (Qdm h2 h3 (by decide))).trans h2, b5, (far p2 hpp.symm).trans h4, RRec.blk h5 (fun k cs hc => far k (Qdm hc h3 (by decide))), ?_, ?_⟩, far⟩
 ·have hp : w.heap.size ≤ p := Nat.le_trans hwb hwp
  exact Qgt (Qgt (Qgt (Qgt (Qgt h6 hp) hp) hp) hp) hp
 ·simpa [World.setCell] using h7
theorem SBSt.cells (h : SBSt w W b g q p p2 e s n u c m2 mu mc vh hd B) :
  (W.cell? ⟨q, 0, none⟩ = some (.int .u8 e) ∧ W.cell? ⟨q, 1, none⟩ = some (.int .u32 s)) ∧
  (W.cell? ⟨p, 0, none⟩ = some (.int .u8 e) ∧ W.cell? ⟨p, 1, none⟩ = some (.int .u32 s) ∧ W.cell? ⟨p, 2, none⟩ = some (.int .u64 n) ∧ W.cell? ⟨p, 3, none⟩ = some (.int .i64 u) ∧ W.cell? ⟨p, 4, none⟩ = some (.int .i64 c)) ∧
  (W.cell? ⟨p2, 0, none⟩ = some (.int .u8 e) ∧ W.cell? ⟨p2, 1, none⟩ = some (.int .u32 s) ∧ W.cell? ⟨p2, 2, none⟩ = some (.int .u64 m2) ∧ W.cell? ⟨p2, 3, none⟩ = some (.int .i64 mu) ∧ W.cell? ⟨p2, 4, none⟩ = some (.int .i64 mc)) := by
 obtain ⟨h1, h2, h3, h4, h5, h6, h7⟩ := h
 exact ⟨box2 h2, ⟨(Qdj h3 0).trans rfl, (Qdj h3 1).trans rfl, (Qdj h3 2).trans rfl, (Qdj h3 3).trans rfl, (Qdj h3 4).trans rfl⟩, ⟨(Qdj h4 0).trans rfl, (Qdj h4 1).trans rfl, (Qdj h4 2).trans rfl, (Qdj h4 3).trans rfl, (Qdj h4 4).trans rfl⟩⟩
end
theorem sb_good (k : Nat) (a0 e s n : Int) (A1 : Option Addr) (c1 n1 : Nat) (l1 : List Rec) (w : World) (hn1 : n1 = l1.length) (hr1 : Kd.C k39 w A1 n1 l1) (hc1 : n1 ≤ c1) (hl1 : n1 ≤ 1000000)
  (hfew : Qam.f k l1 60 5000 = some true) (hsm : Qap.f a0 = some (e, s)) (h : SBGood k e s n l1) :
  Calls Tryz.prog 3 #[.int .u8 a0, .int .u32 n, .slice A1 n1 c1] w fun ee w' => ee = .returned (.bool true) ∧ Below w.heap.size w w' := by
 obtain ⟨⟨hn0, hn2⟩, ⟨hs0, hs2⟩, hmay, B, u, c, m2, mu, mc, had, B', hnew, hem, hem2, hrun, hend⟩ := h
 have hu := Tryz.underlying27
 have hu2 := Tryz.underlying39
 have hu3 := Tryz.underlying36
 have hu4 := Tryz.underlying47
 have HN := QA hn1
 have HC := QA hr1
 have HF := QA hfew
 have HS := QA hsm
 have HM := QA hmay
 have HW := QA hnew
 have HE := QA hem
 have HE2 := QA hem2
 have HR := QA hrun
 have HD := QA hend
 have hwn : IntKind.u64.wrap n = n := IntWalk.u64_in _ (by omega)
 have hws : IntKind.u64.wrap s = s := IntWalk.u64_in _ (by omega)
 have hws1 : IntKind.u64.wrap (s - 1) = s - 1 := IntWalk.u64_in _ (by omega)
 clear hr1 hfew hsm hmay hnew hem hem2 hrun hend
 have hCF : ∀ {W : World}, Below w.heap.size w W → Kd.C k39 W A1 l1.length l1 := fun hb => by rw [← HN.out]; exact Kd.C_below HC.out hb
 have hcl : l1.length ≤ c1 := by rw [← hn1]; exact hc1
 have HCF := QA @hCF
 have HCL := QA hcl
 clear hCF hcl
 subst hn1
 go_enter Tryz.func3, Tryz.ntmps3
 go_upto_region 9 with (first
  | (go_at_call 15; refine (Qan.calls true _ rfl).mono ?_; rintro ee wa ⟨rfl, hba⟩)
  | (go_at_call 16; refine (Qam.calls k _ _ l1 60 5000 true _ (HCF.out hba) HCL.out HF.out).mono ?_; rintro ee wb ⟨rfl, hbb⟩)
  | (go_at_call 17; refine (Qap.calls a0 e s _ HS.out).mono ?_; rintro ee wc ⟨rfl, hbc⟩; have HB := QA (show Below w.heap.size w wc from (hba.trans (Qgu hbb hba.size)).trans (Qgu hbc (Nat.le_trans hba.size hbb.size))); have kc := Qdu wc (.cells #[.int .u8 e, .int .u32 s] 27))
  | (go_at_call 18; refine (new_of e s n B _ HW.out).mono ?_; rintro ee wd ⟨g, rfl, hIB, hbd, hgd⟩; have kd := Qdt kc hbd; obtain ⟨d0, d1⟩ := box2 kd)
  | (go_at_call 19; refine (Qbf.calls e s n true _ HM.out).mono ?_; rintro ee wf ⟨rfl, hbf⟩; have kf := Qdt kd hbf; obtain ⟨f0, f1⟩ := box2 kf; clear d0 d1))
 obtain ⟨b, hbdef⟩ : ∃ b, b = (wc.alloc (.cells #[.int .u8 e, .int .u32 s] 27)).heap.size := ⟨_, rfl⟩
 obtain ⟨q, hq⟩ : ∃ q, q = wc.heap.size := ⟨_, rfl⟩
 rw [← hbdef] at hIB hgd
 have hwb : w.heap.size ≤ b := by have := HB.out.size; rw [hbdef, World.size_alloc]; omega
 have hqb : q < b := by rw [hbdef, hq, World.size_alloc]; omega
 have HIB := QA (IsBd.kept hIB hbf)
 have hbf2 : b ≤ wf.heap.size := by rw [hbdef]; exact Nat.le_trans hbd.size hbf.size
 have HBf : Aside0 (Below w.heap.size w wf) := ⟨by
  have h1 := HB.out
  have h2 : Below wc.heap.size wc (wc.alloc (.cells #[.int .u8 e, .int .u32 s] 27)) := Qco (Below.refl _ _) _
  have h3 := h1.trans (Qgu h2 h1.size)
  have h4 := h3.trans (Qgu hbd h3.size)
  exact h4.trans (Qgu hbf h4.size)⟩
 have hgf : g < wf.heap.size := by
  obtain ⟨_, _, hv, _⟩ := HIB.out
  exact Qdi hv
 rw [← hq] at kf f0 f1
 rw [← hq]
 clear hIB hba hbb hbc HB kc kd hbd hbf hbdef hq
 go_cut [10, 11] from 57 (fun v10 v11 w' => ∃ p p2 : Nat, v10 = .pointer (some ⟨p, 0, none⟩) ∧ v11 = .pointer (some ⟨p2, 0, none⟩) ∧ w'.heap[p]? = some (.cells #[.int .u8 e, .int .u32 s, .int .u64 n, .int .i64 u, .int .i64 c] 36 (0, 0)) ∧ w'.heap[p2]? = some (.cells #[.int .u8 e, .int .u32 s, .int .u64 m2, .int .i64 mu, .int .i64 mc] 36 (0, 0)) ∧ p ≠ p2 ∧ wf.heap.size ≤ p ∧ wf.heap.size ≤ p2 ∧ Below wf.heap.size wf w')
 case first =>
  have hqf : q < wf.heap.size := Qdi kf
  clear HIB HC HF HS HM HW HR HD HCF
  have HR := R9.start wf
  refine Qen (n := 14) (S := fun w' => w'.cell? ⟨q, 0, none⟩ = some (.int .u8 e) ∧ w'.cell? ⟨q, 1, none⟩ = some (.int .u32 s)) (ds := []) #[false, false, false, false, false, false, false, false, false, false, false, false, false, false] qq_6 rfl rfl ⟨(Qct (Qcp (Below.refl _ _)) f0), (Qct (Qcp (Below.refl _ _)) f1)⟩ (fun hHeld => ?_)
  refine Qeo (i := 1) (N := some 58) (v := ?_) (a' := ?_) #[false, true, false, false, false, false, false, false, false, false, false, false, false, false] rfl rfl qq_6 (fun _ _ _ h => h) (Or.inl ⟨by rfl, ?_⟩) ?_ ?_
  rotate_left
  ·intro w'
   go_simp
   with_reducible rfl
  rotate_left
  ·simp only [Act.put, List.setIfInBounds_toArray, List.set_cons_zero, List.set_cons_succ, Qew, Qex]
   rfl
  refine Qeo (i := 2) (N := some 59) (v := ?_) (a' := ?_) #[false, true, true, false, false, false, false, false, false, false, false, false, false, false] rfl rfl qq_6 (fun _ _ _ h => h) (Or.inl ⟨by rfl, ?_⟩) ?_ ?_
  rotate_left
  ·intro w'
   go_simp
   with_reducible rfl
  rotate_left
  ·simp only [Act.put, List.setIfInBounds_toArray, List.set_cons_zero, List.set_cons_succ, Qew, Qex]
   rfl
  refine Qeo (i := 5) (N := some 62) (v := ?_) (a' := ?_) #[false, true, true, false, false, true, false, false, false, false, false, false, false, false] rfl rfl qq_6 (fun _ _ _ h => h) (Or.inl ⟨by rfl, ?_⟩) ?_ ?_
  rotate_left
  ·intro w'
   go_simp
   with_reducible rfl
  rotate_left
  ·simp only [Act.put, List.setIfInBounds_toArray, List.set_cons_zero, List.set_cons_succ, Qew, Qex]
   rfl
  refine take_ (i := 0) (N := some 57) (v := ?_) (a' := ?_) #[true, true, true, false, false, true, false, false, false, false, false, false, false, false] rfl rfl qq_6 (fun _ _ _ h => h) (Or.inl ⟨by rfl, ?_⟩) hHeld ?_ ?_
  rotate_left
  ·rintro w' ⟨s0, s1⟩
   go_simp
   with_reducible rfl
  rotate_left
  ·simp only [Act.put, List.setIfInBounds_toArray, List.set_cons_zero, List.set_cons_succ, Qew, Qex]
   rfl
  refine take_ (i := 4) (N := some 61) (v := ?_) (a' := ?_) #[true, true, true, false, true, true, false, false, false, false, false, false, false, false] rfl rfl qq_6 (fun _ _ _ h => h) (Or.inl ⟨by rfl, ?_⟩) hHeld ?_ ?_
  rotate_left
  ·rintro w' ⟨s0, s1⟩
   go_simp
   with_reducible rfl
  rotate_left
  ·simp only [Act.put, List.setIfInBounds_toArray, List.set_cons_zero, List.set_cons_succ, Qew, Qex]
   rfl
  refine take_ (i := 6) (N := some 63) (v := ?_) (a' := ?_) #[true, true, true, false, true, true, true, false, false, false, false, false, false, false] rfl rfl qq_6 (fun _ _ _ h => h) (Or.inl ⟨by rfl, ?_⟩) hHeld ?_ ?_
  rotate_left
  ·rintro w' ⟨s0, s1⟩
   go_simp
   with_reducible rfl
  rotate_left
  ·simp only [Act.put, List.setIfInBounds_toArray, List.set_cons_zero, List.set_cons_succ, Qew, Qex]
   rfl
  refine Qeo (i := 7) (N := some 64) (v := ?_) (a' := ?_) #[true, true, true, false, true, true, true, true, false, false, false, false, false, false] rfl rfl qq_6 (fun _ _ _ h => h) (Or.inl ⟨by rfl, ?_⟩) ?_ ?_
  rotate_left
  ·intro w'
   go_simp
   with_reducible rfl
  rotate_left
  ·simp only [Act.put, List.setIfInBounds_toArray, List.set_cons_zero, List.set_cons_succ, Qew, Qex]
   rfl
  refine Qeo (i := 8) (N := some 65) (v := ?_) (a' := ?_) #[true, true, true, false, true, true, true, true, true, false, false, false, false, false] rfl rfl qq_6 (fun _ _ _ h => h) (Or.inl ⟨by rfl, ?_⟩) ?_ ?_
  rotate_left
  ·intro w'
   go_simp
   with_reducible rfl
  rotate_left
  ·simp only [Act.put, List.setIfInBounds_toArray, List.set_cons_zero, List.set_cons_succ, Qew, Qex]
   rfl
  refine Qer (σ := Nat × Nat) 2 #[true, true, true, true, true, true, true, true, true, true, true, true, false, false] (fun s_ => [(60, .agg #[.int .u8 e, .int .u32 s, .int .u64 n, .int .i64 u, .int .i64 c]), (66, .agg #[.int .u8 e, .int .u32 s, .int .u64 m2, .int .i64 mu, .int .i64 mc]), (10, .pointer (some ⟨s_.1, 0, none⟩)), (11, .pointer (some ⟨s_.2, 0, none⟩))]) (fun s_ w' => (w'.cell? ⟨q, 0, none⟩ = some (.int .u8 e) ∧ w'.cell? ⟨q, 1, none⟩ = some (.int .u32 s)) ∧ R9 wf w' true true s_) ?_ ?_
  rotate_left
  ·intro hJ3_9_10_11
   refine Qer (σ := Nat × Nat) 3 #[true, true, true, true, true, true, true, true, true, true, true, false, false, false] (fun s_ => [(60, .agg #[.int .u8 e, .int .u32 s, .int .u64 n, .int .i64 u, .int .i64 c]), (66, .agg #[.int .u8 e, .int .u32 s, .int .u64 m2, .int .i64 mu, .int .i64 mc]), (10, .pointer (some ⟨s_.1, 0, none⟩))]) (fun s_ w' => (w'.cell? ⟨q, 0, none⟩ = some (.int .u8 e) ∧ w'.cell? ⟨q, 1, none⟩ = some (.int .u32 s)) ∧ R9 wf w' true false s_) ?_ ?_
   rotate_left
   ·intro hJ3_9_10
    refine Qer (σ := Nat × Nat) 3 #[true, true, true, true, true, true, true, true, true, true, false, true, false, false] (fun s_ => [(60, .agg #[.int .u8 e, .int .u32 s, .int .u64 n, .int .i64 u, .int .i64 c]), (66, .agg #[.int .u8 e, .int .u32 s, .int .u64 m2, .int .i64 mu, .int .i64 mc]), (11, .pointer (some ⟨s_.2, 0, none⟩))]) (fun s_ w' => (w'.cell? ⟨q, 0, none⟩ = some (.int .u8 e) ∧ w'.cell? ⟨q, 1, none⟩ = some (.int .u32 s)) ∧ R9 wf w' false true s_) ?_ ?_
    rotate_left
    ·intro hJ3_9_11
     refine Qer (σ := Nat × Nat) 3 #[true, true, true, true, true, true, true, true, true, false, true, true, false, false] (fun s_ => [(60, .agg #[.int .u8 e, .int .u32 s, .int .u64 n, .int .i64 u, .int .i64 c]), (10, .pointer (some ⟨s_.1, 0, none⟩)), (11, .pointer (some ⟨s_.2, 0, none⟩))]) (fun s_ w' => (w'.cell? ⟨q, 0, none⟩ = some (.int .u8 e) ∧ w'.cell? ⟨q, 1, none⟩ = some (.int .u32 s)) ∧ R9 wf w' true true s_) ?_ ?_
     rotate_left
     ·intro hJ3_10_11
      refine Qer (σ := Nat × Nat) 4 #[true, true, true, true, true, true, true, true, true, true, false, false, false, false] (fun s_ => [(60, .agg #[.int .u8 e, .int .u32 s, .int .u64 n, .int .i64 u, .int .i64 c]), (66, .agg #[.int .u8 e, .int .u32 s, .int .u64 m2, .int .i64 mu, .int .i64 mc])]) (fun s_ w' => (w'.cell? ⟨q, 0, none⟩ = some (.int .u8 e) ∧ w'.cell? ⟨q, 1, none⟩ = some (.int .u32 s)) ∧ R9 wf w' false false s_) ?_ ?_
      rotate_left
      ·intro hJ3_9
       refine Qer (σ := Nat × Nat) 4 #[true, true, true, true, true, true, true, true, true, false, true, false, false, false] (fun s_ => [(60, .agg #[.int .u8 e, .int .u32 s, .int .u64 n, .int .i64 u, .int .i64 c]), (10, .pointer (some ⟨s_.1, 0, none⟩))]) (fun s_ w' => (w'.cell? ⟨q, 0, none⟩ = some (.int .u8 e) ∧ w'.cell? ⟨q, 1, none⟩ = some (.int .u32 s)) ∧ R9 wf w' true false s_) ?_ ?_
       rotate_left
       ·intro hJ3_10
        refine Qer (σ := Nat × Nat) 4 #[true, true, true, true, true, true, true, true, true, false, false, true, false, false] (fun s_ => [(60, .agg #[.int .u8 e, .int .u32 s, .int .u64 n, .int .i64 u, .int .i64 c]), (11, .pointer (some ⟨s_.2, 0, none⟩))]) (fun s_ w' => (w'.cell? ⟨q, 0, none⟩ = some (.int .u8 e) ∧ w'.cell? ⟨q, 1, none⟩ = some (.int .u32 s)) ∧ R9 wf w' false true s_) ?_ ?_
        rotate_left
        ·intro hJ3_11
         refine Qer (σ := Nat × Nat) 4 #[true, true, true, false, true, true, true, true, true, false, true, true, false, false] (fun s_ => [(10, .pointer (some ⟨s_.1, 0, none⟩)), (11, .pointer (some ⟨s_.2, 0, none⟩))]) (fun s_ w' => (w'.cell? ⟨q, 0, none⟩ = some (.int .u8 e) ∧ w'.cell? ⟨q, 1, none⟩ = some (.int .u32 s)) ∧ R9 wf w' true true s_) ?_ ?_
         rotate_left
         ·intro hJ10_11
          refine Qer (σ := Nat × Nat) 5 #[true, true, true, true, true, true, true, true, true, false, false, false, false, false] (fun s_ => [(60, .agg #[.int .u8 e, .int .u32 s, .int .u64 n, .int .i64 u, .int .i64 c])]) (fun s_ w' => (w'.cell? ⟨q, 0, none⟩ = some (.int .u8 e) ∧ w'.cell? ⟨q, 1, none⟩ = some (.int .u32 s)) ∧ R9 wf w' false false s_) ?_ ?_
          rotate_left
          ·intro hJ3
           refine Qer (σ := Nat × Nat) 5 #[true, true, true, false, true, true, true, true, true, false, true, false, false, false] (fun s_ => [(10, .pointer (some ⟨s_.1, 0, none⟩))]) (fun s_ w' => (w'.cell? ⟨q, 0, none⟩ = some (.int .u8 e) ∧ w'.cell? ⟨q, 1, none⟩ = some (.int .u32 s)) ∧ R9 wf w' true false s_) ?_ ?_
           rotate_left
           ·intro hJ10
            refine Qer (σ := Nat × Nat) 5 #[true, true, true, false, true, true, true, true, true, false, false, true, false, false] (fun s_ => [(11, .pointer (some ⟨s_.2, 0, none⟩))]) (fun s_ w' => (w'.cell? ⟨q, 0, none⟩ = some (.int .u8 e) ∧ w'.cell? ⟨q, 1, none⟩ = some (.int .u32 s)) ∧ R9 wf w' false true s_) ?_ ?_
            rotate_left
            ·intro hJ11
             refine three_ (i := 3) (j := 10) (k := 11) (Ni := some 60) (Nj := some 10) (Nk := some 11) #[true, true, true, true, true, true, true, true, true, false, false, false, false, false] #[true, true, true, false, true, true, true, true, true, false, true, false, false, false] #[true, true, true, false, true, true, true, true, true, false, false, true, false, false] rfl rfl rfl rfl rfl rfl qq_6 (by decide) (by decide) (by decide) (fun K hK => ?_) (fun K hK => ?_) (fun K hK => ?_)
             ·skip
              refine Qet Tryz.func20 qq_6 rfl #[.agg #[.int .u8 e, .int .u32 s], .int .u64 n] (by rfl) rfl rfl qq_11 ?_
              with_reducible refine (Qbq.calls k e s n e s n u c _ HE.out).mono ?_
              rintro ee wn_ ⟨rfl, hb_⟩
              refine ⟨_, rfl, ?_⟩
              refine hK.out _ _ ⟨(Qct hb_ hHeld.1), (Qct hb_ hHeld.2)⟩ (fun hHeld => ?_)
              clear hK K
              refine Qes (a' := ?_) ?_ ?_
              rotate_left
              ·show Act.put _ (some 60) _ = _
               simp only [Act.put, List.setIfInBounds_toArray, List.set_cons_zero, List.set_cons_succ, Qew, Qex]
               rfl
              exact Qes qq_3 (hJ3 (0, 0) _ ⟨hHeld, HR.below hb_⟩)
             ·skip
              refine Qev (w1 := ?_) (v := ?_) (by rfl) rfl ?_ ?_
              rotate_left 2
              ·go_simp
               constructor
               ·rfl
               ·rfl
              refine hK.out _ _ ⟨(Qct (Qco (Below.refl _ _) _) hHeld.1), (Qct (Qco (Below.refl _ _) _) hHeld.2)⟩ (fun hHeld => ?_)
              clear hK K
              refine Qes (a' := ?_) ?_ ?_
              rotate_left
              ·show Act.put _ (some 10) _ = _
               simp only [Act.put, List.setIfInBounds_toArray, List.set_cons_zero, List.set_cons_succ, Qew, Qex]
               rfl
              exact Qes qq_3 (hJ10 (_, 0) _ ⟨hHeld, HR.one⟩)
             ·skip
              refine Qev (w1 := ?_) (v := ?_) (by rfl) rfl ?_ ?_
              rotate_left 2
              ·go_simp
               constructor
               ·rfl
               ·rfl
              refine hK.out _ _ ⟨(Qct (Qco (Below.refl _ _) _) hHeld.1), (Qct (Qco (Below.refl _ _) _) hHeld.2)⟩ (fun hHeld => ?_)
              clear hK K
              refine Qes (a' := ?_) ?_ ?_
              rotate_left
              ·show Act.put _ (some 11) _ = _
               simp only [Act.put, List.setIfInBounds_toArray, List.set_cons_zero, List.set_cons_succ, Qew, Qex]
               rfl
              exact Qes qq_3 (hJ11 (0, _) _ ⟨hHeld, HR.two⟩)
            ·skip
             rintro ⟨p_, p2_⟩ w11_ ⟨hS_, HR_⟩
             clear hHeld HR
             have hHeld := hS_
             have HR := HR_
             clear hS_ HR_
             refine Qes (a' := ?_) ?_ ?_
             rotate_left
             ·simp only [Qeq, Act.put, List.setIfInBounds_toArray, List.set_cons_zero, List.set_cons_succ]
              rfl
             refine two_ (i := 3) (j := 10) (Ni := some 60) (Nj := some 10) #[true, true, true, true, true, true, true, true, true, false, false, true, false, false] #[true, true, true, false, true, true, true, true, true, false, true, true, false, false] rfl rfl rfl rfl qq_6 (by decide) (by decide) (fun K hK => ?_) (fun K hK => ?_)
             ·skip
              refine Qet Tryz.func20 qq_6 rfl #[.agg #[.int .u8 e, .int .u32 s], .int .u64 n] (by rfl) rfl rfl qq_11 ?_
              with_reducible refine (Qbq.calls k e s n e s n u c _ HE.out).mono ?_
              rintro ee wn_ ⟨rfl, hb_⟩
              refine ⟨_, rfl, ?_⟩
              refine hK.out _ _ ⟨(Qct hb_ hHeld.1), (Qct hb_ hHeld.2)⟩ (fun hHeld => ?_)
              clear hK K
              refine Qes (a' := ?_) ?_ ?_
              rotate_left
              ·show Act.put _ (some 60) _ = _
               simp only [Act.put, List.setIfInBounds_toArray, List.set_cons_zero, List.set_cons_succ, Qew, Qex]
               rfl
              exact Qes qq_3 (hJ3_11 (p_, p2_) _ ⟨hHeld, HR.below hb_⟩)
             ·skip
              refine Qev (w1 := ?_) (v := ?_) (by rfl) rfl ?_ ?_
              rotate_left 2
              ·go_simp
               constructor
               ·rfl
               ·rfl
              refine hK.out _ _ ⟨(Qct (Qco (Below.refl _ _) _) hHeld.1), (Qct (Qco (Below.refl _ _) _) hHeld.2)⟩ (fun hHeld => ?_)
              clear hK K
              refine Qes (a' := ?_) ?_ ?_
              rotate_left
              ·show Act.put _ (some 10) _ = _
               simp only [Act.put, List.setIfInBounds_toArray, List.set_cons_zero, List.set_cons_succ, Qew, Qex]
               rfl
              exact Qes qq_3 (hJ10_11 (_, p2_) _ ⟨hHeld, HR.one⟩)
           ·skip
            rintro ⟨p_, p2_⟩ w10_ ⟨hS_, HR_⟩
            clear hHeld HR
            have hHeld := hS_
            have HR := HR_
            clear hS_ HR_
            refine Qes (a' := ?_) ?_ ?_
            rotate_left
            ·simp only [Qeq, Act.put, List.setIfInBounds_toArray, List.set_cons_zero, List.set_cons_succ]
             rfl
            refine two_ (i := 3) (j := 11) (Ni := some 60) (Nj := some 11) #[true, true, true, true, true, true, true, true, true, false, true, false, false, false] #[true, true, true, false, true, true, true, true, true, false, true, true, false, false] rfl rfl rfl rfl qq_6 (by decide) (by decide) (fun K hK => ?_) (fun K hK => ?_)
            ·skip
             refine Qet Tryz.func20 qq_6 rfl #[.agg #[.int .u8 e, .int .u32 s], .int .u64 n] (by rfl) rfl rfl qq_11 ?_
             with_reducible refine (Qbq.calls k e s n e s n u c _ HE.out).mono ?_
             rintro ee wn_ ⟨rfl, hb_⟩
             refine ⟨_, rfl, ?_⟩
             refine hK.out _ _ ⟨(Qct hb_ hHeld.1), (Qct hb_ hHeld.2)⟩ (fun hHeld => ?_)
             clear hK K
             refine Qes (a' := ?_) ?_ ?_
             rotate_left
             ·show Act.put _ (some 60) _ = _
              simp only [Act.put, List.setIfInBounds_toArray, List.set_cons_zero, List.set_cons_succ, Qew, Qex]
              rfl
             exact Qes qq_3 (hJ3_10 (p_, p2_) _ ⟨hHeld, HR.below hb_⟩)
            ·skip
             refine Qev (w1 := ?_) (v := ?_) (by rfl) rfl ?_ ?_
             rotate_left 2
             ·go_simp
              constructor
              ·rfl
              ·rfl
             refine hK.out _ _ ⟨(Qct (Qco (Below.refl _ _) _) hHeld.1), (Qct (Qco (Below.refl _ _) _) hHeld.2)⟩ (fun hHeld => ?_)
             clear hK K
             refine Qes (a' := ?_) ?_ ?_
             rotate_left
             ·show Act.put _ (some 11) _ = _
              simp only [Act.put, List.setIfInBounds_toArray, List.set_cons_zero, List.set_cons_succ, Qew, Qex]
              rfl
             exact Qes qq_3 (hJ10_11 (p_, _) _ ⟨hHeld, HR.two⟩)
          ·skip
           rintro ⟨p_, p2_⟩ w3_ ⟨hS_, HR_⟩
           clear hHeld HR
           have hHeld := hS_
           have HR := HR_
           clear hS_ HR_
           refine Qes (a' := ?_) ?_ ?_
           rotate_left
           ·simp only [Qeq, Act.put, List.setIfInBounds_toArray, List.set_cons_zero, List.set_cons_succ]
            rfl
           refine three_ (i := 9) (j := 10) (k := 11) (Ni := some 66) (Nj := some 10) (Nk := some 11) #[true, true, true, true, true, true, true, true, true, true, false, false, false, false] #[true, true, true, true, true, true, true, true, true, false, true, false, false, false] #[true, true, true, true, true, true, true, true, true, false, false, true, false, false] rfl rfl rfl rfl rfl rfl qq_6 (by decide) (by decide) (by decide) (fun K hK => ?_) (fun K hK => ?_) (fun K hK => ?_)
           ·skip
            refine Qet Tryz.func20 qq_6 rfl #[.agg #[.int .u8 e, .int .u32 s], .int .u64 (s - 1)] (by rfl) rfl rfl qq_11 ?_
            with_reducible refine (Qbq.calls k e s (s - 1) e s m2 mu mc _ HE2.out).mono ?_
            rintro ee wn_ ⟨rfl, hb_⟩
            refine ⟨_, rfl, ?_⟩
            refine hK.out _ _ ⟨(Qct hb_ hHeld.1), (Qct hb_ hHeld.2)⟩ (fun hHeld => ?_)
            clear hK K
            refine Qes (a' := ?_) ?_ ?_
            rotate_left
            ·show Act.put _ (some 66) _ = _
             simp only [Act.put, List.setIfInBounds_toArray, List.set_cons_zero, List.set_cons_succ, Qew, Qex]
             rfl
            exact Qes qq_3 (hJ3_9 (p_, p2_) _ ⟨hHeld, HR.below hb_⟩)
           ·skip
            refine Qev (w1 := ?_) (v := ?_) (by rfl) rfl ?_ ?_
            rotate_left 2
            ·go_simp
             constructor
             ·rfl
             ·rfl
            refine hK.out _ _ ⟨(Qct (Qco (Below.refl _ _) _) hHeld.1), (Qct (Qco (Below.refl _ _) _) hHeld.2)⟩ (fun hHeld => ?_)
            clear hK K
            refine Qes (a' := ?_) ?_ ?_
            rotate_left
            ·show Act.put _ (some 10) _ = _
             simp only [Act.put, List.setIfInBounds_toArray, List.set_cons_zero, List.set_cons_succ, Qew, Qex]
             rfl
            exact Qes qq_3 (hJ3_10 (_, p2_) _ ⟨hHeld, HR.one⟩)
           ·skip
            refine Qev (w1 := ?_) (v := ?_) (by rfl) rfl ?_ ?_
            rotate_left 2
            ·go_simp
             constructor
             ·rfl
             ·rfl
            refine hK.out _ _ ⟨(Qct (Qco (Below.refl _ _) _) hHeld.1), (Qct (Qco (Below.refl _ _) _) hHeld.2)⟩ (fun hHeld => ?_)
            clear hK K
            refine Qes (a' := ?_) ?_ ?_
            rotate_left
            ·show Act.put _ (some 11) _ = _
             simp only [Act.put, List.setIfInBounds_toArray, List.set_cons_zero, List.set_cons_succ, Qew, Qex]
             rfl
            exact Qes qq_3 (hJ3_11 (p_, _) _ ⟨hHeld, HR.two⟩)
         ·skip
          rintro ⟨p_, p2_⟩ w1011_ ⟨hS_, HR_⟩
          clear hHeld HR
          have hHeld := hS_
          have HR := HR_
          clear hS_ HR_
          refine Qes (a' := ?_) ?_ ?_
          rotate_left
          ·simp only [Qeq, Act.put, List.setIfInBounds_toArray, List.set_cons_zero, List.set_cons_succ]
           rfl
          refine one_ (i := 3) (N := some 60) #[true, true, true, true, true, true, true, true, true, false, true, true, false, false] rfl rfl qq_6 (by decide) (fun K hK => ?_)
          refine Qet Tryz.func20 qq_6 rfl #[.agg #[.int .u8 e, .int .u32 s], .int .u64 n] (by rfl) rfl rfl qq_11 ?_
          with_reducible refine (Qbq.calls k e s n e s n u c _ HE.out).mono ?_
          rintro ee wn_ ⟨rfl, hb_⟩
          refine ⟨_, rfl, ?_⟩
          refine hK.out _ _ ⟨(Qct hb_ hHeld.1), (Qct hb_ hHeld.2)⟩ (fun hHeld => ?_)
          clear hK K
          refine Qes (a' := ?_) ?_ ?_
          rotate_left
          ·show Act.put _ (some 60) _ = _
           simp only [Act.put, List.setIfInBounds_toArray, List.set_cons_zero, List.set_cons_succ, Qew, Qex]
           rfl
          exact Qes qq_3 (hJ3_10_11 (p_, p2_) _ ⟨hHeld, HR.below hb_⟩)
        ·skip
         rintro ⟨p_, p2_⟩ w311_ ⟨hS_, HR_⟩
         clear hHeld HR
         have hHeld := hS_
         have HR := HR_
         clear hS_ HR_
         refine Qes (a' := ?_) ?_ ?_
         rotate_left
         ·simp only [Qeq, Act.put, List.setIfInBounds_toArray, List.set_cons_zero, List.set_cons_succ]
          rfl
         refine two_ (i := 9) (j := 10) (Ni := some 66) (Nj := some 10) #[true, true, true, true, true, true, true, true, true, true, false, true, false, false] #[true, true, true, true, true, true, true, true, true, false, true, true, false, false] rfl rfl rfl rfl qq_6 (by decide) (by decide) (fun K hK => ?_) (fun K hK => ?_)
         ·skip
          refine Qet Tryz.func20 qq_6 rfl #[.agg #[.int .u8 e, .int .u32 s], .int .u64 (s - 1)] (by rfl) rfl rfl qq_11 ?_
          with_reducible refine (Qbq.calls k e s (s - 1) e s m2 mu mc _ HE2.out).mono ?_
          rintro ee wn_ ⟨rfl, hb_⟩
          refine ⟨_, rfl, ?_⟩
          refine hK.out _ _ ⟨(Qct hb_ hHeld.1), (Qct hb_ hHeld.2)⟩ (fun hHeld => ?_)
          clear hK K
          refine Qes (a' := ?_) ?_ ?_
          rotate_left
          ·show Act.put _ (some 66) _ = _
           simp only [Act.put, List.setIfInBounds_toArray, List.set_cons_zero, List.set_cons_succ, Qew, Qex]
           rfl
          exact Qes qq_3 (hJ3_9_11 (p_, p2_) _ ⟨hHeld, HR.below hb_⟩)
         ·skip
          refine Qev (w1 := ?_) (v := ?_) (by rfl) rfl ?_ ?_
          rotate_left 2
          ·go_simp
           constructor
           ·rfl
           ·rfl
          refine hK.out _ _ ⟨(Qct (Qco (Below.refl _ _) _) hHeld.1), (Qct (Qco (Below.refl _ _) _) hHeld.2)⟩ (fun hHeld => ?_)
          clear hK K
          refine Qes (a' := ?_) ?_ ?_
          rotate_left
          ·show Act.put _ (some 10) _ = _
           simp only [Act.put, List.setIfInBounds_toArray, List.set_cons_zero, List.set_cons_succ, Qew, Qex]
           rfl
          exact Qes qq_3 (hJ3_10_11 (_, p2_) _ ⟨hHeld, HR.one⟩)
       ·skip
        rintro ⟨p_, p2_⟩ w310_ ⟨hS_, HR_⟩
        clear hHeld HR
        have hHeld := hS_
        have HR := HR_
        clear hS_ HR_
        refine Qes (a' := ?_) ?_ ?_
        rotate_left
        ·simp only [Qeq, Act.put, List.setIfInBounds_toArray, List.set_cons_zero, List.set_cons_succ]
         rfl
        refine two_ (i := 9) (j := 11) (Ni := some 66) (Nj := some 11) #[true, true, true, true, true, true, true, true, true, true, true, false, false, false] #[true, true, true, true, true, true, true, true, true, false, true, true, false, false] rfl rfl rfl rfl qq_6 (by decide) (by decide) (fun K hK => ?_) (fun K hK => ?_)
        ·skip
         refine Qet Tryz.func20 qq_6 rfl #[.agg #[.int .u8 e, .int .u32 s], .int .u64 (s - 1)] (by rfl) rfl rfl qq_11 ?_
         with_reducible refine (Qbq.calls k e s (s - 1) e s m2 mu mc _ HE2.out).mono ?_
         rintro ee wn_ ⟨rfl, hb_⟩
         refine ⟨_, rfl, ?_⟩
         refine hK.out _ _ ⟨(Qct hb_ hHeld.1), (Qct hb_ hHeld.2)⟩ (fun hHeld => ?_)
         clear hK K
         refine Qes (a' := ?_) ?_ ?_
         rotate_left
         ·show Act.put _ (some 66) _ = _
          simp only [Act.put, List.setIfInBounds_toArray, List.set_cons_zero, List.set_cons_succ, Qew, Qex]
          rfl
         exact Qes qq_3 (hJ3_9_10 (p_, p2_) _ ⟨hHeld, HR.below hb_⟩)
        ·skip
         refine Qev (w1 := ?_) (v := ?_) (by rfl) rfl ?_ ?_
         rotate_left 2
         ·go_simp
          constructor
          ·rfl
          ·rfl
         refine hK.out _ _ ⟨(Qct (Qco (Below.refl _ _) _) hHeld.1), (Qct (Qco (Below.refl _ _) _) hHeld.2)⟩ (fun hHeld => ?_)
         clear hK K
         refine Qes (a' := ?_) ?_ ?_
         rotate_left
         ·show Act.put _ (some 11) _ = _
          simp only [Act.put, List.setIfInBounds_toArray, List.set_cons_zero, List.set_cons_succ, Qew, Qex]
          rfl
         exact Qes qq_3 (hJ3_10_11 (p_, _) _ ⟨hHeld, HR.two⟩)
      ·skip
       rintro ⟨p_, p2_⟩ w39_ ⟨hS_, HR_⟩
       clear hHeld HR
       have hHeld := hS_
       have HR := HR_
       clear hS_ HR_
       refine Qes (a' := ?_) ?_ ?_
       rotate_left
       ·simp only [Qeq, Act.put, List.setIfInBounds_toArray, List.set_cons_zero, List.set_cons_succ]
        rfl
       refine two_ (i := 10) (j := 11) (Ni := some 10) (Nj := some 11) #[true, true, true, true, true, true, true, true, true, true, true, false, false, false] #[true, true, true, true, true, true, true, true, true, true, false, true, false, false] rfl rfl rfl rfl qq_6 (by decide) (by decide) (fun K hK => ?_) (fun K hK => ?_)
       ·skip
        refine Qev (w1 := ?_) (v := ?_) (by rfl) rfl ?_ ?_
        rotate_left 2
        ·go_simp
         constructor
         ·rfl
         ·rfl
        refine hK.out _ _ ⟨(Qct (Qco (Below.refl _ _) _) hHeld.1), (Qct (Qco (Below.refl _ _) _) hHeld.2)⟩ (fun hHeld => ?_)
        clear hK K
        refine Qes (a' := ?_) ?_ ?_
        rotate_left
        ·show Act.put _ (some 10) _ = _
         simp only [Act.put, List.setIfInBounds_toArray, List.set_cons_zero, List.set_cons_succ, Qew, Qex]
         rfl
        exact Qes qq_3 (hJ3_9_10 (_, p2_) _ ⟨hHeld, HR.one⟩)
       ·skip
        refine Qev (w1 := ?_) (v := ?_) (by rfl) rfl ?_ ?_
        rotate_left 2
        ·go_simp
         constructor
         ·rfl
         ·rfl
        refine hK.out _ _ ⟨(Qct (Qco (Below.refl _ _) _) hHeld.1), (Qct (Qco (Below.refl _ _) _) hHeld.2)⟩ (fun hHeld => ?_)
        clear hK K
        refine Qes (a' := ?_) ?_ ?_
        rotate_left
        ·show Act.put _ (some 11) _ = _
         simp only [Act.put, List.setIfInBounds_toArray, List.set_cons_zero, List.set_cons_succ, Qew, Qex]
         rfl
        exact Qes qq_3 (hJ3_9_11 (p_, _) _ ⟨hHeld, HR.two⟩)
     ·skip
      rintro ⟨p_, p2_⟩ w31011_ ⟨hS_, HR_⟩
      clear hHeld HR
      have hHeld := hS_
      have HR := HR_
      clear hS_ HR_
      refine Qes (a' := ?_) ?_ ?_
      rotate_left
      ·simp only [Qeq, Act.put, List.setIfInBounds_toArray, List.set_cons_zero, List.set_cons_succ]
       rfl
      refine one_ (i := 9) (N := some 66) #[true, true, true, true, true, true, true, true, true, true, true, true, false, false] rfl rfl qq_6 (by decide) (fun K hK => ?_)
      refine Qet Tryz.func20 qq_6 rfl #[.agg #[.int .u8 e, .int .u32 s], .int .u64 (s - 1)] (by rfl) rfl rfl qq_11 ?_
      with_reducible refine (Qbq.calls k e s (s - 1) e s m2 mu mc _ HE2.out).mono ?_
      rintro ee wn_ ⟨rfl, hb_⟩
      refine ⟨_, rfl, ?_⟩
      refine hK.out _ _ ⟨(Qct hb_ hHeld.1), (Qct hb_ hHeld.2)⟩ (fun hHeld => ?_)
      clear hK K
      refine Qes (a' := ?_) ?_ ?_
      rotate_left
      ·show Act.put _ (some 66) _ = _
       simp only [Act.put, List.setIfInBounds_toArray, List.set_cons_zero, List.set_cons_succ, Qew, Qex]
       rfl
      exact Qes qq_3 (hJ3_9_10_11 (p_, p2_) _ ⟨hHeld, HR.below hb_⟩)
    ·skip
     rintro ⟨p_, p2_⟩ w3911_ ⟨hS_, HR_⟩
     clear hHeld HR
     have hHeld := hS_
     have HR := HR_
     clear hS_ HR_
     refine Qes (a' := ?_) ?_ ?_
     rotate_left
     ·simp only [Qeq, Act.put, List.setIfInBounds_toArray, List.set_cons_zero, List.set_cons_succ]
      rfl
     refine one_ (i := 10) (N := some 10) #[true, true, true, true, true, true, true, true, true, true, true, true, false, false] rfl rfl qq_6 (by decide) (fun K hK => ?_)
     refine Qev (w1 := ?_) (v := ?_) (by rfl) rfl ?_ ?_
     rotate_left 2
     ·go_simp
      constructor
      ·rfl
      ·rfl
     refine hK.out _ _ ⟨(Qct (Qco (Below.refl _ _) _) hHeld.1), (Qct (Qco (Below.refl _ _) _) hHeld.2)⟩ (fun hHeld => ?_)
     clear hK K
     refine Qes (a' := ?_) ?_ ?_
     rotate_left
     ·show Act.put _ (some 10) _ = _
      simp only [Act.put, List.setIfInBounds_toArray, List.set_cons_zero, List.set_cons_succ, Qew, Qex]
      rfl
     exact Qes qq_3 (hJ3_9_10_11 (_, p2_) _ ⟨hHeld, HR.one⟩)
   ·skip
    rintro ⟨p_, p2_⟩ w3910_ ⟨hS_, HR_⟩
    clear hHeld HR
    have hHeld := hS_
    have HR := HR_
    clear hS_ HR_
    refine Qes (a' := ?_) ?_ ?_
    rotate_left
    ·simp only [Qeq, Act.put, List.setIfInBounds_toArray, List.set_cons_zero, List.set_cons_succ]
     rfl
    refine one_ (i := 11) (N := some 11) #[true, true, true, true, true, true, true, true, true, true, true, true, false, false] rfl rfl qq_6 (by decide) (fun K hK => ?_)
    refine Qev (w1 := ?_) (v := ?_) (by rfl) rfl ?_ ?_
    rotate_left 2
    ·go_simp
     constructor
     ·rfl
     ·rfl
    refine hK.out _ _ ⟨(Qct (Qco (Below.refl _ _) _) hHeld.1), (Qct (Qco (Below.refl _ _) _) hHeld.2)⟩ (fun hHeld => ?_)
    clear hK K
    refine Qes (a' := ?_) ?_ ?_
    rotate_left
    ·show Act.put _ (some 11) _ = _
     simp only [Act.put, List.setIfInBounds_toArray, List.set_cons_zero, List.set_cons_succ, Qew, Qex]
     rfl
    exact Qes qq_3 (hJ3_9_10_11 (p_, _) _ ⟨hHeld, HR.two⟩)
  rintro ⟨p, p2⟩ w9_ ⟨hHeld, HR_⟩
  obtain ⟨hB9, ⟨b1, hp⟩, ⟨b2, hp2⟩, hpp⟩ := HR_.all
  clear HR_
  obtain ⟨z0, z1, z2, z3, z4, z5, z6, z7, z8, z9⟩ := z36 b1
  refine Qes (a' := ?_) ?_ ?_
  rotate_left
  ·simp only [Qeq, Act.put, List.setIfInBounds_toArray, List.set_cons_zero, List.set_cons_succ]
   rfl
  refine one_ (i := 12) (N := none) #[true, true, true, true, true, true, true, true, true, true, true, true, true, false] rfl rfl qq_6 (by decide) (fun K hK => ?_)
  refine skip_ (w1 := ?_) (by rfl) rfl ?_ ?_
  rotate_left
  ·go_simp
   rfl
  obtain ⟨W10, hW10, e1, efar, hB10⟩ := set36 b1 hp hB9 (.int .u8 e) (.int .u32 s) (.int .u64 n) (.int .i64 u) (.int .i64 c)
  rw [← hW10]
  clear hW10 z0 z1 z2 z3 z4 z5 z6 z7 z8 z9
  have b2 := (efar p2 hpp.symm).trans b2
  obtain ⟨z0, z1, z2, z3, z4, z5, z6, z7, z8, z9⟩ := z36 b2
  have hqp : q ≠ p := by omega
  have hqp2 : q ≠ p2 := by omega
  refine hK.out _ _ ⟨((Qji (efar q hqp) 0).trans hHeld.1), ((Qji (efar q hqp) 1).trans hHeld.2)⟩ (fun hHeld => ?_)
  clear hK K
  refine one_ (i := 13) (N := none) #[true, true, true, true, true, true, true, true, true, true, true, true, true, true] rfl rfl qq_6 (by decide) (fun K hK => ?_)
  refine skip_ (w1 := ?_) (by rfl) rfl ?_ ?_
  rotate_left
  ·go_simp
   rfl
  obtain ⟨W11, hW11, e2, efar2, hB11⟩ := set36 b2 hp2 hB10 (.int .u8 e) (.int .u32 s) (.int .u64 m2) (.int .i64 mu) (.int .i64 mc)
  rw [← hW11]
  clear hW11
  have e1 := (efar2 p hpp).trans e1
  refine hK.out _ _ ⟨((Qji (efar2 q hqp2) 0).trans hHeld.1), ((Qji (efar2 q hqp2) 1).trans hHeld.2)⟩ (fun hHeld => ?_)
  clear hK K
  refine Qep qq_6 ?_
  go_wp2
  go_meet
  case rel => exact ⟨p, p2, rfl, rfl, e1, e2, hpp, hp, hp2, hB11⟩
 case rest =>
  obtain ⟨p, p2, hv10, hv11, hk10, hk11, hpp, hwp, hwp2, hbc2⟩ := hcut
  subst hv10 hv11
  have HST := QA (show SBSt w wc b g q p p2 e s n u c m2 mu mc (.slice none 0 0) [] B from ⟨IsBd.kept HIB.out hbc2, Qdt kf hbc2, hk10, hk11, Kd.R_nil _ _ _ _ _, HBf.out.trans (Qgu hbc2 HBf.out.size), Nat.le_trans hbf2 hbc2.size⟩)
  have hpb : b ≤ p := Nat.le_trans hbf2 hwp
  clear hk10 hk11 f0 f1 kf
  go_wp2
  go_loopw [12, 69] (fun v12 v69 wr => ∃ (vh : Value) (hd0 : List Rec) (B0 : Bd) (u0 c0 : Int) (i : Nat) (iv : Int), vh = v12 ∧ v69 = .int .i64 iv ∧ Aside0 (iv = (i : Int)) ∧ i ≤ l1.length ∧ Aside0 (SBRun k e s n m2 mu mc (l1.drop i) hd0 B0 u0 c0 had B') ∧ Aside0 (SBSt w wr b g q p p2 e s n u0 c0 m2 mu mc vh hd0 B0)) (fun _ i _ => ((l1.length : Int) - intOf i).toNat)
  case atStart => exact ⟨_, [], B, u, c, 0, 0, rfl, rfl, ⟨rfl⟩, Nat.zero_le _, HR, HST⟩
  case round =>
   obtain ⟨vh, hd0, B0, u0, c0, i, iv, rfl, rfl, HI, hin, HG, HT⟩ := hrel
   by_cases hlt : i < l1.length
   ·have h0 : 0 ≤ iv := by have := HI.out; omega
    have h1 : iv < (l1.length : Int) := by have := HI.out; omega
    have hb1 : decide (iv < (l1.length : Int)) = true := decide_eq_true h1
    obtain ⟨ad, rfl, x0, x1, x2, x3⟩ := at_T39 (HCF.out HT.out.2.2.2.2.2.1) iv h0 h1
    obtain ⟨r, hr⟩ : ∃ r, r = Qgm l1 iv := ⟨_, rfl⟩
    rw [← hr] at x0 x1 x2 x3
    have hg : SBRun k e s n m2 mu mc (r :: l1.drop (i + 1)) hd0 B0 u0 c0 had B' := by
     have h := HG.out
     rw [take_rdR hlt, ← HI.out, ← hr] at h
     exact h
    clear hr
    obtain ⟨t, k0, ht, hk0, hB0, hcase⟩ := hg
    have HTT := QA ht
    have HK0 := QA hk0
    have HB0 := QA hB0
    clear ht hk0 hB0 HG
    have hgv := (IsBd.typed HT.out.1).choose_spec
    have bk := Qdu wr (.cells #[.bool r.f0, .int .u64 r.f1, .string r.f2, .string r.f3] 39)
    have HTa := QA (HT.out.alloc (.cells #[.bool r.f0, .int .u64 r.f1, .string r.f2, .string r.f3] 39))
    have hbgb : b ≤ g := hgd
    rcases hcase with ⟨code, hcode, hadd, hcs, hrest⟩ | ⟨B1, u1, c2, hadd, rfl, hf1, hf2, hu0, hu1, htk, hB1, hhl, hrest⟩
    ·have HREST := QA hrest
     have HROOM : Aside0 (∀ W, IsB W b g B0 → Calls Tryz.prog 26 #[.pointer (some ⟨g, 0, none⟩)] W fun ee w' => ee = .returned (.agg #[.int .u8 e, .int .u32 s, .int .u32 n, .int .i64 u0, .int .i64 c0]) ∧ Below W.heap.size W w') := ⟨fun W hI => by
      have h := bd_Room b g B0.1 B0.2.1 B0.2.2 W hI
      rw [HB0.out] at h
      exact h⟩
     have HADD : Aside0 (∀ W, IsB W b g B0 → b ≤ W.heap.size → Calls Tryz.prog 21 #[.pointer (some ⟨g, 0, none⟩), .agg #[.bool r.f0, .int .u64 r.f1, .string r.f2, .string r.f3]] W fun ee w' => ee = .returned (.tuple #[.int .u32 0, .int .i64 code]) ∧ IsB w' b g B0 ∧ Below b W w' ∧ Tb g W w') := ⟨fun W hI hW => by
      have h := addR_of b g B0 B0 r code W hI hbgb hW hadd
      rw [if_neg hcode] at h
      exact h⟩
     have hkb : (code == 0) = false := beq_eq_false_iff_ne.2 hcode
     have hkn : (code != 0) = true := bne_iff_ne.2 hcode
     clear hrest hadd
     go_upto_block 2 with (first
      | (go_at_call 21; refine (HADD.out _ HTa.out.1 HTa.out.2.2.2.2.2.2).mono ?_; rintro ee w1 ⟨rfl, hI1, hb1, ht1⟩; have k1 := ht1 _ _ _ bk (by decide) (by decide) (fun he => by have := Qdi hgv; omega); have S1 := QA (HTa.out.add hwb hI1 hb1 ht1); obtain ⟨y0, y1, y2, y3⟩ := box4 k1; clear x0 x1 x2 x3)
      | (go_at_call 22; refine (Qbg.calls k r.f0 r.f1 r.f2 r.f3 t _ HTT.out).mono ?_; rintro ee w2 ⟨rfl, hb2⟩; have k2 := Qdt k1 hb2; have S2 := QA (S1.out.below hb2); obtain ⟨z0, z1, z2, z3⟩ := box4 k2; clear y0 y1 y2 y3 hb2)
      | (go_at_call 23; refine (Qbb.calls k r.f0 r.f1 r.f2 r.f3 _ _ HK0.out).mono ?_; rintro ee w3 ⟨rfl, hb3⟩; have k3 := Qdt k2 hb3; have S3 := QA (S2.out.below hb3); clear z0 z1 z2 z3 hb3 k1 k2 hb1 ht1 hI1))
     go_cut [18] (fun v18 w' => v18 = .int .i64 code ∧ SBSt w w' b g q p p2 e s n u0 c0 m2 mu mc vh hd0 B0 ∧ w'.heap[wr.heap.size]? = some (.cells #[.bool r.f0, .int .u64 r.f1, .string r.f2, .string r.f3] 39 (0, 0)))
     case first =>
      obtain ⟨_, _, ⟨m0, m1, m2', m3, m4⟩⟩ := S3.out.cells
      rcases hcs with ⟨hk, hcc⟩ | ⟨hk, hf1, hcc⟩ | ⟨hk, hf1, hf2, hcc⟩
      ·subst hcc
       clear hk hcode
       go_wp2
       go_meet
       case rel => exact ⟨rfl, S3.out, k3⟩
      ·subst hk hcc
       have HF1 := QA hf1
       clear hf1
       go_wp2_with (go_at_call 24; with_reducible refine (Qbr.calls k e s m2 mu mc (t.size : Int) false w3 HF1.out).mono ?_; rintro ee w4 ⟨rfl, hb4⟩; have k4 := Qdt k3 hb4; have S4 := QA (S3.out.below hb4); clear m0 m1 m2' m3 m4 hb4; obtain ⟨_, ⟨p0, p1, p2', p3, p4⟩, _⟩ := S4.out.cells)
       go_meet
       case rel => exact ⟨rfl, S4.out, k4⟩
      ·subst hk hcc
       have HF1 := QA hf1
       have HF2 := QA hf2
       clear hf1 hf2
       go_wp2_with (first | (go_at_call 24; with_reducible refine (Qbr.calls k e s m2 mu mc (t.size : Int) true w3 HF1.out).mono ?_; rintro ee w4 ⟨rfl, hb4⟩; have k4 := Qdt k3 hb4; have S4 := QA (S3.out.below hb4); clear m0 m1 m2' m3 m4 hb4; obtain ⟨_, ⟨p0, p1, p2', p3, p4⟩, _⟩ := S4.out.cells) | (go_at_call 24; with_reducible refine (Qbr.calls k e s n u0 c0 (t.size : Int) false w4 HF2.out).mono ?_; rintro ee w5 ⟨rfl, hb5⟩; have k5 := Qdt k4 hb5; have S5 := QA (S4.out.below hb5); clear p0 p1 p2' p3 p4 hb5))
       go_meet
       case rel => exact ⟨rfl, S5.out, k5⟩
     case rest =>
      obtain ⟨hv18, S7, k7⟩ := hcut
      subst hv18
      have S7 := QA S7
      clear S3 k3 S1 S2
      go_wp2_with (go_at_call 26; refine (HROOM.out _ S7.out.1).mono ?_; rintro ee w6 ⟨rfl, hb6⟩; have S6 := QA ((S7.out.below hb6).alloc (.cells #[.int .u8 e, .int .u32 s, .int .u32 n, .int .i64 u0, .int .i64 c0] 47)); obtain ⟨r0, r1, r2, r3, r4⟩ := room5 (Qdu w6 (.cells #[.int .u8 e, .int .u32 s, .int .u32 n, .int .i64 u0, .int .i64 c0] 47)); clear hb6; obtain ⟨⟨q0, q1⟩, ⟨p0, p1, p2', p3, p4⟩, _⟩ := S6.out.cells)
      go_roundw
      case rel => exact ⟨vh, hd0, B0, u0, c0, i + 1, iv + 1, rfl, rfl, ⟨by have := HI.out; omega⟩, hlt, HREST, S6⟩
      case measure => simp [intOf]; omega
    ·have HREST := QA hrest
     have HB1 := QA hB1
     have HROOM : Aside0 (∀ W, IsB W b g B1 → Calls Tryz.prog 26 #[.pointer (some ⟨g, 0, none⟩)] W fun ee w' => ee = .returned (.agg #[.int .u8 e, .int .u32 s, .int .u32 n, .int .i64 u1, .int .i64 c2]) ∧ Below W.heap.size W w') := ⟨fun W hI => by
      have h := bd_Room b g B1.1 B1.2.1 B1.2.2 W hI
      rw [HB1.out] at h
      exact h⟩
     have hum : (B0.2.1.length : Int) % 4294967296 = u0 := by rw [hu0]; omega
     have HADD : Aside0 (∀ W, IsB W b g B0 → b ≤ W.heap.size → Calls Tryz.prog 21 #[.pointer (some ⟨g, 0, none⟩), .agg #[.bool r.f0, .int .u64 r.f1, .string r.f2, .string r.f3]] W fun ee w' => ee = .returned (.tuple #[.int .u32 u0, .int .i64 0]) ∧ IsB w' b g B1 ∧ Below b W w' ∧ Tb g W w') := ⟨fun W hI hW => by
      have h := addR_of b g B0 B1 r 0 W hI hbgb hW hadd
      rw [if_pos rfl, hum] at h
      exact h⟩
     have HTK := QA htk
     have HHL := QA hhl
     have HF1 := QA hf1
     have HF2 := QA hf2
     have hwu : IntKind.i64.wrap u0 = u0 := IntWalk.i64_in _ (by omega)
     clear hrest hadd hum htk hB1 hf1 hf2 hu0
     go_upto_block 2 with (first
      | (go_at_call 21; refine (HADD.out _ HTa.out.1 HTa.out.2.2.2.2.2.2).mono ?_; rintro ee w1 ⟨rfl, hI1, hb1, ht1⟩; have k1 := ht1 _ _ _ bk (by decide) (by decide) (fun he => by have := Qdi hgv; omega); have S1 := QA (HTa.out.add hwb hI1 hb1 ht1); obtain ⟨y0, y1, y2, y3⟩ := box4 k1; clear x0 x1 x2 x3)
      | (go_at_call 22; refine (Qbg.calls k r.f0 r.f1 r.f2 r.f3 t _ HTT.out).mono ?_; rintro ee w2 ⟨rfl, hb2⟩; have k2 := Qdt k1 hb2; have S2 := QA (S1.out.below hb2); obtain ⟨z0, z1, z2, z3⟩ := box4 k2; clear y0 y1 y2 y3 hb2)
      | (go_at_call 23; refine (Qbb.calls k r.f0 r.f1 r.f2 r.f3 _ _ HK0.out).mono ?_; rintro ee w3 ⟨rfl, hb3⟩; have k3 := Qdt k2 hb3; have S3 := QA (S2.out.below hb3); clear z0 z1 z2 z3 hb3 k1 k2 hb1 ht1 hI1))
     go_cut [18] (fun v18 w' => v18 = .int .i64 0 ∧ SBSt w w' b g q p p2 e s n u0 c0 m2 mu mc vh hd0 B1 ∧ w'.heap[wr.heap.size]? = some (.cells #[.bool r.f0, .int .u64 r.f1, .string r.f2, .string r.f3] 39 (0, 0)))
     case first =>
      obtain ⟨_, _, ⟨m0, m1, m2', m3, m4⟩⟩ := S3.out.cells
      go_wp2_with (first | (go_at_call 24; with_reducible refine (Qbr.calls k e s m2 mu mc (t.size : Int) true w3 HF1.out).mono ?_; rintro ee w4 ⟨rfl, hb4⟩; have k4 := Qdt k3 hb4; have S4 := QA (S3.out.below hb4); clear m0 m1 m2' m3 m4 hb4; obtain ⟨_, ⟨p0, p1, p2', p3, p4⟩, _⟩ := S4.out.cells) | (go_at_call 24; with_reducible refine (Qbr.calls k e s n u0 c0 (t.size : Int) true w4 HF2.out).mono ?_; rintro ee w5 ⟨rfl, hb5⟩; have k5 := Qdt k4 hb5; have S5 := QA (S4.out.below hb5); clear p0 p1 p2' p3 p4 hb5))
      go_meet
      case rel => exact ⟨rfl, S5.out, k5⟩
     case rest =>
      obtain ⟨hv18, S7, k7⟩ := hcut
      subst hv18
      have S7 := QA S7
      clear S3 k3 S1 S2 HADD
      obtain ⟨_, ⟨p0, p1, p2', p3, p4⟩, _⟩ := S7.out.cells
      obtain ⟨v0, v1, v2, v3⟩ := box4 k7
      go_upto_region 27 with (first
       | (at_builtin; go_loud (refine Kd.R_append k39 (w0 := wc) b rfl (.tmp 121) (.tmp 123) 23 39 (.agg #[.bool false, .int .u64 0, .string (⟨#[]⟩ : ByteArray), .string (⟨#[]⟩ : ByteArray)]) 48 rfl Tryz.underlying23 info39 rfl (by decide) (by omega) vh hd0 r [.bool r.f0, .int .u64 r.f1, .string r.f2, .string r.f3] (fun _ => True) (fun _ => False) rfl ?ax ?aP (fun _ hk => hk.elim) (fun _ _ => trivial) S7.out.2.2.2.2.1 (Below.refl _ _) S7.out.2.2.2.2.2.2 ?aL ?_; (case ax => rfl); (case aP => exact k39_mkM _ _ _ r); (case aL => have := HHL.out; omega); intro v8 w8 hR8 hb8 hg8 hat8; have S8 := QA (S7.out.grown hwb hR8 hb8 hg8); clear hR8 hb8 hg8 hat8 p0 p1 p2' p3 p4 v0 v1 v2 v3; obtain ⟨_, ⟨p0, p1, p2', p3, p4⟩, _⟩ := S8.out.cells))
       | (go_at_call 25; go_loud (with_reducible refine (Qbs.calls e s n u0 c0 (t.size : Int) e s n u1 c2 _ HTK.out).mono ?_; rintro ee w9 ⟨rfl, hb9⟩; have S9 := QA (S8.out.below hb9); clear p0 p1 p2' p3 p4 hb9; obtain ⟨_, ⟨p0, p1, p2', p3, p4⟩, _⟩ := S9.out.cells; have g0 := S9.out.atp 0; have g1 := S9.out.atp 1; have g2 := S9.out.atp 2; have g3 := S9.out.atp 3; have g4 := S9.out.atp 4)))
      obtain ⟨W10, hW10, S10, _⟩ := S9.out.set hpb hwb hpp u1 c2
      rw [← hW10]
      have S10 := QA S10
      clear hW10 p0 p1 p2' p3 p4 g0 g1 g2 g3 g4 S7 S8 S9
      go_wp2_with (go_at_call 26; refine (HROOM.out _ S10.out.1).mono ?_; rintro ee w6 ⟨rfl, hb6⟩; have S6 := QA ((S10.out.below hb6).alloc (.cells #[.int .u8 e, .int .u32 s, .int .u32 n, .int .i64 u1, .int .i64 c2] 47)); obtain ⟨r0, r1, r2, r3, r4⟩ := room5 (Qdu w6 (.cells #[.int .u8 e, .int .u32 s, .int .u32 n, .int .i64 u1, .int .i64 c2] 47)); clear hb6; obtain ⟨⟨q0, q1⟩, ⟨p0, p1, p2', p3, p4⟩, _⟩ := S6.out.cells)
      go_roundw
      case rel => exact ⟨v8, hd0 ++ [r], B1, u1, c2, i + 1, iv + 1, rfl, rfl, ⟨by have := HI.out; omega⟩, hlt, HREST, S6⟩
      case measure => simp [intOf]; omega
   ·have hb1 : decide (iv < (l1.length : Int)) = false := decide_eq_false (by have := HI.out; omega)
    have hg := HG.out
    rw [List.drop_of_length_le (by omega)] at hg
    obtain ⟨rfl, rfl⟩ := hg
    obtain ⟨hbl, tbl, oo, t2, o, er, hfr, hop, ht2, rfl, hse, hfin⟩ := HD.out
    obtain ⟨A3, c3, hvh⟩ := Kd.R_slice HT.out.2.2.2.2.1
    subst hvh
    have HC3 : Aside0 (∀ {W : World}, SBSt w W b g q p p2 e s n u0 c0 m2 mu mc (.slice A3 had.length c3) had B' → Kd.C k39 W A3 had.length had) := ⟨fun h => (Kd.R_reads' h.2.2.2.2.1).2.2⟩
    have HL3 : Aside0 (had.length ≤ c3) := ⟨(Kd.R_reads' HT.out.2.2.2.2.1).2.1⟩
    have HFR := QA hfr
    have HOP := QA hop
    have HT2 := QA ht2
    have HSE := QA hse
    have HFIN := QA hfin
    have HBL := QA hbl
    obtain ⟨⟨q0, q1⟩, _, _⟩ := HT.out.cells
    clear hfr hop ht2 hse hfin hbl
    go_upto_region 33 with (first
     | (go_at_call 27; go_loud (refine (Qbu.calls k e s n A3 c3 had (strOfNums B'.2.1) tbl _ (HC3.out HT.out) HL3.out HFR.out).mono ?_; rintro ee wA ⟨vt, rfl, hRt, hbA⟩; have SA := QA (HT.out.below hbA); clear q0 q1 hRt))
     | (go_at_call 28; go_loud (refine (sealR_of b g B' o er _ SA.out.1 SA.out.2.2.2.2.2.2 HSE.out).mono ?_; rintro ee wB ⟨vs, rfl, hRs, hbB⟩; have SB := QA (SA.out.below hbB); obtain ⟨⟨q0, q1⟩, _, _⟩ := SB.out.cells)))
    have HRs := QA hRs
    clear hRs hbA hbB
    go_cut [168] from 153 (fun v168 w' => v168 = .bool false ∧ SBSt w w' b g q p p2 e s n u0 c0 m2 mu mc (.slice A3 had.length c3) had B' ∧ R8 w' wA.heap.size vs o)
    case first =>
     refine Qen (n := 16) (S := fun w' => w'.cell? ⟨q, 0, none⟩ = some (.int .u8 e) ∧ w'.cell? ⟨q, 1, none⟩ = some (.int .u32 s)) (ds := []) #[false, false, false, false, false, false, false, false, false, false, false, false, false, false, false, false] qq_6 rfl rfl ⟨(Qct (Qcp (Below.refl _ _)) q0), (Qct (Qcp (Below.refl _ _)) q1)⟩ (fun hHeld => ?_)
     refine Qeo (i := 0) (N := some 153) (v := ?_) (a' := ?_) #[true, false, false, false, false, false, false, false, false, false, false, false, false, false, false, false] rfl rfl qq_6 (fun _ _ _ h => h) (Or.inl ⟨by rfl, ?_⟩) ?_ ?_
     rotate_left
     ·intro w'
      go_simp
      with_reducible rfl
     rotate_left
     ·simp only [Act.put, List.setIfInBounds_toArray, List.set_cons_zero, List.set_cons_succ, Qew, Qex]
      rfl
     refine Qeo (i := 3) (N := some 156) (v := ?_) (a' := ?_) #[true, false, false, true, false, false, false, false, false, false, false, false, false, false, false, false] rfl rfl qq_6 (fun _ _ _ h => h) (Or.inl ⟨by rfl, ?_⟩) ?_ ?_
     rotate_left
     ·intro w'
      go_simp
      with_reducible rfl
     rotate_left
     ·simp only [Act.put, List.setIfInBounds_toArray, List.set_cons_zero, List.set_cons_succ, Qew, Qex]
      rfl
     refine one_ (i := 1) (N := some 154) #[true, true, false, true, false, false, false, false, false, false, false, false, false, false, false, false] rfl rfl qq_6 (by decide) (fun K hK => ?_)
     have HIF := QA (SB.out.below (Qcp (Below.refl _ _))).1
     have HBM : Aside0 (B'.2.1.length ≤ 140737488355328) := ⟨by have := HBL.out; omega⟩
     refine Qet Tryz.func29 qq_6 rfl #[.pointer (some ⟨g, 0, none⟩)] (by rfl) rfl rfl qq_11 ?_
     with_reducible refine (Qid b g B'.1 B'.2.1 B'.2.2 _ HIF.out HBM.out).mono ?_
     rintro ee wC ⟨vC, rfl, hRC, hbC⟩
     refine ⟨_, rfl, ?_⟩
     have SC := QA (SB.out.below ((Qcp (Below.refl _ _)).trans hbC))
     have HRC := QA (R8.kept HRs.out ((Qcp (Below.refl _ _)).trans hbC))
     have cvC := Qcw (P := Tryz.prog) Tryz.underlying52 Tryz.underlying5 Tryz.underlying9 (Kd.own_of_R hRC)
     refine hK.out _ _ ⟨(Qct hbC hHeld.1), (Qct hbC hHeld.2)⟩ (fun hHeld => ?_)
     clear hK K
     refine Qes (a' := ?_) ?_ ?_
     rotate_left
     ·show Act.put _ (some 154) _ = _
      simp only [Act.put, List.setIfInBounds_toArray, List.set_cons_zero, List.set_cons_succ, Qew, Qex]
      rfl
     refine one_ (i := 2) (N := some 155) #[true, true, true, true, false, false, false, false, false, false, false, false, false, false, false, false] rfl rfl qq_6 (by decide) (fun K hK => ?_)
     refine Qev (w1 := ?_) (v := ?_) (by rfl) rfl ?_ ?_
     rotate_left 2
     ·go_simp
      constructor
      ·rfl
      ·rfl
     refine hK.out _ _ ⟨hHeld.1, hHeld.2⟩ (fun hHeld => ?_)
     clear hK K
     refine Qes (a' := ?_) ?_ ?_
     rotate_left
     ·show Act.put _ (some 155) _ = _
      simp only [Act.put, List.setIfInBounds_toArray, List.set_cons_zero, List.set_cons_succ, Qew, Qex]
      rfl
     refine Qeo (i := 4) (N := some 157) (v := ?_) (a' := ?_) #[true, true, true, true, true, false, false, false, false, false, false, false, false, false, false, false] rfl rfl qq_6 (fun _ _ _ h => h) (Or.inl ⟨by rfl, ?_⟩) ?_ ?_
     rotate_left
     ·intro w'
      go_simp
      with_reducible rfl
     rotate_left
     ·simp only [Act.put, List.setIfInBounds_toArray, List.set_cons_zero, List.set_cons_succ, Qew, Qex]
      rfl
     refine Qeo (i := 5) (N := some 158) (v := ?_) (a' := ?_) #[true, true, true, true, true, true, false, false, false, false, false, false, false, false, false, false] rfl rfl qq_6 (fun _ _ _ h => h) (Or.inl ⟨by rfl, ?_⟩) ?_ ?_
     rotate_left
     ·intro w'
      go_simp
      with_reducible rfl
     rotate_left
     ·simp only [Act.put, List.setIfInBounds_toArray, List.set_cons_zero, List.set_cons_succ, Qew, Qex]
      rfl
     refine Qeo (i := 6) (N := some 159) (v := ?_) (a' := ?_) #[true, true, true, true, true, true, true, false, false, false, false, false, false, false, false, false] rfl rfl qq_6 (fun _ _ _ h => h) (Or.inl ⟨by rfl, ?_⟩) ?_ ?_
     rotate_left
     ·intro w'
      go_simp
      with_reducible rfl
     rotate_left
     ·simp only [Act.put, List.setIfInBounds_toArray, List.set_cons_zero, List.set_cons_succ, Qew, Qex]
      rfl
     refine Qeo (i := 10) (N := some 163) (v := ?_) (a' := ?_) #[true, true, true, true, true, true, true, false, false, false, true, false, false, false, false, false] rfl rfl qq_6 (fun _ _ _ h => h) (Or.inl ⟨by rfl, ?_⟩) ?_ ?_
     rotate_left
     ·intro w'
      go_simp
      with_reducible rfl
     rotate_left
     ·simp only [Act.put, List.setIfInBounds_toArray, List.set_cons_zero, List.set_cons_succ, Qew, Qex]
      rfl
     refine Qeo (i := 11) (N := some 164) (v := ?_) (a' := ?_) #[true, true, true, true, true, true, true, false, false, false, true, true, false, false, false, false] rfl rfl qq_6 (fun _ _ _ h => h) (Or.inl ⟨by rfl, ?_⟩) ?_ ?_
     rotate_left
     ·intro w'
      go_simp
      with_reducible rfl
     rotate_left
     ·simp only [Act.put, List.setIfInBounds_toArray, List.set_cons_zero, List.set_cons_succ, Qew, Qex]
      rfl
     refine Qeo (i := 12) (N := some 165) (v := ?_) (a' := ?_) #[true, true, true, true, true, true, true, false, false, false, true, true, true, false, false, false] rfl rfl qq_6 (fun _ _ _ h => h) (Or.inl ⟨by rfl, ?_⟩) ?_ ?_
     rotate_left
     ·intro w'
      go_simp
      with_reducible rfl
     rotate_left
     ·simp only [Act.put, List.setIfInBounds_toArray, List.set_cons_zero, List.set_cons_succ, Qew, Qex]
      rfl
     refine take_ (i := 9) (N := some 162) (v := ?_) (a' := ?_) #[true, true, true, true, true, true, true, false, false, true, true, true, true, false, false, false] rfl rfl qq_6 (fun _ _ _ h => h) (Or.inl ⟨by rfl, ?_⟩) hHeld ?_ ?_
     rotate_left
     ·rintro w' ⟨s0, s1⟩
      go_simp
      with_reducible rfl
     rotate_left
     ·simp only [Act.put, List.setIfInBounds_toArray, List.set_cons_zero, List.set_cons_succ, Qew, Qex]
      rfl
     refine one_ (i := 7) (N := some 160) #[true, true, true, true, true, true, true, true, false, true, true, true, true, false, false, false] rfl rfl qq_6 (by decide) (fun K hK => ?_)
     have HIO := QA SC.out.1
     have HIP := QA SC.out.2.2.2.2.2.2
     refine Qet Tryz.func30 qq_6 rfl #[.pointer (some ⟨g, 0, none⟩)] (by rfl) rfl rfl qq_11 ?_
     with_reducible refine (open_ofB b g B' oo _ HIO.out HIP.out HOP.out).mono ?_
     rintro ee wD ⟨vD, rfl, hRD, hbD⟩
     refine ⟨_, rfl, ?_⟩
     have SD := QA (SC.out.below hbD)
     have HRD := QA (R8.kept HRC.out hbD)
     have cvD := Qcw (P := Tryz.prog) Tryz.underlying52 Tryz.underlying5 Tryz.underlying9 (Kd.own_of_R hRD)
     clear cvC
     refine hK.out _ _ ⟨(Qct hbD hHeld.1), (Qct hbD hHeld.2)⟩ (fun hHeld => ?_)
     clear hK K
     refine Qes (a' := ?_) ?_ ?_
     rotate_left
     ·show Act.put _ (some 160) _ = _
      simp only [Act.put, List.setIfInBounds_toArray, List.set_cons_zero, List.set_cons_succ, Qew, Qex]
      rfl
     refine Qer (σ := Unit) 2 #[true, true, true, true, true, true, true, true, true, true, true, true, true, true, false, false] (fun s_ => [(161, .string (strOfNums oo)), (166, .string (strOfNums oo))]) (fun s_ w' => (w'.cell? ⟨q, 0, none⟩ = some (.int .u8 e) ∧ w'.cell? ⟨q, 1, none⟩ = some (.int .u32 s)) ∧ SBSt w w' b g q p p2 e s n u0 c0 m2 mu mc (.slice A3 had.length c3) had B' ∧ R8 w' wA.heap.size vs o) ?_ ?_
     rotate_left
     ·intro hJ8_13
      refine Qer (σ := Unit) 3 #[true, true, true, true, true, true, true, true, true, true, true, true, true, false, false, false] (fun s_ => [(161, .string (strOfNums oo))]) (fun s_ w' => (w'.cell? ⟨q, 0, none⟩ = some (.int .u8 e) ∧ w'.cell? ⟨q, 1, none⟩ = some (.int .u32 s)) ∧ SBSt w w' b g q p p2 e s n u0 c0 m2 mu mc (.slice A3 had.length c3) had B' ∧ R8 w' wA.heap.size vs o) ?_ ?_
      rotate_left
      ·intro hJ8
       refine Qer (σ := Unit) 3 #[true, true, true, true, true, true, true, true, false, true, true, true, true, true, false, false] (fun s_ => [(166, .string (strOfNums oo))]) (fun s_ w' => (w'.cell? ⟨q, 0, none⟩ = some (.int .u8 e) ∧ w'.cell? ⟨q, 1, none⟩ = some (.int .u32 s)) ∧ SBSt w w' b g q p p2 e s n u0 c0 m2 mu mc (.slice A3 had.length c3) had B' ∧ R8 w' wA.heap.size vs o ∧ (convert 52 9 vD).run Tryz.prog w' = .ok (.string (strOfNums oo)) w') ?_ ?_
       rotate_left
       ·intro hJ13
        refine two_ (i := 8) (j := 13) (Ni := some 161) (Nj := some 166) #[true, true, true, true, true, true, true, true, true, true, true, true, true, false, false, false] #[true, true, true, true, true, true, true, true, false, true, true, true, true, true, false, false] rfl rfl rfl rfl qq_6 (by decide) (by decide) (fun K hK => ?_) (fun K hK => ?_)
        ·skip
         refine Qev (w1 := ?_) (v := ?_) (by rfl) rfl ?_ ?_
         rotate_left 2
         ·go_simp
          constructor
          ·rfl
          ·rfl
         refine hK.out _ _ ⟨hHeld.1, hHeld.2⟩ (fun hHeld => ?_)
         clear hK K
         refine Qes (a' := ?_) ?_ ?_
         rotate_left
         ·show Act.put _ (some 161) _ = _
          simp only [Act.put, List.setIfInBounds_toArray, List.set_cons_zero, List.set_cons_succ, Qew, Qex]
          rfl
         exact Qes qq_3 (hJ8 () _ ⟨hHeld, SD.out, HRD.out⟩)
        ·skip
         refine Qet Tryz.func31 qq_6 rfl #[.agg #[.int .u8 e, .int .u32 s], .int .u64 n, .slice A3 had.length c3, .bool false] (by rfl) rfl rfl qq_11 ?_
         with_reducible refine (Qbv.calls k e s n A3 c3 had false (strOfNums oo) _ (HC3.out SD.out) HL3.out HT2.out).mono ?_
         rintro ee wE ⟨rfl, hbE⟩
         refine ⟨_, rfl, ?_⟩
         refine hK.out _ _ ⟨(Qct hbE hHeld.1), (Qct hbE hHeld.2)⟩ (fun hHeld => ?_)
         clear hK K
         refine Qes (a' := ?_) ?_ ?_
         rotate_left
         ·show Act.put _ (some 166) _ = _
          simp only [Act.put, List.setIfInBounds_toArray, List.set_cons_zero, List.set_cons_succ, Qew, Qex]
          rfl
         exact Qes qq_3 (hJ13 () _ ⟨hHeld, SD.out.below hbE, R8.kept HRD.out hbE, Qcw (P := Tryz.prog) Tryz.underlying52 Tryz.underlying5 Tryz.underlying9 (Kd.own_of_R (R8.kept hRD hbE))⟩)
       ·skip
        rintro _ wE_ ⟨hHeld_, hST_, hRR_, cvE⟩
        clear cvD
        clear hHeld
        have hHeld := hHeld_
        have SE := QA hST_
        have HRE := QA hRR_
        clear hHeld_ hST_ hRR_
        refine Qes (a' := ?_) ?_ ?_
        rotate_left
        ·simp only [Qeq, Act.put, List.setIfInBounds_toArray, List.set_cons_zero, List.set_cons_succ]
         rfl
        refine one_ (i := 8) (N := some 161) #[true, true, true, true, true, true, true, true, true, true, true, true, true, true, false, false] rfl rfl qq_6 (by decide) (fun K hK => ?_)
        refine Qev (w1 := ?_) (v := ?_) (by rfl) rfl ?_ ?_
        rotate_left 2
        ·go_simp
         constructor
         ·rfl
         ·rfl
        refine hK.out _ _ ⟨hHeld.1, hHeld.2⟩ (fun hHeld => ?_)
        clear hK K
        refine Qes (a' := ?_) ?_ ?_
        rotate_left
        ·show Act.put _ (some 161) _ = _
         simp only [Act.put, List.setIfInBounds_toArray, List.set_cons_zero, List.set_cons_succ, Qew, Qex]
         rfl
        exact Qes qq_3 (hJ8_13 () _ ⟨hHeld, SE.out, HRE.out⟩)
      ·skip
       rintro _ wE_ ⟨hHeld_, hST_, hRR_⟩
       clear hHeld
       have hHeld := hHeld_
       have SE := QA hST_
       have HRE := QA hRR_
       clear hHeld_ hST_ hRR_
       refine Qes (a' := ?_) ?_ ?_
       rotate_left
       ·simp only [Qeq, Act.put, List.setIfInBounds_toArray, List.set_cons_zero, List.set_cons_succ]
        rfl
       refine one_ (i := 13) (N := some 166) #[true, true, true, true, true, true, true, true, true, true, true, true, true, true, false, false] rfl rfl qq_6 (by decide) (fun K hK => ?_)
       refine Qet Tryz.func31 qq_6 rfl #[.agg #[.int .u8 e, .int .u32 s], .int .u64 n, .slice A3 had.length c3, .bool false] (by rfl) rfl rfl qq_11 ?_
       with_reducible refine (Qbv.calls k e s n A3 c3 had false (strOfNums oo) _ (HC3.out SE.out) HL3.out HT2.out).mono ?_
       rintro ee wE ⟨rfl, hbE⟩
       refine ⟨_, rfl, ?_⟩
       refine hK.out _ _ ⟨(Qct hbE hHeld.1), (Qct hbE hHeld.2)⟩ (fun hHeld => ?_)
       clear hK K
       refine Qes (a' := ?_) ?_ ?_
       rotate_left
       ·show Act.put _ (some 166) _ = _
        simp only [Act.put, List.setIfInBounds_toArray, List.set_cons_zero, List.set_cons_succ, Qew, Qex]
        rfl
       exact Qes qq_3 (hJ8_13 () _ ⟨hHeld, SE.out.below hbE, R8.kept HRE.out hbE⟩)
     rintro _ wE_ ⟨hHeld_, hST_, hRR_⟩
     clear hHeld
     have hHeld := hHeld_
     have SE := QA hST_
     have HRE := QA hRR_
     clear hHeld_ hST_ hRR_
     refine Qes (a' := ?_) ?_ ?_
     rotate_left
     ·simp only [Qeq, Act.put, List.setIfInBounds_toArray, List.set_cons_zero, List.set_cons_succ]
      rfl
     refine Qeo (i := 14) (N := some 167) (v := ?_) (a' := ?_) #[true, true, true, true, true, true, true, true, true, true, true, true, true, true, true, false] rfl rfl qq_6 (fun _ _ _ h => h) (Or.inl ⟨by rfl, ?_⟩) ?_ ?_
     rotate_left
     ·intro w'
      go_simp
      with_reducible rfl
     rotate_left
     ·simp only [Act.put, List.setIfInBounds_toArray, List.set_cons_zero, List.set_cons_succ, Qew, Qex]
      rfl
     refine Qeo (i := 15) (N := some 168) (v := ?_) (a' := ?_) #[true, true, true, true, true, true, true, true, true, true, true, true, true, true, true, true] rfl rfl qq_6 (fun _ _ _ h => h) (Or.inl ⟨by rfl, ?_⟩) ?_ ?_
     rotate_left
     ·intro w'
      go_simp
      with_reducible rfl
     rotate_left
     ·simp only [Act.put, List.setIfInBounds_toArray, List.set_cons_zero, List.set_cons_succ, Qew, Qex]
      rfl
     refine Qep qq_6 ?_
     go_wp2
     go_meet
     case rel => exact ⟨by simp, SE.out, HRE.out⟩
    case rest =>
     obtain ⟨hv168, SF, hRF⟩ := hcut
     subst hv168
     have SF := QA SF
     obtain ⟨⟨q0', q1'⟩, _, _⟩ := SF.out.cells
     clear SA SB q0 q1 HRs
     have cvF := Qcw (P := Tryz.prog) Tryz.underlying52 Tryz.underlying5 Tryz.underlying9 (Kd.own_of_R hRF)
     obtain ⟨As, cs, hvs⟩ := Kd.R_slice hRF
     subst hvs
     have HRF := QA hRF
     clear hRF
     rcases HFIN.out with ⟨hh, her, ho⟩ | ⟨hh, her, t3, ht3, ho⟩
     ·subst her
      have hl0 : ((had.length : Int) == 0) = true := by rw [hh]; rfl
      have hl1 : ((o.length : Int) == 0) = true := by rw [ho]; rfl
      clear hh ho HFIN
      go_wp2
      go_ret
      exact ⟨rfl, SF.out.2.2.2.2.2.1⟩
     ·subst her ho
      have hl0 : ((had.length : Int) == 0) = false := beq_eq_false_iff_ne.2 (by have := List.length_pos_iff.2 hh; omega)
      have HT3 := QA ht3
      clear hh ht3 HFIN
      have cvF' := Qcw (P := Tryz.prog) Tryz.underlying52 Tryz.underlying5 Tryz.underlying9 (Kd.own_of_R (Kd.R_drew HRF.out))
      clear cvF
      go_wp2
      go_region_held3 (fun w' => w'.cell? ⟨q, 0, none⟩ = some (.int .u8 e) ∧ w'.cell? ⟨q, 1, none⟩ = some (.int .u32 s) ∧ (convert 52 9 (.slice As o.length cs)).run Tryz.prog w' = .ok (.string (strOfNums o)) w') (first | exact ⟨q0', q1', cvF'⟩ | exact ⟨d0', d1', cvG⟩) (first
       | (go_at_call 31; go_loud (refine (Qbv.calls k e s n A3 c3 had true (strOfNums o) _ (HC3.out (SF.out.below (Qcp (Below.refl _ _)))) HL3.out HT3.out).mono ?_; rintro ee wG ⟨rfl, hbG⟩; have SG := QA (SF.out.below ((Qcp (Below.refl _ _)).trans hbG)); obtain ⟨⟨d0', d1'⟩, _, _⟩ := SG.out.cells; have cvG := Qcw (P := Tryz.prog) Tryz.underlying52 Tryz.underlying5 Tryz.underlying9 (Kd.own_of_R (R8.kept HRF.out ((Qcp (Below.refl _ _)).trans hbG))))))
      all_goals
       go_wp2
       go_ret
       exact ⟨by simp, SG.out.2.2.2.2.2.1⟩
end Go.Proofs.YtnnofopfbeklbaaGreat.C
end
