/- Texts of this claim's author and of the print of its functions, merged by merge.py. -/
import Derived.Test.YtnnofopfbeklbaaGreatMG01
import Derived.Test.YtnnofopfbeklbaaGreatMG00
import Derived.Laws.StructEq
import Derived.Test.YtnnofopfbeklbaaGreatProg
import Derived.Below
import Derived.Deep.Draws
import Derived.Deep.AppendLies
import Derived.Maps.AppendAt
import Derived.OwnWalk
import Derived.Laws.BytesArg
import Derived.Laws.MakeOwn
import Derived.Laws.OwnMore
import Derived.Deep.OwnRows
import Derived.Tactics
import Derived.Lib.ConvBytes
import Derived.Laws.Slices
import Derived.WalkKit
import Derived.KernelRfl
import Derived.RowKit3
import Derived.Deep.LoopGhost
import Derived.Deep.QuietTactic
import Derived.BigQuiet
import Derived.WideLaws
import Derived.Deep.DeepCutAuto
import Derived.Deep.CutBlock
import Derived.Deep.RegionHeld3
import Derived.Laws.Rows
import Derived.Lib.AppendStr
import Derived.ArgAppend
import Derived.Laws.IdiomCopy
import Derived.OrdersHeld
import Derived.Laws.BitsLemmas
import Derived.RowKit
set_option linter.unusedVariables false
set_option linter.unusedSimpArgs false
set_option maxHeartbeats 8000000
set_option maxRecDepth 100000
section
namespace Go.Proofs.YtnnofopfbeklbaaGreatW.PrintWords
open Go.RowKit
def Foot (P : World → Prop) (W : World) (ok : Nat → Prop) : Prop := ∀ W' : World, (∀ k, ok k → k < W.heap.size → W'.heap[k]? = W.heap[k]?) → P W'
theorem heap_lt {W W1 : World} {k : Nat} (h : W1.heap[k]? = W.heap[k]?) (hlt : k < W.heap.size) : k < W1.heap.size := by
  rw [Array.getElem?_eq_getElem hlt] at h
  exact (Array.getElem?_eq_some_iff.1 h).1
namespace Foot
variable {P Q : World → Prop} {W W1 : World} {ok ok' : Nat → Prop}
theorem now (h : Foot P W ok) : P W := h W (fun _ _ _ => rfl)
theorem mono (h : Foot P W ok) (hok : ∀ k, ok k → ok' k) : Foot P W ok' := fun W' hW => h W' (fun k hk hlt => hW k (hok k hk) hlt)
theorem step (h : Foot P W ok) (hm : ∀ k, ok k → k < W.heap.size → W1.heap[k]? = W.heap[k]?) : Foot P W1 ok := fun W' hW => h W' (fun k hk hlt => (hW k hk (heap_lt (hm k hk hlt) hlt)).trans (hm k hk hlt))
theorem imp (h : Foot P W ok) (hi : ∀ W', P W' → Q W') : Foot Q W ok := fun W' hW => hi W' (h W' hW)
end Foot
namespace Kd
def F {α : Type} (d : Kd α) (W : World) (ok : Nat → Prop) (A : Option Addr) (n : Nat) (xs : List α) : Prop := Foot (fun W => d.C W A n xs) W ok
def FK {α : Type} (d : Kd α) (W : World) (ok : Nat → Prop) (x : α) (c : List Value) : Prop := Foot (fun W => d.K W x c) W ok
section
variable {α β : Type} {d : Kd α} {e base n n' cc g N : Nat} {ok ok' okp S : Nat → Prop} {w w0 w1 W W1 : World} {A A' : Option Addr} {u v v1 : Value} {xs : List α} {xs' : List β} {d' : Kd β} {x : α} {c : List Value}
theorem F_nil (d : Kd α) (W : World) (ok : Nat → Prop) : F d W ok none ([] : List α).length [] := fun W' _ => C_nil d W'
theorem FK_of_M (h : d.M W base ok x c) : FK d W ok x c := fun _ hW => d.K_of_M (M_step h hW)
end
end Kd
end Go.Proofs.YtnnofopfbeklbaaGreatW.PrintWords
end
section
namespace Go.Proofs.YtnnofopfbeklbaaGreatW.PrintWords
open Go.RowKit
namespace Kd
def Qfr (sz : Nat) (n : Nat) (inner : List Value) : List (List Value) := (List.range n).map fun j => (inner.drop (j * sz)).take sz
theorem Qfs (sz n : Nat) (inner : List Value) : (Qfr sz n inner).length = n := by simp [Qfr]
theorem chunks_at {sz n : Nat} {inner : List Value} {j : Nat} (hj : j < n) : (Qfr sz n inner)[j]? = some ((inner.drop (j * sz)).take sz) := by simp [Qfr, hj]
theorem Qft {sz n : Nat} {inner : List Value} {j : Nat} {c : List Value} (h : (Qfr sz n inner)[j]? = some c) : c = (inner.drop (j * sz)).take sz := by
  have hj : j < n := by have := (List.getElem?_eq_some_iff.1 h).1; rwa [Qfs] at this
  rw [chunks_at hj] at h
  injection h with h
  exact h.symm
theorem reps_raw {α : Type} {Rr : α → List Value → Prop} {sz : Nat} {xs : List α} {inner : List Value} (h : Reps Rr sz xs inner) (hR : ∀ x c, Rr x c → c.length = sz ∧ ∀ u ∈ c, u.oneCell' = true) : Reps (fun x cs => cs = x ∧ cs.length = sz ∧ ∀ u ∈ cs, u.oneCell' = true) sz (Qfr sz xs.length inner) inner := by
  refine ⟨by rw [Qfs]; exact h.1, fun j p hj => ?_⟩
  have hjl : j < xs.length := by have := (List.getElem?_eq_some_iff.1 hj).1; rwa [Qfs] at this
  have hp := Qft hj
  exact ⟨hp.symm, hR _ _ (h.2 j _ (List.getElem?_eq_getElem hjl))⟩
section
variable {α : Type} {d : Kd α} {e base n cc g : Nat} {ok ok' okp S : Nat → Prop} {w w1 W W1 : World} {A : Option Addr} {u v v1 : Value} {xs : List α} {x : α} {c : List Value}
def N {α : Type} (d : Kd α) (e : Nat) (w : World) (base : Nat) (ok : Nat → Prop) (v : Value) (xs : List α) : Prop :=
  (∀ k, v.ownBlock = some k → ok k) ∧ ∃ rows : List (List Value), rows.length = xs.length ∧ (raw d.sz).R e w base (fun k => some k = v.ownBlock) v rows ∧ ∀ (j : Nat) (x : α) (c : List Value), xs[j]? = some x → rows[j]? = some c → FK d w (fun k => ok k ∧ some k ≠ v.ownBlock) x c
theorem R_N (h : d.R e w base ok v xs) : N d e w base ok v xs := by
  obtain ⟨h0, inner, ho, hr⟩ := h
  refine ⟨h0, Qfr d.sz xs.length inner, Qfs _ _ _, ⟨fun k hk => hk.symm, inner, by rw [Qfs]; exact ho, reps_raw hr (fun x c hp => ⟨d.K_len (d.K_of_M hp), d.K_one (d.K_of_M hp)⟩)⟩, fun j x c hx hc => ?_⟩
  rw [Qft hc]
  exact FK_of_M (hr.2 j x hx)
theorem N_nil (d : Kd α) (e : Nat) (w : World) (base : Nat) (ok : Nat → Prop) : N d e w base ok (.slice none 0 0) [] := R_N (R_nil _ _ _ _ _)
end
section
variable {α : Type} {d : Kd α} {W : World} {g n : Nat} {S ok : Nat → Prop} {A : Option Addr} {ad : Addr} {xs : List α}
end
end Kd
end Go.Proofs.YtnnofopfbeklbaaGreatW.PrintWords
end
section
namespace Go.Proofs.YtnnofopfbeklbaaGreatW.PrintWords
open Go.RowKit
section
variable {w w' u : World} {m B g : Nat} {o : Obj} {row : Option Nat} {S : Nat → Prop} {a : Addr} {v : Value}
end
namespace Kd
section
variable {α : Type} {d : Kd α} {e base n m : Nat} {ok : Nat → Prop} {w w' : World} {v : Value} {A : Option Addr} {xs : List α}
end
end Kd
section
variable {P : Program} {d : Nat} {xs ys : Array Value} {f : Field} {fs : List Field} {a b : Value} {r s : Bool} {w : World}
theorem Qfu (hn : (f.name == "_") = false) (ha : (part f.type xs f.offset).run P w = .ok a w) (hb : (part f.type ys f.offset).run P w = .ok b w) (he : (Op.equalIn d f.type a b).run P w = .ok r w) : (Op.eqFields d xs ys [f]).run P w = .ok r w := by
  have hn' : f.name ≠ "_" := by simpa using hn
  simp only [Op.eqFields, if_pos hn', Sem.run_bind, ha, hb, he, Result.andThen_ok]
  cases r <;> simp
theorem Qfv (hn : (f.name == "_") = false) (ha : (part f.type xs f.offset).run P w = .ok a w) (hb : (part f.type ys f.offset).run P w = .ok b w) (he : (Op.equalIn d f.type a b).run P w = .ok r w) (hr : (Op.eqFields d xs ys fs).run P w = .ok s w) : (Op.eqFields d xs ys (f :: fs)).run P w = .ok (r && s) w := by
  have hn' : f.name ≠ "_" := by simpa using hn
  rw [Op.eqFields]
  simp only [if_pos hn', Sem.run_bind, ha, hb, he, Result.andThen_ok]
  cases r
  · simp
  · simpa using hr
theorem eqA_of {t : TypeId} {fs : Array Field} (hu : P.underlying t = some (.struct fs)) (hp : P.stoodInHeld t = false) (h : (Op.eqFields d xs ys fs.toList).run P w = .ok r w) : (Op.equalIn (d + 1) t (.agg xs) (.agg ys)).run P w = .ok r w := by
  have hf : P.fieldsOf t = fs := by simp [Program.fieldsOf, hu]
  rw [run_equalIn_struct (P := P) w d t xs ys (by rw [hf]; exact hu) hp, hf]
  exact h
end
end Go.Proofs.YtnnofopfbeklbaaGreatW.PrintWords
end
section
namespace Go.Proofs.YtnnofopfbeklbaaGreatW.PrintWords
theorem Reps.one {α : Type} {R : α → List Value → Prop} {ps : List α} {cs : List Value} {p : α} {v : Value} (hp : R p [v]) (h : Reps R 1 ps cs) : Reps R 1 (p :: ps) (v :: cs) := by
  refine ⟨by simp [h.1], fun j q hq => ?_⟩
  cases j with
  | zero =>
    simp only [List.getElem?_cons_zero, Option.some.injEq] at hq
    subst hq
    simpa using hp
  | succ j =>
    simp only [List.getElem?_cons_succ] at hq
    have h1 := h.2 j q hq
    simpa [Nat.mul_one] using h1
theorem Reps.front {α : Type} {R : α → List Value → Prop} {size : Nat} {ps : List α} {cs c all : List Value} {p : α} (hp : R p c) (hc : c.length = size) (h : Reps R size ps cs) (ha : c ++ cs = all) : Reps R size (p :: ps) all := by
  subst ha
  refine ⟨by rw [List.length_append, hc, h.1, List.length_cons, Nat.succ_mul, Nat.add_comm], fun j q hq => ?_⟩
  cases j with
  | zero =>
    simp only [List.getElem?_cons_zero, Option.some.injEq] at hq
    subst hq
    rw [Nat.zero_mul, List.drop_zero, List.take_append_of_le_length (by omega), List.take_of_length_le (by omega)]
    exact hp
  | succ j =>
    simp only [List.getElem?_cons_succ] at hq
    have h1 := h.2 j q hq
    rw [Nat.succ_mul, List.drop_append, List.drop_of_length_le (by rw [hc]; exact Nat.le_add_left _ _), List.nil_append, hc, Nat.add_sub_cancel]
    exact h1
theorem Reps.c2 {α : Type} {R : α → List Value → Prop} {ps : List α} {cs : List Value} {p : α} {va vb : Value} (hp : R p [va, vb]) (h : Reps R 2 ps cs) : Reps R 2 (p :: ps) (va :: vb :: cs) := Reps.front hp rfl h rfl
theorem Reps.c3 {α : Type} {R : α → List Value → Prop} {ps : List α} {cs : List Value} {p : α} {va vb vc : Value} (hp : R p [va, vb, vc]) (h : Reps R 3 ps cs) : Reps R 3 (p :: ps) (va :: vb :: vc :: cs) := Reps.front hp rfl h rfl
theorem Reps.c4 {α : Type} {R : α → List Value → Prop} {ps : List α} {cs : List Value} {p : α} {va vb vc vd : Value} (hp : R p [va, vb, vc, vd]) (h : Reps R 4 ps cs) : Reps R 4 (p :: ps) (va :: vb :: vc :: vd :: cs) := Reps.front hp rfl h rfl
theorem Reps.c5 {α : Type} {R : α → List Value → Prop} {ps : List α} {cs : List Value} {p : α} {va vb vc vd ve : Value} (hp : R p [va, vb, vc, vd, ve]) (h : Reps R 5 ps cs) : Reps R 5 (p :: ps) (va :: vb :: vc :: vd :: ve :: cs) := Reps.front hp rfl h rfl
theorem Reps.c6 {α : Type} {R : α → List Value → Prop} {ps : List α} {cs : List Value} {p : α} {va vb vc vd ve vf : Value} (hp : R p [va, vb, vc, vd, ve, vf]) (h : Reps R 6 ps cs) : Reps R 6 (p :: ps) (va :: vb :: vc :: vd :: ve :: vf :: cs) := Reps.front hp rfl h rfl
theorem Reps.c7 {α : Type} {R : α → List Value → Prop} {ps : List α} {cs : List Value} {p : α} {va vb vc vd ve vf vg : Value} (hp : R p [va, vb, vc, vd, ve, vf, vg]) (h : Reps R 7 ps cs) : Reps R 7 (p :: ps) (va :: vb :: vc :: vd :: ve :: vf :: vg :: cs) := Reps.front hp rfl h rfl
theorem Reps.c8 {α : Type} {R : α → List Value → Prop} {ps : List α} {cs : List Value} {p : α} {va vb vc vd ve vf vg vh : Value} (hp : R p [va, vb, vc, vd, ve, vf, vg, vh]) (h : Reps R 8 ps cs) : Reps R 8 (p :: ps) (va :: vb :: vc :: vd :: ve :: vf :: vg :: vh :: cs) := Reps.front hp rfl h rfl
theorem Reps.c9 {α : Type} {R : α → List Value → Prop} {ps : List α} {cs : List Value} {p : α} {va vb vc vd ve vf vg vh vi : Value} (hp : R p [va, vb, vc, vd, ve, vf, vg, vh, vi]) (h : Reps R 9 ps cs) : Reps R 9 (p :: ps) (va :: vb :: vc :: vd :: ve :: vf :: vg :: vh :: vi :: cs) := Reps.front hp rfl h rfl
theorem Reps.c10 {α : Type} {R : α → List Value → Prop} {ps : List α} {cs : List Value} {p : α} {va vb vc vd ve vf vg vh vi vj : Value} (hp : R p [va, vb, vc, vd, ve, vf, vg, vh, vi, vj]) (h : Reps R 10 ps cs) : Reps R 10 (p :: ps) (va :: vb :: vc :: vd :: ve :: vf :: vg :: vh :: vi :: vj :: cs) := Reps.front hp rfl h rfl
end Go.Proofs.YtnnofopfbeklbaaGreatW.PrintWords
end
section
namespace Go.Proofs.YtnnofopfbeklbaaGreatW.PrintLast
section
variable {P : Program} {ops : Array Oper} {Q : Exit → Act → World → Prop} {md : Region.Mode} {T : Bool × List (List Nat × List Nat)} {B : List Nat} {O : List Nat} {b : Nat → Bool} {i j n : Nat}
end
end Go.Proofs.YtnnofopfbeklbaaGreatW.PrintLast
end
section
namespace Go.Proofs.YtnnofopfbeklbaaGreatW.PrintWords
open Go.RowKit
end Go.Proofs.YtnnofopfbeklbaaGreatW.PrintWords
namespace Go.Proofs.YtnnofopfbeklbaaGreatW.PrintLast
section
variable {ops : Array Oper} {a : Act} {o og : Oper} {g : Nat} {t : Tmp} {u : Bool}
end
end Go.Proofs.YtnnofopfbeklbaaGreatW.PrintLast
end
section
namespace Go.Proofs.YtnnofopfbeklbaaGreatW.PrintWords
open Go.RowKit
section
variable {P : Program} {ops : Array Oper} {rest : List Oper} {o : Oper} {a : Act} {Q : Exit → Act → World → Prop} {W : World}
theorem Qfw (hw : Region.wanted o (yielded ops a.tmps) = true) (h : wpList P ops Q ({ o with guard := none } :: rest) a W) : wpList P ops Q (o :: rest) a W := by
  have h1 : Region.wanted { o with guard := none } (yielded ops a.tmps) = true := rfl
  unfold wpList at h ⊢
  rw [if_pos h1] at h
  rw [if_pos hw]
  exact h
end
end Go.Proofs.YtnnofopfbeklbaaGreatW.PrintWords
end
section
namespace Go.Proofs.YtnnofopfbeklbaaGreatW.PrintWords
open Go.RowKit
namespace Kd
section
variable {α : Type} {d : Kd α} {e base n cap g : Nat} {ok ok' okp : Nat → Prop} {w w1 W : World} {v v1 : Value} {xs ys : List α}
end
section
variable {P : Program} {ops : Array Oper} {rest : List Oper} {o : Oper} {a : Act} {Q : Exit → Act → World → Prop} {Kc : Act → World → Prop} {α : Type}
end
end Kd
end Go.Proofs.YtnnofopfbeklbaaGreatW.PrintWords
end
section
namespace Go.Proofs.YtnnofopfbeklbaaGreatW.PrintMore
open Go.RowKit Go.Proofs.YtnnofopfbeklbaaGreatW.PrintWords
namespace Kd
open Go.Proofs.YtnnofopfbeklbaaGreatW.PrintWords.Kd
end Kd
namespace Kd
open Go.Proofs.YtnnofopfbeklbaaGreatW.PrintWords.Kd
section
variable {α : Type} {d : Kd α} {e base g N : Nat} {ok : Nat → Prop} {W w1 : World} {u v : Value} {xs : List α}
end
end Kd
theorem Qfx (k k' : IntKind) (x y : Int) : Builtin.max2 (.int k x) (.int k' y) = pure (.int k (if x < y then y else x)) := by simp only [Builtin.max2, gt_iff_lt]
theorem Qfy (k k' : IntKind) (x y : Int) : Builtin.min2 (.int k x) (.int k' y) = pure (.int k (if y < x then y else x)) := by simp only [Builtin.min2]
theorem Qfz (ats : Array TypeId) (ty : TypeId) (a b : Value) : Builtin.max_ ats ty #[a, b] = (Builtin.max2 a b >>= fun s => pure s) := by simp only [Builtin.max_, List.foldlM_cons, List.foldlM_nil]
theorem Qga (ats : Array TypeId) (ty : TypeId) (a b : Value) : Builtin.min_ ats ty #[a, b] = (Builtin.min2 a b >>= fun s => pure s) := by simp only [Builtin.min_, List.foldlM_cons, List.foldlM_nil]
theorem Qgb (ats : Array TypeId) (ty : TypeId) (a b c : Value) : Builtin.max_ ats ty #[a, b, c] = (Builtin.max2 a b >>= fun s => Builtin.max2 s c >>= fun s => pure s) := by simp only [Builtin.max_, List.foldlM_cons, List.foldlM_nil]
theorem Qgc (ats : Array TypeId) (ty : TypeId) (a b c : Value) : Builtin.min_ ats ty #[a, b, c] = (Builtin.min2 a b >>= fun s => Builtin.min2 s c >>= fun s => pure s) := by simp only [Builtin.min_, List.foldlM_cons, List.foldlM_nil]
theorem Qgd (ats : Array TypeId) (ty : TypeId) (a b c d : Value) : Builtin.max_ ats ty #[a, b, c, d] = (Builtin.max2 a b >>= fun s => Builtin.max2 s c >>= fun s => Builtin.max2 s d >>= fun s => pure s) := by simp only [Builtin.max_, List.foldlM_cons, List.foldlM_nil]
theorem Qge (ats : Array TypeId) (ty : TypeId) (a b c d : Value) : Builtin.min_ ats ty #[a, b, c, d] = (Builtin.min2 a b >>= fun s => Builtin.min2 s c >>= fun s => Builtin.min2 s d >>= fun s => pure s) := by simp only [Builtin.min_, List.foldlM_cons, List.foldlM_nil]
end Go.Proofs.YtnnofopfbeklbaaGreatW.PrintMore
namespace Go.Proofs.YtnnofopfbeklbaaGreatW.PrintWords
open Go.RowKit
section
variable {P : Program} {ops : Array Oper} {rest : List Oper} {o : Oper} {a : Act} {Q : Exit → Act → World → Prop} {W : World}
theorem Qgf {f : FuncId} {as_ : Array Operand} {ts : Array TypeId} (_ho : o.op = .call { callee := .value (.func f), args := as_, argTypes := ts }) (h : wpList P ops Q (o :: rest) a W) : wpList P ops Q (o :: rest) a W := h
theorem Qgg {b : Builtin} {xs : Array Operand} {ts : Array TypeId} (_ho : o.op = .call { callee := .builtin b, args := xs, argTypes := ts }) (h : wpList P ops Q (o :: rest) a W) : wpList P ops Q (o :: rest) a W := h
end
def mx (a b : Int) : Int := if a < b then b else a
def shl (k : IntKind) (x y : Int) : Int := k.wrap (x * 2 ^ min y.toNat k.bits)
def shr (k : IntKind) (x y : Int) : Int := x / 2 ^ min y.toNat k.bits
theorem Qgh {k : IntKind} {x y j : Int} (h : shl k x y = j) (hy : y ≤ k.bits) : k.wrap (x * 2 ^ y.toNat) = j := by rw [← h]; unfold shl; rw [Nat.min_eq_left (by omega)]
theorem shr_small {k : IntKind} {x y j : Int} (h : shr k x y = j) (hy : y ≤ k.bits) : x / 2 ^ y.toNat = j := by rw [← h]; unfold shr; rw [Nat.min_eq_left (by omega)]
namespace Kd
section
variable {α : Type} {d : Kd α} {e base : Nat} {ok : Nat → Prop} {W w1 : World} {v : Value} {xs : List α}
end
section
variable {α : Type} {d : Kd α} {e base g n cap : Nat} {ok oki okp : Nat → Prop} {W : World} {xs : List α} {i : Int} {c : List Value}
end
section
variable {α : Type} {d : Kd α} {e base b b' g N : Nat} {ok ok1 : Nat → Prop} {W W2 w1 : World} {u v : Value} {xs ys : List α} {S : Nat → Prop}
end
end Kd
end Go.Proofs.YtnnofopfbeklbaaGreatW.PrintWords
namespace Go.Proofs.YtnnofopfbeklbaaGreatW.PrintWords
open Go.RowKit
namespace Kd
def V {α : Type} (d : Kd α) (_e : Nat) (W : World) (_base : Nat) (ok : Nat → Prop) (v : Value) (xs : List α) : Prop := ∃ A c, v = .slice A xs.length c ∧ xs.length ≤ c ∧ F d W ok A xs.length xs
section
variable {α β : Type} {d : Kd α} {e base base' n m c g N' lo hi : Nat} {ok ok' S : Nat → Prop} {w W w1 : World} {A : Option Addr} {ad : Addr} {u v v1 : Value} {xs : List α}
theorem V_nil (d : Kd α) (e : Nat) (W : World) (base : Nat) (ok : Nat → Prop) : V d e W base ok (.slice none 0 0) [] := ⟨none, 0, rfl, Nat.le_refl _, F_nil d W ok⟩
end
end Kd
end Go.Proofs.YtnnofopfbeklbaaGreatW.PrintWords
end
section
namespace Go.Proofs.YtnnofopfbeklbaaGreat.C
open Go.RowKit Go.Proofs.YtnnofopfbeklbaaGreatW.PrintWords Go.Proofs.YtnnofopfbeklbaaGreatW.PrintLast Go.Proofs.YtnnofopfbeklbaaGreatW.PrintMore
attribute [local go_sem] Qfx Qfy Qfz Qga Qgb Qgc Qgd Qge
def errW : Option Int → Value
 | none => .nilIface
 | some c => .iface 0 (.int .i64 c)
theorem Qgi : errW none = .nilIface := rfl
theorem Qgj (c : Int) : errW (some c) = .iface 0 (.int .i64 c) := rfl
theorem Qgk : (Tryz.prog.info? 5).map (fun i => (i.zero, i.size, i.bytes)) = some (some (.int .u8 0), 1, 1) := by kernel_rfl
theorem info34 : (Tryz.prog.info? 34).map (fun i => (i.zero, i.size, i.bytes)) = some (some (.int .u64 0), 1, 8) := by kernel_rfl
theorem info39 : (Tryz.prog.info? 39).map (fun i => (i.zero, i.size, i.bytes)) = some (some (.agg #[(.bool false), (.int .u64 0), (.string ⟨#[]⟩), (.string ⟨#[]⟩)]), 4, 48) := by kernel_rfl
theorem Qgl : (Tryz.prog.info? 122).map (fun i => (i.zero, i.size, i.bytes)) = some (some (.agg #[(.int .u64 0), (.int .u32 0)]), 2, 16) := by kernel_rfl
structure S39 where
  f0 : Bool
  f1 : Int
  f2 : ByteArray
  f3 : ByteArray
def z39 : S39 := ⟨false, (0 : Int), (⟨#[]⟩ : ByteArray), (⟨#[]⟩ : ByteArray)⟩
def k39 : Kd S39 := Kd.iso (Kd.pair Kd.bool (Kd.pair (Kd.int .u64) (Kd.pair Kd.string Kd.string))) (fun x : S39 => (x.f0, x.f1, x.f2, x.f3))
theorem k39_open {w : World} {x : S39} {cs : List Value} (h : k39.K w x cs) : cs = [.bool x.f0, .int .u64 x.f1, .string x.f2, .string x.f3] := by
 obtain ⟨_, _, rfl, rfl, ⟨_, _, rfl, rfl, ⟨_, _, rfl, rfl, rfl⟩⟩⟩ := h
 exact rfl
theorem k39_mkM (w : World) (base : Nat) (ok : Nat → Prop) (x : S39)  : k39.M w base ok x [.bool x.f0, .int .u64 x.f1, .string x.f2, .string x.f3] := ⟨[.bool x.f0], [.int .u64 x.f1, .string x.f2, .string x.f3], rfl, rfl, ⟨[.int .u64 x.f1], [.string x.f2, .string x.f3], rfl, rfl, ⟨[.string x.f2], [.string x.f3], rfl, rfl, rfl⟩⟩⟩
def Qgm (xs : List S39) (i : Int) : S39 := xs.getD i.toNat z39
theorem at_T39 {w : World} {A : Option Addr} {n : Nat} {xs : List S39} (h : Kd.C k39 w A n xs) (i : Int) (h0 : 0 ≤ i) (h1 : i < n) : ∃ ad , A = some ad ∧ w.cell? (ad.add (i.toNat * 4)) = some (.bool (Qgm xs i).f0) ∧ w.cell? ⟨(ad.add (i.toNat * 4)).block, (ad.add (i.toNat * 4)).off + 1, none⟩ = some (.int .u64 (Qgm xs i).f1) ∧ w.cell? ⟨(ad.add (i.toNat * 4)).block, (ad.add (i.toNat * 4)).off + 2, none⟩ = some (.string (Qgm xs i).f2) ∧ w.cell? ⟨(ad.add (i.toNat * 4)).block, (ad.add (i.toNat * 4)).off + 3, none⟩ = some (.string (Qgm xs i).f3) := by
 obtain ⟨ad, c, e, _, hK, hc0⟩ := Kd.C_get h z39 i h0 h1
 have hc : ∀ j u, c[j]? = some u → w.cell? (ad.add (i.toNat * 4 + j)) = some u := hc0
 obtain rfl := k39_open hK
 exact ⟨ad, e, hc 0 _ rfl, by rw [← Qde _ _ 1 (by omega)]; exact hc 1 _ rfl, by rw [← Qde _ _ 2 (by omega)]; exact hc 2 _ rfl, by rw [← Qde _ _ 3 (by omega)]; exact hc 3 _ rfl⟩
structure S27 where
  f0 : Int
  f1 : Int
structure S117 where
  f0 : Int
  f1 : Int
def z117 : S117 := ⟨(0 : Int), (0 : Int)⟩
def k117 : Kd S117 := Kd.iso (Kd.pair (Kd.int .u64) (Kd.int .u32)) (fun x : S117 => (x.f0, x.f1))
theorem k117_open {w : World} {x : S117} {cs : List Value} (h : k117.K w x cs) : cs = [.int .u64 x.f0, .int .u32 x.f1] := by
 obtain ⟨_, _, rfl, rfl, rfl⟩ := h
 exact rfl
theorem k117_openM {w : World} {base : Nat} {ok : Nat → Prop} {x : S117} {cs : List Value} (h : k117.M w base ok x cs) : cs = [.int .u64 x.f0, .int .u32 x.f1] := by
 obtain ⟨_, _, rfl, rfl, rfl⟩ := h
 exact rfl
theorem k117_mkM (w : World) (base : Nat) (ok : Nat → Prop) (x : S117)  : k117.M w base ok x [.int .u64 x.f0, .int .u32 x.f1] := ⟨[.int .u64 x.f0], [.int .u32 x.f1], rfl, rfl, rfl⟩
def Qgn (xs : List S117) (i : Int) : S117 := xs.getD i.toNat z117
theorem Qgo {w : World} {A : Option Addr} {n : Nat} {xs : List S117} (h : Kd.C k117 w A n xs) (i : Int) (h0 : 0 ≤ i) (h1 : i < n) : ∃ ad , A = some ad ∧ w.cell? (ad.add (i.toNat * 2)) = some (.int .u64 (Qgn xs i).f0) ∧ w.cell? ⟨(ad.add (i.toNat * 2)).block, (ad.add (i.toNat * 2)).off + 1, none⟩ = some (.int .u32 (Qgn xs i).f1) := by
 obtain ⟨ad, c, e, _, hK, hc0⟩ := Kd.C_get h z117 i h0 h1
 have hc : ∀ j u, c[j]? = some u → w.cell? (ad.add (i.toNat * 2 + j)) = some u := hc0
 obtain rfl := k117_open hK
 exact ⟨ad, e, hc 0 _ rfl, by rw [← Qde _ _ 1 (by omega)]; exact hc 1 _ rfl⟩
structure S69 where
  f0 : Int
  f1 : Int
structure S122 where
  f0 : Int
  f1 : Int
def z122 : S122 := ⟨(0 : Int), (0 : Int)⟩
def k122 : Kd S122 := Kd.iso (Kd.pair (Kd.int .u64) (Kd.int .u32)) (fun x : S122 => (x.f0, x.f1))
theorem k122_open {w : World} {x : S122} {cs : List Value} (h : k122.K w x cs) : cs = [.int .u64 x.f0, .int .u32 x.f1] := by
 obtain ⟨_, _, rfl, rfl, rfl⟩ := h
 exact rfl
theorem Qgp (w : World) (base : Nat) (ok : Nat → Prop) (x : S122)  : k122.M w base ok x [.int .u64 x.f0, .int .u32 x.f1] := ⟨[.int .u64 x.f0], [.int .u32 x.f1], rfl, rfl, rfl⟩
def Qgq (xs : List S122) (i : Int) : S122 := xs.getD i.toNat z122
theorem Qgr {w : World} {A : Option Addr} {n : Nat} {xs : List S122} (h : Kd.C k122 w A n xs) (i : Int) (h0 : 0 ≤ i) (h1 : i < n) : ∃ ad , A = some ad ∧ w.cell? (ad.add (i.toNat * 2)) = some (.int .u64 (Qgq xs i).f0) ∧ w.cell? ⟨(ad.add (i.toNat * 2)).block, (ad.add (i.toNat * 2)).off + 1, none⟩ = some (.int .u32 (Qgq xs i).f1) := by
 obtain ⟨ad, c, e, _, hK, hc0⟩ := Kd.C_get h z122 i h0 h1
 have hc : ∀ j u, c[j]? = some u → w.cell? (ad.add (i.toNat * 2 + j)) = some u := hc0
 obtain rfl := k122_open hK
 exact ⟨ad, e, hc 0 _ rfl, by rw [← Qde _ _ 1 (by omega)]; exact hc 1 _ rfl⟩
theorem qq_b {b : Nat} {w w' : World} (h : Below b w w' := by repeat (first | (with_reducible first | exact HB.out | apply Qco | apply Qcq | apply Qee | refine below_set ?_ (Aside0.out (by assumption))) | exact HB.out)) : Below b w w' := h
theorem qq_c {W : World} {g : Nat} {t : TypeId} {cs : Array Value} (v : Value) (h : W.heap[g]? = some (.cells cs t (0, 0))) (i : Nat) (hv : cs[i]? = some v) : W.cell? ⟨g, i, none⟩ = some v := (Qdj h i).trans hv
theorem qq_h {w w' : World} (hb : Below w.heap.size w w') {p : Addr} {v : Value} (h : w.cell? p = some v) : w'.cell? p = some v := (hb.cell (World.block_lt_of_cell? w _ h)).trans h
theorem qq_s {w W : World} {g : Nat} (hg : g = W.heap.size) (h : Below w.heap.size w W := by exact qq_b) : w.heap.size ≤ g := hg ▸ Qdz h
theorem qq_e {P : Program} {ops : Array Oper} {o : Oper} {rest : List Oper} {a : Act} {Q : Exit → Act → World → Prop} {W : World} (N : Tmp) (cs : Array Value) (t : TypeId) (h : ∀ g, g = W.heap.size → ∀ w1, w1.heap[g]? = some (.cells cs t (0, 0)) → Below W.heap.size W w1 → wpList P ops Q rest (a.put o.dst (.pointer (some ⟨g, 0, none⟩))) w1) (hgd : o.guard = none := by rfl) (hd : o.dst = some N := by rfl) (hrun : (execOp a.eval o).run P W = .ok (.value (.pointer (some ⟨W.heap.size, 0, none⟩))) (W.alloc (.cells cs t (0, 0))) := by first | (go_simp; done) | (go_simp; rfl)) : wpList P ops Q (o :: rest) a W := box_event hgd hd hrun h
theorem qq_0 {p : Prop} (h : p := by (with_reducible repeat (first | apply Qds | apply Qdr | apply Qdq)); exact Aside0.out (by assumption)) : p := h
theorem qq_1 {p : Prop} (h : p := by (try simp only [List.map_toArray, List.map_cons, List.map_nil]); first | done | rfl | (simp only [List.length_drop, List.length_take]; rfl)) : p := h
theorem qq_2 {p : Prop} (h : p := by simp only [Act.put, List.setIfInBounds_toArray, List.set_cons_zero, List.set_cons_succ, Qew, Qex]; rfl) : p := h
theorem qq_3 {p : Prop} (h : p := by first | (simp only [Qeq, Act.put, List.setIfInBounds_toArray, List.set_cons_zero, List.set_cons_succ]; done) | (simp only [Qeq, Act.put, List.setIfInBounds_toArray, List.set_cons_zero, List.set_cons_succ]; rfl)) : p := h
theorem qq_4 {p : Prop} (h : p := by (with_reducible repeat (first | apply Kd.R_alloc | apply Kd.R_drewN | apply Kd.R_drew)); exact Aside0.out (by assumption)) : p := h
theorem qq_5 {p : Prop} (h : p := by first | rfl | (simp; done) | (simp [*]; done)) : p := h
theorem qq_6 {p : Prop} (h : p := by kernel_rfl) : p := h
theorem qq_7 {p : Prop} (h : p := by first | (with_reducible assumption) | assumption) : p := h
theorem qq_8 {p : Prop} (h : p := by (with_reducible repeat (first | apply Qds | apply Qdr | apply Qdq)); refine Qed (cs := #[.int .u64 ((Qgq l0 x11_1).f0), .int .u32 0]) ?_ 1 _ rfl; (with_reducible repeat (first | apply Qds | apply Qdr | apply Qdq)); refine Qed (cs := #[.int .u64 0, .int .u32 0]) ?_ 0 _ rfl; (with_reducible repeat (first | apply Qds | apply Qdr | apply Qdq)); exact BK429.out) : p := h
theorem qq_9 {p : Prop} (h : p := by (repeat (first | (with_reducible first | apply Qds | apply Qdr | apply Qdq) | refine Qdh ?_ (Aside0.out (by assumption)) _)); exact Aside0.out (by assumption)) : p := h
theorem qq_10 {p : Prop} (h : p := by (with_reducible repeat (first | apply Kd.R_alloc | apply Kd.R_drewN | apply Kd.R_drew)); exact (Kd.R_mono (Kd.R_far (p := ⟨gb447, 1, none⟩) (Kd.R_far (p := ⟨gb447, 0, none⟩) (Kd.R_mono HO_3.out (fun k_ hk => (⟨hk, hk.2⟩ : _ ∧ k_ ≠ gb447))) (fun _ hk => hk.2) (.int .u64 ((Qgq l0 x8_1).f0))) (fun _ hk => hk.2) (.int .u32 ((Qgq l0 x8_1).f1))) (fun _ h_ => h_.1))) : p := h
theorem qq_11 {p : Prop} (h : p := by simp only [List.map_toArray, List.map_cons, List.map_nil]; rfl) : p := h
theorem qq_12 {p : Prop} (h : p := by first | (go_simp; done) | (go_simp; rfl)) : p := h
theorem qq_13 {p : Prop} (h : p := by (try simp only [List.map_toArray, List.map_cons, List.map_nil]); first | done | (simp only [hji2]; rfl) | rfl | (simp only [List.length_drop, List.length_take]; rfl)) : p := h
theorem qq_14 {p : Prop} (h : p := by have := HN.out; omega) : p := h
def Qam.l0 : Nat → List (S39) → Int → Int → List (S39) → Int → Int → Option (Bool)
 | 0, _, _, _, _, _, _ => none
 | k + 1, x0, x1, x2, x9, x10, x11 => if x11 < x10 then (if 0 ≤ x11 then (if x11 < (x9.length : Int) then (if (((Qgm x9 x11).f2).size : Int) > x2 then (some false) else (if (((Qgm x9 x11).f3).size : Int) > x2 then (some false) else (Qam.l0 k x0 x1 x2 x9 x10 (wrap64 (x11 + 1))))) else (none)) else (none)) else (some (decide ((x0.length : Int) ≤ x1)))
def Qam.f (k : Nat) (l0 : List (S39)) (a1 : Int) (a2 : Int) : Option (Bool) := Qam.l0 k l0 a1 a2 l0 (l0.length : Int) 0
theorem Qam.calls (k : Nat) (A0 : Option Addr) (c0 : Nat) (l0 : List (S39)) (a1 : Int) (a2 : Int) (r : Bool) (w : World) (hr0 : Kd.C k39 w A0 l0.length l0) (hc0 : l0.length ≤ c0) (h : Qam.f k l0 a1 a2 = some r) :
  Calls Tryz.prog 16 #[.slice A0 l0.length c0, .int .i64 a1, .int .i64 a2] w fun e w' => e = .returned (.bool r) ∧ Below w.heap.size w w' := by
 have hu39 := Tryz.underlying39
 have HR0 := QA hr0
 have HC0 := QA hc0
 clear hr0 hc0
 have HB := QA (Below.refl w.heap.size w)
 have H : (Qam.l0 k l0 a1 a2 l0 (l0.length : Int) 0) = some r := h
 clear h
 have H' := QA H
 clear H
 go_enter Tryz.func16, Tryz.ntmps16
 go_wp2
 go_loopg [11] k (fun kq v11 w' => ∃ (x11_1 : Int), v11 = .int .i64 x11_1 ∧ Aside0 (Qam.l0 kq l0 a1 a2 l0 (l0.length : Int) x11_1 = some r) ∧ Aside0 (kq ≤ k) ∧ Aside0 (Below w.heap.size w w'))
 case atStart => exact ⟨(0), qq_5, H', ⟨Nat.le_refl _⟩, ⟨qq_b⟩⟩
 case round =>
  clear H'
  obtain ⟨x11_1, rfl, HA, HK1, HB⟩ := hrel
  cases gk with
  | zero => exact absurd HA.out (by simp [Qam.l0])
  | succ k1 =>
   have H := HA.out
   clear HA
   simp only [Qam.l0] at H
   by_cases c4 : x11_1 < (l0.length : Int)
   ·rw [if_pos c4] at H
    have c4b0 : decide (x11_1 < (l0.length : Int)) = true := decide_eq_true c4
    clear c4
    by_cases c5 : 0 ≤ x11_1
    ·rw [if_pos c5] at H
     have c5b0 : decide (0 ≤ x11_1) = true := decide_eq_true c5
     clear c5
     by_cases c6 : x11_1 < (l0.length : Int)
     ·rw [if_pos c6] at H
      have c6b0 : decide (x11_1 < (l0.length : Int)) = true := decide_eq_true c6
      clear c6
      by_cases c7 : (((Qgm l0 x11_1).f2).size : Int) > a2
      ·rw [if_pos c7] at H
       have c7b0 : decide (a2 < (((Qgm l0 x11_1).f2).size : Int)) = true := decide_eq_true c7
       clear c7
       obtain rfl := Option.some.inj H
       have p101 : 0 ≤ (x11_1 : Int) := of_decide_eq_true qq_7
       have q101 : x11_1 < (l0.length : Int) := of_decide_eq_true qq_7
       obtain ⟨ad101, e101, hx101_0, hx101_1, hx101_2, hx101_3⟩ := at_T39 HR0.out x11_1 p101 q101
       cases e101
       replace hx101_0 := qq_h HB.out hx101_0
       replace hx101_1 := qq_h HB.out hx101_1
       replace hx101_2 := qq_h HB.out hx101_2
       replace hx101_3 := qq_h HB.out hx101_3
       replace p101 := eq_true p101
       replace q101 := eq_true q101
       go_wp2_with (first | ((with_reducible refine Qef (N := 8) rfl ?_); (try (refine Qfw (by rfl) ?_; dsimp only)); refine qq_e 8 #[.bool false, .int .u64 0, .string (⟨#[]⟩ : ByteArray), .string (⟨#[]⟩ : ByteArray)] 39 ?_; intro gb102 hg w8 hbox hb; have n0_ := QA (Qea qq_b hb); have n1_ := QA (hbox); have n2_ := QA ((qq_s hg : w.heap.size ≤ gb102)); have n3_ := QA ((qq_s hg : w.heap.size ≤ gb102)); clear HB; have HB := n0_; have BK102 := n1_; have GW102 := n2_; have GE102 := n3_; clear n0_ n1_ n2_ n3_; clear hb hbox hg; have hcz9_0 := qq_c (.bool false) BK102.out 0 rfl; have hcz9_1 := qq_c (.int .u64 0) BK102.out 1 rfl; have hcz9_2 := qq_c (.string (⟨#[]⟩ : ByteArray)) BK102.out 2 rfl; have hcz9_3 := qq_c (.string (⟨#[]⟩ : ByteArray)) BK102.out 3 rfl; have hfz9_0 := Qdk BK102.out 0; have hfz9_1 := Qdk BK102.out 1; have hfz9_2 := Qdk BK102.out 2; have hfz9_3 := Qdk BK102.out 3))
       go_ret
       exact ⟨by first | rfl | (simp [Qgi, Qgj] <;> rfl) | (simp [*, Qgi, Qgj] <;> rfl), qq_b⟩
      ·rw [if_neg c7] at H
       have c7b0 : decide (a2 < (((Qgm l0 x11_1).f2).size : Int)) = false := decide_eq_false c7
       clear c7
       by_cases c10 : (((Qgm l0 x11_1).f3).size : Int) > a2
       ·rw [if_pos c10] at H
        have c10b0 : decide (a2 < (((Qgm l0 x11_1).f3).size : Int)) = true := decide_eq_true c10
        clear c10
        obtain rfl := Option.some.inj H
        have p101 : 0 ≤ (x11_1 : Int) := of_decide_eq_true qq_7
        have q101 : x11_1 < (l0.length : Int) := of_decide_eq_true qq_7
        obtain ⟨ad101, e101, hx101_0, hx101_1, hx101_2, hx101_3⟩ := at_T39 HR0.out x11_1 p101 q101
        cases e101
        replace hx101_0 := qq_h HB.out hx101_0
        replace hx101_1 := qq_h HB.out hx101_1
        replace hx101_2 := qq_h HB.out hx101_2
        replace hx101_3 := qq_h HB.out hx101_3
        replace p101 := eq_true p101
        replace q101 := eq_true q101
        go_wp2_with (first | ((with_reducible refine Qef (N := 8) rfl ?_); (try (refine Qfw (by rfl) ?_; dsimp only)); refine qq_e 8 #[.bool false, .int .u64 0, .string (⟨#[]⟩ : ByteArray), .string (⟨#[]⟩ : ByteArray)] 39 ?_; intro gb102 hg w11 hbox hb; have n0_ := QA (Qea qq_b hb); have n1_ := QA (hbox); have n2_ := QA ((qq_s hg : w.heap.size ≤ gb102)); have n3_ := QA ((qq_s hg : w.heap.size ≤ gb102)); clear HB; have HB := n0_; have BK102 := n1_; have GW102 := n2_; have GE102 := n3_; clear n0_ n1_ n2_ n3_; clear hb hbox hg; have hcz12_0 := qq_c (.bool false) BK102.out 0 rfl; have hcz12_1 := qq_c (.int .u64 0) BK102.out 1 rfl; have hcz12_2 := qq_c (.string (⟨#[]⟩ : ByteArray)) BK102.out 2 rfl; have hcz12_3 := qq_c (.string (⟨#[]⟩ : ByteArray)) BK102.out 3 rfl; have hfz12_0 := Qdk BK102.out 0; have hfz12_1 := Qdk BK102.out 1; have hfz12_2 := Qdk BK102.out 2; have hfz12_3 := Qdk BK102.out 3))
        go_ret
        exact ⟨by first | rfl | (simp [Qgi, Qgj] <;> rfl) | (simp [*, Qgi, Qgj] <;> rfl), qq_b⟩
       ·rw [if_neg c10] at H
        have c10b0 : decide (a2 < (((Qgm l0 x11_1).f3).size : Int)) = false := decide_eq_false c10
        clear c10
        have H' := QA H
        clear H
        have p101 : 0 ≤ (x11_1 : Int) := of_decide_eq_true qq_7
        have q101 : x11_1 < (l0.length : Int) := of_decide_eq_true qq_7
        obtain ⟨ad101, e101, hx101_0, hx101_1, hx101_2, hx101_3⟩ := at_T39 HR0.out x11_1 p101 q101
        cases e101
        replace hx101_0 := qq_h HB.out hx101_0
        replace hx101_1 := qq_h HB.out hx101_1
        replace hx101_2 := qq_h HB.out hx101_2
        replace hx101_3 := qq_h HB.out hx101_3
        replace p101 := eq_true p101
        replace q101 := eq_true q101
        go_wp2_with (first | ((with_reducible refine Qef (N := 8) rfl ?_); (try (refine Qfw (by rfl) ?_; dsimp only)); refine qq_e 8 #[.bool false, .int .u64 0, .string (⟨#[]⟩ : ByteArray), .string (⟨#[]⟩ : ByteArray)] 39 ?_; intro gb102 hg w13 hbox hb; have n0_ := QA (Qea qq_b hb); have n1_ := QA (hbox); have n2_ := QA ((qq_s hg : w.heap.size ≤ gb102)); have n3_ := QA ((qq_s hg : w.heap.size ≤ gb102)); clear HB; have HB := n0_; have BK102 := n1_; have GW102 := n2_; have GE102 := n3_; clear n0_ n1_ n2_ n3_; clear hb hbox hg; have hcz14_0 := qq_c (.bool false) BK102.out 0 rfl; have hcz14_1 := qq_c (.int .u64 0) BK102.out 1 rfl; have hcz14_2 := qq_c (.string (⟨#[]⟩ : ByteArray)) BK102.out 2 rfl; have hcz14_3 := qq_c (.string (⟨#[]⟩ : ByteArray)) BK102.out 3 rfl; have hfz14_0 := Qdk BK102.out 0; have hfz14_1 := Qdk BK102.out 1; have hfz14_2 := Qdk BK102.out 2; have hfz14_3 := Qdk BK102.out 3))
        go_roundg k1
        case measure => have := HK1.out; omega
        case rel => exact ⟨(wrap64 (x11_1 + 1)), qq_5, H', ⟨by have := HK1.out; omega⟩, ⟨qq_b⟩⟩
     ·rw [if_neg c6] at H
      exact absurd H (by simp)
    ·rw [if_neg c5] at H
     exact absurd H (by simp)
   ·rw [if_neg c4] at H
    have c4b0 : decide (x11_1 < (l0.length : Int)) = false := decide_eq_false c4
    clear c4
    obtain rfl := Option.some.inj H
    go_wp2
    go_ret
    exact ⟨by first | rfl | (simp [Qgi, Qgj] <;> rfl) | (simp [*, Qgi, Qgj] <;> rfl), qq_b⟩
def Qbc.f (a0_0 : Int) (a0_1 : Int) : Option (Bool) := if a0_0 ≥ 12 then (if a0_0 ≤ 24 then (if a0_1 ≥ 1 then (some (decide (a0_1 ≤ 65536))) else (some false)) else (some false)) else (some false)
theorem Qbc.calls (a0_0 : Int) (a0_1 : Int) (r : Bool) (w : World) (h : Qbc.f a0_0 a0_1 = some r) :
  Calls Tryz.prog 54 #[.agg #[.int .u8 a0_0, .int .u32 a0_1]] w fun e w' => e = .returned (.bool r) ∧ Below w.heap.size w w' := by
 have hu27 := Tryz.underlying27
 have HB := QA (Below.refl w.heap.size w)
 have H : (if a0_0 ≥ 12 then (if a0_0 ≤ 24 then (if a0_1 ≥ 1 then (some (decide (a0_1 ≤ 65536))) else (some false)) else (some false)) else (some false)) = some r := h
 clear h
 by_cases c2 : a0_0 ≥ 12
 ·rw [if_pos c2] at H
  have c2b0 : decide (12 ≤ a0_0) = true := decide_eq_true c2
  clear c2
  by_cases c3 : a0_0 ≤ 24
  ·rw [if_pos c3] at H
   have c3b0 : decide (a0_0 ≤ 24) = true := decide_eq_true c3
   clear c3
   by_cases c4 : a0_1 ≥ 1
   ·rw [if_pos c4] at H
    have c4b0 : decide (1 ≤ a0_1) = true := decide_eq_true c4
    clear c4
    obtain rfl := Option.some.inj H
    go_enter Tryz.func54, Tryz.ntmps54
    go_wp2_with (first | ((with_reducible refine Qef (N := 1) rfl ?_); refine qq_e 1 #[.int .u8 a0_0, .int .u32 a0_1] 27 ?_; intro gb308 hg w5 hbox hb; have n0_ := QA (Qea qq_b hb); have n1_ := QA (hbox); have n2_ := QA ((qq_s hg : w.heap.size ≤ gb308)); have n3_ := QA ((qq_s hg : w.heap.size ≤ gb308)); clear HB; have HB := n0_; have BK308 := n1_; have GW308 := n2_; have GE308 := n3_; clear n0_ n1_ n2_ n3_; clear hb hbox hg; have hcz6_0 := qq_c (.int .u8 a0_0) BK308.out 0 rfl; have hcz6_1 := qq_c (.int .u32 a0_1) BK308.out 1 rfl; have hfz6_0 := Qdk BK308.out 0; have hfz6_1 := Qdk BK308.out 1))
    go_ret
    exact ⟨by first | rfl | (simp [Qgi, Qgj] <;> rfl) | (simp [*, Qgi, Qgj] <;> rfl), qq_b⟩
   ·rw [if_neg c4] at H
    have c4b0 : decide (1 ≤ a0_1) = false := decide_eq_false c4
    clear c4
    obtain rfl := Option.some.inj H
    go_enter Tryz.func54, Tryz.ntmps54
    go_wp2_with (first | ((with_reducible refine Qef (N := 1) rfl ?_); refine qq_e 1 #[.int .u8 a0_0, .int .u32 a0_1] 27 ?_; intro gb308 hg w7 hbox hb; have n0_ := QA (Qea qq_b hb); have n1_ := QA (hbox); have n2_ := QA ((qq_s hg : w.heap.size ≤ gb308)); have n3_ := QA ((qq_s hg : w.heap.size ≤ gb308)); clear HB; have HB := n0_; have BK308 := n1_; have GW308 := n2_; have GE308 := n3_; clear n0_ n1_ n2_ n3_; clear hb hbox hg; have hcz8_0 := qq_c (.int .u8 a0_0) BK308.out 0 rfl; have hcz8_1 := qq_c (.int .u32 a0_1) BK308.out 1 rfl; have hfz8_0 := Qdk BK308.out 0; have hfz8_1 := Qdk BK308.out 1))
    go_ret
    exact ⟨by first | rfl | (simp [Qgi, Qgj] <;> rfl) | (simp [*, Qgi, Qgj] <;> rfl), qq_b⟩
  ·rw [if_neg c3] at H
   have c3b0 : decide (a0_0 ≤ 24) = false := decide_eq_false c3
   clear c3
   obtain rfl := Option.some.inj H
   go_enter Tryz.func54, Tryz.ntmps54
   go_wp2_with (first | ((with_reducible refine Qef (N := 1) rfl ?_); refine qq_e 1 #[.int .u8 a0_0, .int .u32 a0_1] 27 ?_; intro gb308 hg w9 hbox hb; have n0_ := QA (Qea qq_b hb); have n1_ := QA (hbox); have n2_ := QA ((qq_s hg : w.heap.size ≤ gb308)); have n3_ := QA ((qq_s hg : w.heap.size ≤ gb308)); clear HB; have HB := n0_; have BK308 := n1_; have GW308 := n2_; have GE308 := n3_; clear n0_ n1_ n2_ n3_; clear hb hbox hg; have hcz10_0 := qq_c (.int .u8 a0_0) BK308.out 0 rfl; have hcz10_1 := qq_c (.int .u32 a0_1) BK308.out 1 rfl; have hfz10_0 := Qdk BK308.out 0; have hfz10_1 := Qdk BK308.out 1))
   go_ret
   exact ⟨by first | rfl | (simp [Qgi, Qgj] <;> rfl) | (simp [*, Qgi, Qgj] <;> rfl), qq_b⟩
 ·rw [if_neg c2] at H
  have c2b0 : decide (12 ≤ a0_0) = false := decide_eq_false c2
  clear c2
  obtain rfl := Option.some.inj H
  go_enter Tryz.func54, Tryz.ntmps54
  go_wp2_with (first | ((with_reducible refine Qef (N := 1) rfl ?_); refine qq_e 1 #[.int .u8 a0_0, .int .u32 a0_1] 27 ?_; intro gb308 hg w11 hbox hb; have n0_ := QA (Qea qq_b hb); have n1_ := QA (hbox); have n2_ := QA ((qq_s hg : w.heap.size ≤ gb308)); have n3_ := QA ((qq_s hg : w.heap.size ≤ gb308)); clear HB; have HB := n0_; have BK308 := n1_; have GW308 := n2_; have GE308 := n3_; clear n0_ n1_ n2_ n3_; clear hb hbox hg; have hcz12_0 := qq_c (.int .u8 a0_0) BK308.out 0 rfl; have hcz12_1 := qq_c (.int .u32 a0_1) BK308.out 1 rfl; have hfz12_0 := Qdk BK308.out 0; have hfz12_1 := Qdk BK308.out 1))
  go_ret
  exact ⟨by first | rfl | (simp [Qgi, Qgj] <;> rfl) | (simp [*, Qgi, Qgj] <;> rfl), qq_b⟩
def Qbf.f (a0_0 : Int) (a0_1 : Int) (a1 : Int) : Option (Bool) := (Qbc.f a0_0 a0_1).bind fun t563 => (if t563 = true then (some (decide (a1 < (IntKind.u64.wrap (a0_1))))) else (some false))
theorem Qbf.calls (a0_0 : Int) (a0_1 : Int) (a1 : Int) (r : Bool) (w : World) (h : Qbf.f a0_0 a0_1 a1 = some r) :
  Calls Tryz.prog 19 #[.agg #[.int .u8 a0_0, .int .u32 a0_1], .int .u64 a1] w fun e w' => e = .returned (.bool r) ∧ Below w.heap.size w w' := by
 have hu27 := Tryz.underlying27
 have HB := QA (Below.refl w.heap.size w)
 have H : ((Qbc.f a0_0 a0_1).bind fun t563 => (if t563 = true then (some (decide (a1 < (IntKind.u64.wrap (a0_1))))) else (some false))) = some r := h
 clear h
 replace H := Option.bind_eq_some_iff.mp H
 obtain ⟨t563, A30, H⟩ := H
 replace H : (if t563 = true then (some (decide (a1 < (IntKind.u64.wrap (a0_1))))) else (some false)) = some r := H
 have A3 := QA A30
 clear A30
 by_cases c4 : t563 = true
 ·subst c4
  have H1 : (some (decide (a1 < (IntKind.u64.wrap (a0_1))))) = some r := by rw [if_pos rfl] at H; exact H
  clear H
  have H := H1
  clear H1
  obtain rfl := Option.some.inj H
  go_enter Tryz.func19, Tryz.ntmps19
  go_wp2_with (first | ((with_reducible refine Qef (N := 2) rfl ?_); refine qq_e 2 #[.int .u8 a0_0, .int .u32 a0_1] 27 ?_; intro gb562 hg w5 hbox hb; have n0_ := QA (Qea qq_b hb); have n1_ := QA (hbox); have n2_ := QA ((qq_s hg : w.heap.size ≤ gb562)); have n3_ := QA ((qq_s hg : w.heap.size ≤ gb562)); clear HB; have HB := n0_; have BK562 := n1_; have GW562 := n2_; have GE562 := n3_; clear n0_ n1_ n2_ n3_; clear hb hbox hg; have hcz6_0 := qq_c (.int .u8 a0_0) BK562.out 0 rfl; have hcz6_1 := qq_c (.int .u32 a0_1) BK562.out 1 rfl; have hfz6_0 := Qdk BK562.out 0; have hfz6_1 := Qdk BK562.out 1) | ((with_reducible refine Qgf (f := 54) rfl ?_); refine Qeu (some 6) rfl rfl Tryz.func54 qq_6 rfl #[.agg #[.int .u8 a0_0, .int .u32 a0_1]] rfl qq_1 ?_; (with_reducible refine (Qbc.calls a0_0 a0_1 true _ A3.out).mono ?_); rintro e w7 ⟨rfl, hb⟩; refine ⟨_, rfl, ?_⟩; have n0_ := QA (Qdt (g := gb562) (o := .cells #[.int .u8 a0_0, .int .u32 a0_1] 27 (0, 0)) qq_0 hb); have n1_ := QA (Qea qq_b hb); clear BK562; clear HB; have BK562 := n0_; have HB := n1_; clear n0_ n1_; (try clear hb); (try clear hb2); (try clear hk); (try clear hi); have hcz8_0 := qq_c (.int .u8 a0_0) BK562.out 0 rfl; have hcz8_1 := qq_c (.int .u32 a0_1) BK562.out 1 rfl; have hfz8_0 := Qdk BK562.out 0; have hfz8_1 := Qdk BK562.out 1))
  go_ret
  exact ⟨by first | rfl | (simp [Qgi, Qgj] <;> rfl) | (simp [*, Qgi, Qgj] <;> rfl), qq_b⟩
 ·replace c4 := Bool.eq_false_iff.mpr c4
  subst c4
  have H1 : (some false) = some r := by rw [if_neg (show ¬ (false = true) by decide)] at H; exact H
  clear H
  have H := H1
  clear H1
  obtain rfl := Option.some.inj H
  go_enter Tryz.func19, Tryz.ntmps19
  go_wp2_with (first | ((with_reducible refine Qef (N := 2) rfl ?_); refine qq_e 2 #[.int .u8 a0_0, .int .u32 a0_1] 27 ?_; intro gb562 hg w9 hbox hb; have n0_ := QA (Qea qq_b hb); have n1_ := QA (hbox); have n2_ := QA ((qq_s hg : w.heap.size ≤ gb562)); have n3_ := QA ((qq_s hg : w.heap.size ≤ gb562)); clear HB; have HB := n0_; have BK562 := n1_; have GW562 := n2_; have GE562 := n3_; clear n0_ n1_ n2_ n3_; clear hb hbox hg; have hcz10_0 := qq_c (.int .u8 a0_0) BK562.out 0 rfl; have hcz10_1 := qq_c (.int .u32 a0_1) BK562.out 1 rfl; have hfz10_0 := Qdk BK562.out 0; have hfz10_1 := Qdk BK562.out 1) | ((with_reducible refine Qgf (f := 54) rfl ?_); refine Qeu (some 6) rfl rfl Tryz.func54 qq_6 rfl #[.agg #[.int .u8 a0_0, .int .u32 a0_1]] rfl qq_1 ?_; (with_reducible refine (Qbc.calls a0_0 a0_1 false _ A3.out).mono ?_); rintro e w11 ⟨rfl, hb⟩; refine ⟨_, rfl, ?_⟩; have n0_ := QA (Qdt (g := gb562) (o := .cells #[.int .u8 a0_0, .int .u32 a0_1] 27 (0, 0)) qq_0 hb); have n1_ := QA (Qea qq_b hb); clear BK562; clear HB; have BK562 := n0_; have HB := n1_; clear n0_ n1_; (try clear hb); (try clear hb2); (try clear hk); (try clear hi)))
  go_ret
  exact ⟨by first | rfl | (simp [Qgi, Qgj] <;> rfl) | (simp [*, Qgi, Qgj] <;> rfl), qq_b⟩
end Go.Proofs.YtnnofopfbeklbaaGreat.C
end
