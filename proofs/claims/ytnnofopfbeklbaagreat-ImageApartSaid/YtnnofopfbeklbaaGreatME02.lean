/- Texts of this claim's author and of the print of its functions, merged by merge.py. -/
import Derived.Test.YtnnofopfbeklbaaGreatME01
import Derived.Test.YtnnofopfbeklbaaGreatME00
import Derived.Laws.StructEq
import Derived.Test.YtnnofopfbeklbaaGreatProg
import Derived.Below
import Derived.Deep.Draws
import Derived.Deep.AppendLies
import Derived.Maps.AppendAt
import Derived.OwnWalk
import Derived.Laws.BytesArg
import Derived.Laws.MakeOwn
import Derived.Laws.OwnMore
import Derived.Deep.OwnRows
import Derived.Tactics
import Derived.Lib.ConvBytes
import Derived.Laws.Slices
import Derived.WalkKit
import Derived.KernelRfl
import Derived.RowKit3
import Derived.Deep.LoopGhost
import Derived.Deep.QuietTactic
import Derived.BigQuiet
import Derived.WideLaws
import Derived.Deep.DeepCutAuto
import Derived.Deep.CutBlock
import Derived.Deep.RegionHeld3
import Derived.Laws.Rows
import Derived.Lib.AppendStr
import Derived.ArgAppend
import Derived.Laws.IdiomCopy
import Derived.OrdersHeld
import Derived.Laws.BitsLemmas
import Derived.RowKit
set_option linter.unusedVariables false
set_option linter.unusedSimpArgs false
set_option maxHeartbeats 8000000
set_option maxRecDepth 100000
section
namespace Go.Proofs.YtnnofopfbeklbaaGreatW.PrintWords
open Go.RowKit
section
variable {w w' u : World} {m B g : Nat} {o : Obj} {row : Option Nat} {S : Nat → Prop} {a : Addr} {v : Value}
end
namespace Kd
section
variable {α : Type} {d : Kd α} {e base n m : Nat} {ok : Nat → Prop} {w w' : World} {v : Value} {A : Option Addr} {xs : List α}
end
end Kd
section
variable {P : Program} {d : Nat} {xs ys : Array Value} {f : Field} {fs : List Field} {a b : Value} {r s : Bool} {w : World}
theorem eqf_last (hn : (f.name == "_") = false) (ha : (part f.type xs f.offset).run P w = .ok a w) (hb : (part f.type ys f.offset).run P w = .ok b w) (he : (Op.equalIn d f.type a b).run P w = .ok r w) : (Op.eqFields d xs ys [f]).run P w = .ok r w := by
  have hn' : f.name ≠ "_" := by simpa using hn
  simp only [Op.eqFields, if_pos hn', Sem.run_bind, ha, hb, he, Result.andThen_ok]
  cases r <;> simp
theorem Qef (hn : (f.name == "_") = false) (ha : (part f.type xs f.offset).run P w = .ok a w) (hb : (part f.type ys f.offset).run P w = .ok b w) (he : (Op.equalIn d f.type a b).run P w = .ok r w) (hr : (Op.eqFields d xs ys fs).run P w = .ok s w) : (Op.eqFields d xs ys (f :: fs)).run P w = .ok (r && s) w := by
  have hn' : f.name ≠ "_" := by simpa using hn
  rw [Op.eqFields]
  simp only [if_pos hn', Sem.run_bind, ha, hb, he, Result.andThen_ok]
  cases r
  · simp
  · simpa using hr
theorem eqA_of {t : TypeId} {fs : Array Field} (hu : P.underlying t = some (.struct fs)) (hp : P.stoodInHeld t = false) (h : (Op.eqFields d xs ys fs.toList).run P w = .ok r w) : (Op.equalIn (d + 1) t (.agg xs) (.agg ys)).run P w = .ok r w := by
  have hf : P.fieldsOf t = fs := by simp [Program.fieldsOf, hu]
  rw [run_equalIn_struct (P := P) w d t xs ys (by rw [hf]; exact hu) hp, hf]
  exact h
end
end Go.Proofs.YtnnofopfbeklbaaGreatW.PrintWords
end
section
namespace Go.Proofs.YtnnofopfbeklbaaGreatW.PrintWords
theorem Reps.one {α : Type} {R : α → List Value → Prop} {ps : List α} {cs : List Value} {p : α} {v : Value} (hp : R p [v]) (h : Reps R 1 ps cs) : Reps R 1 (p :: ps) (v :: cs) := by
  refine ⟨by simp [h.1], fun j q hq => ?_⟩
  cases j with
  | zero =>
    simp only [List.getElem?_cons_zero, Option.some.injEq] at hq
    subst hq
    simpa using hp
  | succ j =>
    simp only [List.getElem?_cons_succ] at hq
    have h1 := h.2 j q hq
    simpa [Nat.mul_one] using h1
theorem Reps.front {α : Type} {R : α → List Value → Prop} {size : Nat} {ps : List α} {cs c all : List Value} {p : α} (hp : R p c) (hc : c.length = size) (h : Reps R size ps cs) (ha : c ++ cs = all) : Reps R size (p :: ps) all := by
  subst ha
  refine ⟨by rw [List.length_append, hc, h.1, List.length_cons, Nat.succ_mul, Nat.add_comm], fun j q hq => ?_⟩
  cases j with
  | zero =>
    simp only [List.getElem?_cons_zero, Option.some.injEq] at hq
    subst hq
    rw [Nat.zero_mul, List.drop_zero, List.take_append_of_le_length (by omega), List.take_of_length_le (by omega)]
    exact hp
  | succ j =>
    simp only [List.getElem?_cons_succ] at hq
    have h1 := h.2 j q hq
    rw [Nat.succ_mul, List.drop_append, List.drop_of_length_le (by rw [hc]; exact Nat.le_add_left _ _), List.nil_append, hc, Nat.add_sub_cancel]
    exact h1
theorem Reps.c2 {α : Type} {R : α → List Value → Prop} {ps : List α} {cs : List Value} {p : α} {va vb : Value} (hp : R p [va, vb]) (h : Reps R 2 ps cs) : Reps R 2 (p :: ps) (va :: vb :: cs) := Reps.front hp rfl h rfl
theorem Reps.c3 {α : Type} {R : α → List Value → Prop} {ps : List α} {cs : List Value} {p : α} {va vb vc : Value} (hp : R p [va, vb, vc]) (h : Reps R 3 ps cs) : Reps R 3 (p :: ps) (va :: vb :: vc :: cs) := Reps.front hp rfl h rfl
theorem Reps.c4 {α : Type} {R : α → List Value → Prop} {ps : List α} {cs : List Value} {p : α} {va vb vc vd : Value} (hp : R p [va, vb, vc, vd]) (h : Reps R 4 ps cs) : Reps R 4 (p :: ps) (va :: vb :: vc :: vd :: cs) := Reps.front hp rfl h rfl
theorem Reps.c5 {α : Type} {R : α → List Value → Prop} {ps : List α} {cs : List Value} {p : α} {va vb vc vd ve : Value} (hp : R p [va, vb, vc, vd, ve]) (h : Reps R 5 ps cs) : Reps R 5 (p :: ps) (va :: vb :: vc :: vd :: ve :: cs) := Reps.front hp rfl h rfl
theorem Reps.c6 {α : Type} {R : α → List Value → Prop} {ps : List α} {cs : List Value} {p : α} {va vb vc vd ve vf : Value} (hp : R p [va, vb, vc, vd, ve, vf]) (h : Reps R 6 ps cs) : Reps R 6 (p :: ps) (va :: vb :: vc :: vd :: ve :: vf :: cs) := Reps.front hp rfl h rfl
theorem Reps.c7 {α : Type} {R : α → List Value → Prop} {ps : List α} {cs : List Value} {p : α} {va vb vc vd ve vf vg : Value} (hp : R p [va, vb, vc, vd, ve, vf, vg]) (h : Reps R 7 ps cs) : Reps R 7 (p :: ps) (va :: vb :: vc :: vd :: ve :: vf :: vg :: cs) := Reps.front hp rfl h rfl
theorem Reps.c8 {α : Type} {R : α → List Value → Prop} {ps : List α} {cs : List Value} {p : α} {va vb vc vd ve vf vg vh : Value} (hp : R p [va, vb, vc, vd, ve, vf, vg, vh]) (h : Reps R 8 ps cs) : Reps R 8 (p :: ps) (va :: vb :: vc :: vd :: ve :: vf :: vg :: vh :: cs) := Reps.front hp rfl h rfl
theorem Reps.c9 {α : Type} {R : α → List Value → Prop} {ps : List α} {cs : List Value} {p : α} {va vb vc vd ve vf vg vh vi : Value} (hp : R p [va, vb, vc, vd, ve, vf, vg, vh, vi]) (h : Reps R 9 ps cs) : Reps R 9 (p :: ps) (va :: vb :: vc :: vd :: ve :: vf :: vg :: vh :: vi :: cs) := Reps.front hp rfl h rfl
theorem Reps.c10 {α : Type} {R : α → List Value → Prop} {ps : List α} {cs : List Value} {p : α} {va vb vc vd ve vf vg vh vi vj : Value} (hp : R p [va, vb, vc, vd, ve, vf, vg, vh, vi, vj]) (h : Reps R 10 ps cs) : Reps R 10 (p :: ps) (va :: vb :: vc :: vd :: ve :: vf :: vg :: vh :: vi :: vj :: cs) := Reps.front hp rfl h rfl
end Go.Proofs.YtnnofopfbeklbaaGreatW.PrintWords
end
section
namespace Go.Proofs.YtnnofopfbeklbaaGreatW.PrintLast
section
variable {P : Program} {ops : Array Oper} {Q : Exit → Act → World → Prop} {md : Region.Mode} {T : Bool × List (List Nat × List Nat)} {B : List Nat} {O : List Nat} {b : Nat → Bool} {i j n : Nat}
end
end Go.Proofs.YtnnofopfbeklbaaGreatW.PrintLast
end
section
namespace Go.Proofs.YtnnofopfbeklbaaGreatW.PrintWords
open Go.RowKit
end Go.Proofs.YtnnofopfbeklbaaGreatW.PrintWords
namespace Go.Proofs.YtnnofopfbeklbaaGreatW.PrintLast
section
variable {ops : Array Oper} {a : Act} {o og : Oper} {g : Nat} {t : Tmp} {u : Bool}
end
end Go.Proofs.YtnnofopfbeklbaaGreatW.PrintLast
end
section
namespace Go.Proofs.YtnnofopfbeklbaaGreatW.PrintWords
open Go.RowKit
section
variable {P : Program} {ops : Array Oper} {rest : List Oper} {o : Oper} {a : Act} {Q : Exit → Act → World → Prop} {W : World}
theorem Qeg (hw : Region.wanted o (yielded ops a.tmps) = true) (h : wpList P ops Q ({ o with guard := none } :: rest) a W) : wpList P ops Q (o :: rest) a W := by
  have h1 : Region.wanted { o with guard := none } (yielded ops a.tmps) = true := rfl
  unfold wpList at h ⊢
  rw [if_pos h1] at h
  rw [if_pos hw]
  exact h
end
end Go.Proofs.YtnnofopfbeklbaaGreatW.PrintWords
end
section
namespace Go.Proofs.YtnnofopfbeklbaaGreatW.PrintWords
open Go.RowKit
namespace Kd
section
variable {α : Type} {d : Kd α} {e base n cap g : Nat} {ok ok' okp : Nat → Prop} {w w1 W : World} {v v1 : Value} {xs ys : List α}
end
section
variable {P : Program} {ops : Array Oper} {rest : List Oper} {o : Oper} {a : Act} {Q : Exit → Act → World → Prop} {Kc : Act → World → Prop} {α : Type}
end
end Kd
end Go.Proofs.YtnnofopfbeklbaaGreatW.PrintWords
end
section
namespace Go.Proofs.YtnnofopfbeklbaaGreatW.PrintMore
open Go.RowKit Go.Proofs.YtnnofopfbeklbaaGreatW.PrintWords
namespace Kd
open Go.Proofs.YtnnofopfbeklbaaGreatW.PrintWords.Kd
end Kd
namespace Kd
open Go.Proofs.YtnnofopfbeklbaaGreatW.PrintWords.Kd
section
variable {α : Type} {d : Kd α} {e base g N : Nat} {ok : Nat → Prop} {W w1 : World} {u v : Value} {xs : List α}
end
end Kd
theorem Qeh (k k' : IntKind) (x y : Int) : Builtin.max2 (.int k x) (.int k' y) = pure (.int k (if x < y then y else x)) := by simp only [Builtin.max2, gt_iff_lt]
theorem Qei (k k' : IntKind) (x y : Int) : Builtin.min2 (.int k x) (.int k' y) = pure (.int k (if y < x then y else x)) := by simp only [Builtin.min2]
theorem Qej (ats : Array TypeId) (ty : TypeId) (a b : Value) : Builtin.max_ ats ty #[a, b] = (Builtin.max2 a b >>= fun s => pure s) := by simp only [Builtin.max_, List.foldlM_cons, List.foldlM_nil]
theorem Qek (ats : Array TypeId) (ty : TypeId) (a b : Value) : Builtin.min_ ats ty #[a, b] = (Builtin.min2 a b >>= fun s => pure s) := by simp only [Builtin.min_, List.foldlM_cons, List.foldlM_nil]
theorem Qel (ats : Array TypeId) (ty : TypeId) (a b c : Value) : Builtin.max_ ats ty #[a, b, c] = (Builtin.max2 a b >>= fun s => Builtin.max2 s c >>= fun s => pure s) := by simp only [Builtin.max_, List.foldlM_cons, List.foldlM_nil]
theorem Qem (ats : Array TypeId) (ty : TypeId) (a b c : Value) : Builtin.min_ ats ty #[a, b, c] = (Builtin.min2 a b >>= fun s => Builtin.min2 s c >>= fun s => pure s) := by simp only [Builtin.min_, List.foldlM_cons, List.foldlM_nil]
theorem Qen (ats : Array TypeId) (ty : TypeId) (a b c d : Value) : Builtin.max_ ats ty #[a, b, c, d] = (Builtin.max2 a b >>= fun s => Builtin.max2 s c >>= fun s => Builtin.max2 s d >>= fun s => pure s) := by simp only [Builtin.max_, List.foldlM_cons, List.foldlM_nil]
theorem Qeo (ats : Array TypeId) (ty : TypeId) (a b c d : Value) : Builtin.min_ ats ty #[a, b, c, d] = (Builtin.min2 a b >>= fun s => Builtin.min2 s c >>= fun s => Builtin.min2 s d >>= fun s => pure s) := by simp only [Builtin.min_, List.foldlM_cons, List.foldlM_nil]
end Go.Proofs.YtnnofopfbeklbaaGreatW.PrintMore
namespace Go.Proofs.YtnnofopfbeklbaaGreatW.PrintWords
open Go.RowKit
section
variable {P : Program} {ops : Array Oper} {rest : List Oper} {o : Oper} {a : Act} {Q : Exit → Act → World → Prop} {W : World}
theorem Qep {f : FuncId} {as_ : Array Operand} {ts : Array TypeId} (_ho : o.op = .call { callee := .value (.func f), args := as_, argTypes := ts }) (h : wpList P ops Q (o :: rest) a W) : wpList P ops Q (o :: rest) a W := h
theorem Qeq {b : Builtin} {xs : Array Operand} {ts : Array TypeId} (_ho : o.op = .call { callee := .builtin b, args := xs, argTypes := ts }) (h : wpList P ops Q (o :: rest) a W) : wpList P ops Q (o :: rest) a W := h
end
def mx (a b : Int) : Int := if a < b then b else a
def shl (k : IntKind) (x y : Int) : Int := k.wrap (x * 2 ^ min y.toNat k.bits)
def shr (k : IntKind) (x y : Int) : Int := x / 2 ^ min y.toNat k.bits
theorem Qer {k : IntKind} {x y j : Int} (h : shl k x y = j) (hy : y ≤ k.bits) : k.wrap (x * 2 ^ y.toNat) = j := by rw [← h]; unfold shl; rw [Nat.min_eq_left (by omega)]
theorem shr_small {k : IntKind} {x y j : Int} (h : shr k x y = j) (hy : y ≤ k.bits) : x / 2 ^ y.toNat = j := by rw [← h]; unfold shr; rw [Nat.min_eq_left (by omega)]
namespace Kd
section
variable {α : Type} {d : Kd α} {e base : Nat} {ok : Nat → Prop} {W w1 : World} {v : Value} {xs : List α}
end
section
variable {α : Type} {d : Kd α} {e base g n cap : Nat} {ok oki okp : Nat → Prop} {W : World} {xs : List α} {i : Int} {c : List Value}
end
section
variable {α : Type} {d : Kd α} {e base b b' g N : Nat} {ok ok1 : Nat → Prop} {W W2 w1 : World} {u v : Value} {xs ys : List α} {S : Nat → Prop}
end
end Kd
end Go.Proofs.YtnnofopfbeklbaaGreatW.PrintWords
namespace Go.Proofs.YtnnofopfbeklbaaGreatW.PrintWords
open Go.RowKit
namespace Kd
def V {α : Type} (d : Kd α) (_e : Nat) (W : World) (_base : Nat) (ok : Nat → Prop) (v : Value) (xs : List α) : Prop := ∃ A c, v = .slice A xs.length c ∧ xs.length ≤ c ∧ F d W ok A xs.length xs
section
variable {α β : Type} {d : Kd α} {e base base' n m c g N' lo hi : Nat} {ok ok' S : Nat → Prop} {w W w1 : World} {A : Option Addr} {ad : Addr} {u v v1 : Value} {xs : List α}
theorem V_nil (d : Kd α) (e : Nat) (W : World) (base : Nat) (ok : Nat → Prop) : V d e W base ok (.slice none 0 0) [] := ⟨none, 0, rfl, Nat.le_refl _, F_nil d W ok⟩
end
end Kd
end Go.Proofs.YtnnofopfbeklbaaGreatW.PrintWords
end
section
namespace Go.Proofs.YtnnofopfbeklbaaGreat.C
open Go.RowKit Go.Proofs.YtnnofopfbeklbaaGreatW.PrintWords Go.Proofs.YtnnofopfbeklbaaGreatW.PrintLast Go.Proofs.YtnnofopfbeklbaaGreatW.PrintMore
attribute [local go_sem] Qeh Qei Qej Qek Qel Qem Qen Qeo
def errW : Option Int → Value
 | none => .nilIface
 | some c => .iface 0 (.int .i64 c)
theorem Qes : errW none = .nilIface := rfl
theorem Qet (c : Int) : errW (some c) = .iface 0 (.int .i64 c) := rfl
theorem info3 : (Tryz.prog.info? 3).map (fun i => (i.zero, i.size, i.bytes)) = some (some (.int .i64 0), 1, 8) := by kernel_rfl
theorem Qeu : (Tryz.prog.info? 5).map (fun i => (i.zero, i.size, i.bytes)) = some (some (.int .u8 0), 1, 1) := by kernel_rfl
theorem info22 : (Tryz.prog.info? 22).map (fun i => (i.zero, i.size, i.bytes)) = some (some (.int .u32 0), 1, 4) := by kernel_rfl
theorem info34 : (Tryz.prog.info? 34).map (fun i => (i.zero, i.size, i.bytes)) = some (some (.int .u64 0), 1, 8) := by kernel_rfl
structure S39 where
  f0 : Bool
  f1 : Int
  f2 : ByteArray
  f3 : ByteArray
def z39 : S39 := ⟨false, (0 : Int), (⟨#[]⟩ : ByteArray), (⟨#[]⟩ : ByteArray)⟩
def k39 : Kd S39 := Kd.iso (Kd.pair Kd.bool (Kd.pair (Kd.int .u64) (Kd.pair Kd.string Kd.string))) (fun x : S39 => (x.f0, x.f1, x.f2, x.f3))
theorem k39_open {w : World} {x : S39} {cs : List Value} (h : k39.K w x cs) : cs = [.bool x.f0, .int .u64 x.f1, .string x.f2, .string x.f3] := by
 obtain ⟨_, _, rfl, rfl, ⟨_, _, rfl, rfl, ⟨_, _, rfl, rfl, rfl⟩⟩⟩ := h
 exact rfl
theorem k39_mkM (w : World) (base : Nat) (ok : Nat → Prop) (x : S39)  : k39.M w base ok x [.bool x.f0, .int .u64 x.f1, .string x.f2, .string x.f3] := ⟨[.bool x.f0], [.int .u64 x.f1, .string x.f2, .string x.f3], rfl, rfl, ⟨[.int .u64 x.f1], [.string x.f2, .string x.f3], rfl, rfl, ⟨[.string x.f2], [.string x.f3], rfl, rfl, rfl⟩⟩⟩
def Qev (xs : List S39) (i : Int) : S39 := xs.getD i.toNat z39
theorem Qew {w : World} {A : Option Addr} {n : Nat} {xs : List S39} (h : Kd.C k39 w A n xs) (i : Int) (h0 : 0 ≤ i) (h1 : i < n) : ∃ ad , A = some ad ∧ w.cell? (ad.add (i.toNat * 4)) = some (.bool (Qev xs i).f0) ∧ w.cell? ⟨(ad.add (i.toNat * 4)).block, (ad.add (i.toNat * 4)).off + 1, none⟩ = some (.int .u64 (Qev xs i).f1) ∧ w.cell? ⟨(ad.add (i.toNat * 4)).block, (ad.add (i.toNat * 4)).off + 2, none⟩ = some (.string (Qev xs i).f2) ∧ w.cell? ⟨(ad.add (i.toNat * 4)).block, (ad.add (i.toNat * 4)).off + 3, none⟩ = some (.string (Qev xs i).f3) := by
 obtain ⟨ad, c, e, _, hK, hc0⟩ := Kd.C_get h z39 i h0 h1
 have hc : ∀ j u, c[j]? = some u → w.cell? (ad.add (i.toNat * 4 + j)) = some u := hc0
 obtain rfl := k39_open hK
 exact ⟨ad, e, hc 0 _ rfl, by rw [← Qce _ _ 1 (by omega)]; exact hc 1 _ rfl, by rw [← Qce _ _ 2 (by omega)]; exact hc 2 _ rfl, by rw [← Qce _ _ 3 (by omega)]; exact hc 3 _ rfl⟩
structure S27 where
  f0 : Int
  f1 : Int
structure S117 where
  f0 : Int
  f1 : Int
def z117 : S117 := ⟨(0 : Int), (0 : Int)⟩
def k117 : Kd S117 := Kd.iso (Kd.pair (Kd.int .u64) (Kd.int .u32)) (fun x : S117 => (x.f0, x.f1))
theorem k117_open {w : World} {x : S117} {cs : List Value} (h : k117.K w x cs) : cs = [.int .u64 x.f0, .int .u32 x.f1] := by
 obtain ⟨_, _, rfl, rfl, rfl⟩ := h
 exact rfl
theorem k117_openM {w : World} {base : Nat} {ok : Nat → Prop} {x : S117} {cs : List Value} (h : k117.M w base ok x cs) : cs = [.int .u64 x.f0, .int .u32 x.f1] := by
 obtain ⟨_, _, rfl, rfl, rfl⟩ := h
 exact rfl
theorem k117_mkM (w : World) (base : Nat) (ok : Nat → Prop) (x : S117)  : k117.M w base ok x [.int .u64 x.f0, .int .u32 x.f1] := ⟨[.int .u64 x.f0], [.int .u32 x.f1], rfl, rfl, rfl⟩
def Qex (xs : List S117) (i : Int) : S117 := xs.getD i.toNat z117
theorem Qey {w : World} {A : Option Addr} {n : Nat} {xs : List S117} (h : Kd.C k117 w A n xs) (i : Int) (h0 : 0 ≤ i) (h1 : i < n) : ∃ ad , A = some ad ∧ w.cell? (ad.add (i.toNat * 2)) = some (.int .u64 (Qex xs i).f0) ∧ w.cell? ⟨(ad.add (i.toNat * 2)).block, (ad.add (i.toNat * 2)).off + 1, none⟩ = some (.int .u32 (Qex xs i).f1) := by
 obtain ⟨ad, c, e, _, hK, hc0⟩ := Kd.C_get h z117 i h0 h1
 have hc : ∀ j u, c[j]? = some u → w.cell? (ad.add (i.toNat * 2 + j)) = some u := hc0
 obtain rfl := k117_open hK
 exact ⟨ad, e, hc 0 _ rfl, by rw [← Qce _ _ 1 (by omega)]; exact hc 1 _ rfl⟩
structure S69 where
  f0 : Int
  f1 : Int
structure S122 where
  f0 : Int
  f1 : Int
theorem qq_b {b : Nat} {w w' : World} (h : Below b w w' := by repeat (first | (with_reducible first | exact HB.out | apply Qbq | apply Qbs | apply Qdc | refine below_set ?_ (Aside0.out (by assumption))) | exact HB.out)) : Below b w w' := h
theorem qq_c {W : World} {g : Nat} {t : TypeId} {cs : Array Value} (v : Value) (h : W.heap[g]? = some (.cells cs t (0, 0))) (i : Nat) (hv : cs[i]? = some v) : W.cell? ⟨g, i, none⟩ = some v := (Qcj h i).trans hv
theorem qq_h {w w' : World} (hb : Below w.heap.size w w') {p : Addr} {v : Value} (h : w.cell? p = some v) : w'.cell? p = some v := (hb.cell (World.block_lt_of_cell? w _ h)).trans h
theorem qq_s {w W : World} {g : Nat} (hg : g = W.heap.size) (h : Below w.heap.size w W := by exact qq_b) : w.heap.size ≤ g := hg ▸ Qcy h
theorem qq_e {P : Program} {ops : Array Oper} {o : Oper} {rest : List Oper} {a : Act} {Q : Exit → Act → World → Prop} {W : World} (N : Tmp) (cs : Array Value) (t : TypeId) (h : ∀ g, g = W.heap.size → ∀ w1, w1.heap[g]? = some (.cells cs t (0, 0)) → Below W.heap.size W w1 → wpList P ops Q rest (a.put o.dst (.pointer (some ⟨g, 0, none⟩))) w1) (hgd : o.guard = none := by rfl) (hd : o.dst = some N := by rfl) (hrun : (execOp a.eval o).run P W = .ok (.value (.pointer (some ⟨W.heap.size, 0, none⟩))) (W.alloc (.cells cs t (0, 0))) := by first | (go_simp; done) | (go_simp; rfl)) : wpList P ops Q (o :: rest) a W := box_event hgd hd hrun h
theorem qq_0 {p : Prop} (h : p := by (with_reducible repeat (first | apply Qcr | apply Qcq | apply Qcp)); exact Aside0.out (by assumption)) : p := h
theorem qq_1 {p : Prop} (h : p := by (try simp only [List.map_toArray, List.map_cons, List.map_nil]); first | done | rfl | (simp only [List.length_drop, List.length_take]; rfl)) : p := h
theorem qq_2 {p : Prop} (h : p := by (with_reducible repeat (first | apply Kd.R_alloc | apply Kd.R_drewN | apply Kd.R_drew)); exact Aside0.out (by assumption)) : p := h
theorem qq_3 {p : Prop} (h : p := by (with_reducible repeat (first | apply Qcr | apply Qcq | apply Qcp)); refine Qdb (cs := #[.int .u8 t548, .int .u32 0]) ?_ 1 _ rfl; (with_reducible repeat (first | apply Qcr | apply Qcq | apply Qcp)); refine Qdb (cs := #[.int .u8 0, .int .u32 0]) ?_ 0 _ rfl; (with_reducible repeat (first | apply Qcr | apply Qcq | apply Qcp)); exact BK550.out) : p := h
theorem qq_4 {p : Prop} (h : p := by simp only [Act.put, List.setIfInBounds_toArray, List.set_cons_zero, List.set_cons_succ, Qdo, i32_w]; rfl) : p := h
theorem qq_5 {p : Prop} (h : p := by first | (with_reducible assumption) | assumption) : p := h
theorem qq_6 {p : Prop} (h : p := by kernel_rfl) : p := h
theorem qq_7 {p : Prop} (h : p := by (repeat (first | (with_reducible first | apply Qcr | apply Qcq | apply Qcp) | refine Qch ?_ (Aside0.out (by assumption)) _)); exact Aside0.out (by assumption)) : p := h
theorem qq_8 {p : Prop} (h : p := by first | rfl | (simp; done) | (simp [*]; done)) : p := h
theorem qq_9 {p : Prop} (h : p := by (try simp only [List.map_toArray, List.map_cons, List.map_nil]); first | done | (simp only [hji2]; rfl) | rfl | (simp only [List.length_drop, List.length_take]; rfl)) : p := h
theorem qq_10 {p : Prop} (h : p := by have := HN.out; omega) : p := h
theorem qq_11 {p : Prop} (h : p := by rw [List.length_drop]; omega) : p := h
def Qan.l0 : Nat → List (S39) → Int → Int → List (S39) → Int → Int → Option (Bool)
 | 0, _, _, _, _, _, _ => none
 | k + 1, x0, x1, x2, x9, x10, x11 => if x11 < x10 then (if 0 ≤ x11 then (if x11 < (x9.length : Int) then (if (((Qev x9 x11).f2).size : Int) > x2 then (some false) else (if (((Qev x9 x11).f3).size : Int) > x2 then (some false) else (Qan.l0 k x0 x1 x2 x9 x10 (wrap64 (x11 + 1))))) else (none)) else (none)) else (some (decide ((x0.length : Int) ≤ x1)))
def Qan.f (k : Nat) (l0 : List (S39)) (a1 : Int) (a2 : Int) : Option (Bool) := Qan.l0 k l0 a1 a2 l0 (l0.length : Int) 0
theorem Qan.calls (k : Nat) (A0 : Option Addr) (c0 : Nat) (l0 : List (S39)) (a1 : Int) (a2 : Int) (r : Bool) (w : World) (hr0 : Kd.C k39 w A0 l0.length l0) (hc0 : l0.length ≤ c0) (h : Qan.f k l0 a1 a2 = some r) :
  Calls Tryz.prog 16 #[.slice A0 l0.length c0, .int .i64 a1, .int .i64 a2] w fun e w' => e = .returned (.bool r) ∧ Below w.heap.size w w' := by
 have hu39 := Tryz.underlying39
 have HR0 := QA hr0
 have HC0 := QA hc0
 clear hr0 hc0
 have HB := QA (Below.refl w.heap.size w)
 have H : (Qan.l0 k l0 a1 a2 l0 (l0.length : Int) 0) = some r := h
 clear h
 have H' := QA H
 clear H
 go_enter Tryz.func16, Tryz.ntmps16
 go_wp2
 go_loopg [11] k (fun kq v11 w' => ∃ (x11_1 : Int), v11 = .int .i64 x11_1 ∧ Aside0 (Qan.l0 kq l0 a1 a2 l0 (l0.length : Int) x11_1 = some r) ∧ Aside0 (kq ≤ k) ∧ Aside0 (Below w.heap.size w w'))
 case atStart => exact ⟨(0), qq_8, H', ⟨Nat.le_refl _⟩, ⟨qq_b⟩⟩
 case round =>
  clear H'
  obtain ⟨x11_1, rfl, HA, HK1, HB⟩ := hrel
  cases gk with
  | zero => exact absurd HA.out (by simp [Qan.l0])
  | succ k1 =>
   have H := HA.out
   clear HA
   simp only [Qan.l0] at H
   by_cases c4 : x11_1 < (l0.length : Int)
   ·rw [if_pos c4] at H
    have c4b0 : decide (x11_1 < (l0.length : Int)) = true := decide_eq_true c4
    clear c4
    by_cases c5 : 0 ≤ x11_1
    ·rw [if_pos c5] at H
     have c5b0 : decide (0 ≤ x11_1) = true := decide_eq_true c5
     clear c5
     by_cases c6 : x11_1 < (l0.length : Int)
     ·rw [if_pos c6] at H
      have c6b0 : decide (x11_1 < (l0.length : Int)) = true := decide_eq_true c6
      clear c6
      by_cases c7 : (((Qev l0 x11_1).f2).size : Int) > a2
      ·rw [if_pos c7] at H
       have c7b0 : decide (a2 < (((Qev l0 x11_1).f2).size : Int)) = true := decide_eq_true c7
       clear c7
       obtain rfl := Option.some.inj H
       have p101 : 0 ≤ (x11_1 : Int) := of_decide_eq_true qq_5
       have q101 : x11_1 < (l0.length : Int) := of_decide_eq_true qq_5
       obtain ⟨ad101, e101, hx101_0, hx101_1, hx101_2, hx101_3⟩ := Qew HR0.out x11_1 p101 q101
       cases e101
       replace hx101_0 := qq_h HB.out hx101_0
       replace hx101_1 := qq_h HB.out hx101_1
       replace hx101_2 := qq_h HB.out hx101_2
       replace hx101_3 := qq_h HB.out hx101_3
       replace p101 := eq_true p101
       replace q101 := eq_true q101
       go_wp2_with (first | ((with_reducible refine Qde (N := 8) rfl ?_); (try (refine Qeg (by rfl) ?_; dsimp only)); refine qq_e 8 #[.bool false, .int .u64 0, .string (⟨#[]⟩ : ByteArray), .string (⟨#[]⟩ : ByteArray)] 39 ?_; intro gb102 hg w8 hbox hb; have n0_ := QA (Qcz qq_b hb); have n1_ := QA (hbox); have n2_ := QA ((qq_s hg : w.heap.size ≤ gb102)); have n3_ := QA ((qq_s hg : w.heap.size ≤ gb102)); clear HB; have HB := n0_; have BK102 := n1_; have GW102 := n2_; have GE102 := n3_; clear n0_ n1_ n2_ n3_; clear hb hbox hg; have hcz9_0 := qq_c (.bool false) BK102.out 0 rfl; have hcz9_1 := qq_c (.int .u64 0) BK102.out 1 rfl; have hcz9_2 := qq_c (.string (⟨#[]⟩ : ByteArray)) BK102.out 2 rfl; have hcz9_3 := qq_c (.string (⟨#[]⟩ : ByteArray)) BK102.out 3 rfl; have hfz9_0 := Qck BK102.out 0; have hfz9_1 := Qck BK102.out 1; have hfz9_2 := Qck BK102.out 2; have hfz9_3 := Qck BK102.out 3))
       go_ret
       exact ⟨by first | rfl | (simp [Qes, Qet] <;> rfl) | (simp [*, Qes, Qet] <;> rfl), qq_b⟩
      ·rw [if_neg c7] at H
       have c7b0 : decide (a2 < (((Qev l0 x11_1).f2).size : Int)) = false := decide_eq_false c7
       clear c7
       by_cases c10 : (((Qev l0 x11_1).f3).size : Int) > a2
       ·rw [if_pos c10] at H
        have c10b0 : decide (a2 < (((Qev l0 x11_1).f3).size : Int)) = true := decide_eq_true c10
        clear c10
        obtain rfl := Option.some.inj H
        have p101 : 0 ≤ (x11_1 : Int) := of_decide_eq_true qq_5
        have q101 : x11_1 < (l0.length : Int) := of_decide_eq_true qq_5
        obtain ⟨ad101, e101, hx101_0, hx101_1, hx101_2, hx101_3⟩ := Qew HR0.out x11_1 p101 q101
        cases e101
        replace hx101_0 := qq_h HB.out hx101_0
        replace hx101_1 := qq_h HB.out hx101_1
        replace hx101_2 := qq_h HB.out hx101_2
        replace hx101_3 := qq_h HB.out hx101_3
        replace p101 := eq_true p101
        replace q101 := eq_true q101
        go_wp2_with (first | ((with_reducible refine Qde (N := 8) rfl ?_); (try (refine Qeg (by rfl) ?_; dsimp only)); refine qq_e 8 #[.bool false, .int .u64 0, .string (⟨#[]⟩ : ByteArray), .string (⟨#[]⟩ : ByteArray)] 39 ?_; intro gb102 hg w11 hbox hb; have n0_ := QA (Qcz qq_b hb); have n1_ := QA (hbox); have n2_ := QA ((qq_s hg : w.heap.size ≤ gb102)); have n3_ := QA ((qq_s hg : w.heap.size ≤ gb102)); clear HB; have HB := n0_; have BK102 := n1_; have GW102 := n2_; have GE102 := n3_; clear n0_ n1_ n2_ n3_; clear hb hbox hg; have hcz12_0 := qq_c (.bool false) BK102.out 0 rfl; have hcz12_1 := qq_c (.int .u64 0) BK102.out 1 rfl; have hcz12_2 := qq_c (.string (⟨#[]⟩ : ByteArray)) BK102.out 2 rfl; have hcz12_3 := qq_c (.string (⟨#[]⟩ : ByteArray)) BK102.out 3 rfl; have hfz12_0 := Qck BK102.out 0; have hfz12_1 := Qck BK102.out 1; have hfz12_2 := Qck BK102.out 2; have hfz12_3 := Qck BK102.out 3))
        go_ret
        exact ⟨by first | rfl | (simp [Qes, Qet] <;> rfl) | (simp [*, Qes, Qet] <;> rfl), qq_b⟩
       ·rw [if_neg c10] at H
        have c10b0 : decide (a2 < (((Qev l0 x11_1).f3).size : Int)) = false := decide_eq_false c10
        clear c10
        have H' := QA H
        clear H
        have p101 : 0 ≤ (x11_1 : Int) := of_decide_eq_true qq_5
        have q101 : x11_1 < (l0.length : Int) := of_decide_eq_true qq_5
        obtain ⟨ad101, e101, hx101_0, hx101_1, hx101_2, hx101_3⟩ := Qew HR0.out x11_1 p101 q101
        cases e101
        replace hx101_0 := qq_h HB.out hx101_0
        replace hx101_1 := qq_h HB.out hx101_1
        replace hx101_2 := qq_h HB.out hx101_2
        replace hx101_3 := qq_h HB.out hx101_3
        replace p101 := eq_true p101
        replace q101 := eq_true q101
        go_wp2_with (first | ((with_reducible refine Qde (N := 8) rfl ?_); (try (refine Qeg (by rfl) ?_; dsimp only)); refine qq_e 8 #[.bool false, .int .u64 0, .string (⟨#[]⟩ : ByteArray), .string (⟨#[]⟩ : ByteArray)] 39 ?_; intro gb102 hg w13 hbox hb; have n0_ := QA (Qcz qq_b hb); have n1_ := QA (hbox); have n2_ := QA ((qq_s hg : w.heap.size ≤ gb102)); have n3_ := QA ((qq_s hg : w.heap.size ≤ gb102)); clear HB; have HB := n0_; have BK102 := n1_; have GW102 := n2_; have GE102 := n3_; clear n0_ n1_ n2_ n3_; clear hb hbox hg; have hcz14_0 := qq_c (.bool false) BK102.out 0 rfl; have hcz14_1 := qq_c (.int .u64 0) BK102.out 1 rfl; have hcz14_2 := qq_c (.string (⟨#[]⟩ : ByteArray)) BK102.out 2 rfl; have hcz14_3 := qq_c (.string (⟨#[]⟩ : ByteArray)) BK102.out 3 rfl; have hfz14_0 := Qck BK102.out 0; have hfz14_1 := Qck BK102.out 1; have hfz14_2 := Qck BK102.out 2; have hfz14_3 := Qck BK102.out 3))
        go_roundg k1
        case measure => have := HK1.out; omega
        case rel => exact ⟨(wrap64 (x11_1 + 1)), qq_8, H', ⟨by have := HK1.out; omega⟩, ⟨qq_b⟩⟩
     ·rw [if_neg c6] at H
      exact absurd H (by simp)
    ·rw [if_neg c5] at H
     exact absurd H (by simp)
   ·rw [if_neg c4] at H
    have c4b0 : decide (x11_1 < (l0.length : Int)) = false := decide_eq_false c4
    clear c4
    obtain rfl := Option.some.inj H
    go_wp2
    go_ret
    exact ⟨by first | rfl | (simp [Qes, Qet] <;> rfl) | (simp [*, Qes, Qet] <;> rfl), qq_b⟩
theorem eqA39 (d : Nat) (w : World) (x0 y0 : Bool) (x1 y1 : Int) (x2 y2 : ByteArray) (x3 y3 : ByteArray) :
  (Op.equalIn (d + 2) 39 (.agg #[.bool x0, .int .u64 x1, .string x2, .string x3]) (.agg #[.bool y0, .int .u64 y1, .string y2, .string y3])).run Tryz.prog w = .ok (x0 == y0 && (x1 == y1 && (x2.toList == y2.toList && (x3.toList == y3.toList)))) w := by
 refine eqA_of Tryz.underlying39 qq_6 ?_
 refine Qef (by rfl) (by go_simp; rfl) (by go_simp; rfl) (by go_simp) ?_
 refine Qef (by rfl) (by go_simp; rfl) (by go_simp; rfl) (by go_simp) ?_
 refine Qef (by rfl) (by go_simp; rfl) (by go_simp; rfl) (by go_simp) ?_
 exact eqf_last (by rfl) (by go_simp; rfl) (by go_simp; rfl) (by go_simp)
end Go.Proofs.YtnnofopfbeklbaaGreat.C
end
section
namespace Go.Proofs.YtnnofopfbeklbaaGreat.C
open Go.RowKit Go.Proofs.YtnnofopfbeklbaaGreatW.PrintWords Go.Proofs.YtnnofopfbeklbaaGreatW.PrintLast Go.Proofs.YtnnofopfbeklbaaGreatW.PrintMore
attribute [local go_sem] Qeh Qei Qej Qek Qel Qem Qen Qeo
attribute [local go_sem high] eqA39
def Qas.l0 : Nat → List (S39) → List (S39) → Int → Int → Option (Bool)
 | 0, _, _, _, _ => none
 | k + 1, x0, x1, x12, x13 => if x13 < x12 then (if 0 ≤ x13 then (if x13 < (x0.length : Int) then (if x13 < (x1.length : Int) then (if (!(((Qev x0 x13).f0) == ((Qev x1 x13).f0)) || (!(((Qev x0 x13).f1) == ((Qev x1 x13).f1)) || (!((((Qev x0 x13).f2).toList) == (((Qev x1 x13).f2).toList)) || (!((((Qev x0 x13).f3).toList) == (((Qev x1 x13).f3).toList)))))) = true then (some false) else (Qas.l0 k x0 x1 x12 (wrap64 (x13 + 1)))) else (none)) else (none)) else (none)) else (some true)
def Qas.f (k : Nat) (l0 : List (S39)) (l1 : List (S39)) : Option (Bool) := if (l0.length : Int) = (l1.length : Int) then (Qas.l0 k l0 l1 (l0.length : Int) 0) else (some false)
theorem Qas.calls (k : Nat) (A0 : Option Addr) (c0 : Nat) (l0 : List (S39)) (A1 : Option Addr) (c1 : Nat) (l1 : List (S39)) (r : Bool) (w : World) (hr0 : Kd.C k39 w A0 l0.length l0) (hc0 : l0.length ≤ c0) (hr1 : Kd.C k39 w A1 l1.length l1) (hc1 : l1.length ≤ c1) (h : Qas.f k l0 l1 = some r) :
  Calls Tryz.prog 36 #[.slice A0 l0.length c0, .slice A1 l1.length c1] w fun e w' => e = .returned (.bool r) ∧ Drawn0 w w' := by
 have hu39 := Tryz.underlying39
 have HR0 := QA hr0
 have HC0 := QA hc0
 clear hr0 hc0
 have HR1 := QA hr1
 have HC1 := QA hc1
 clear hr1 hc1
 have H : (if (l0.length : Int) = (l1.length : Int) then (Qas.l0 k l0 l1 (l0.length : Int) 0) else (some false)) = some r := h
 clear h
 by_cases c3 : (l0.length : Int) = (l1.length : Int)
 ·rw [if_pos c3] at H
  have c3b0 : ((l0.length : Int) == (l1.length : Int)) = true := beq_iff_eq.mpr c3
  have c3b1 : ((l0.length : Int) != (l1.length : Int)) = false := bne_eq_false_iff_eq.mpr c3
  have c3b2 : (l0.length == l1.length) = true := by first | simpa using c3 | (simp at c3 ⊢; omega)
  clear c3
  have H' := QA H
  clear H
  go_enter Tryz.func36, Tryz.ntmps36
  go_wp2
  repeat (go_quiet (fail); try go_wp2)
  go_loopg [13] k (fun kq v13 w' => ∃ (x13_1 : Int), v13 = .int .i64 x13_1 ∧ Aside0 (Qas.l0 kq l0 l1 (l0.length : Int) x13_1 = some r) ∧ Aside0 (kq ≤ k) ∧ Drawn0 w w')
  case atStart => exact ⟨(0), qq_8, H', ⟨Nat.le_refl _⟩, by repeat (first | exact Drawn0.refl _ | apply Drawn0.step)⟩
  case round =>
   clear H'
   try clear c1
   try clear c3
   try clear c3b0
   try clear c3b1
   try clear c3b2
   obtain ⟨x13_1, rfl, HA, HK1, ⟨m1, rfl⟩⟩ := hrel
   cases gk with
   | zero => exact absurd HA.out (by simp [Qas.l0])
   | succ k1 =>
    have H := HA.out
    clear HA
    simp only [Qas.l0] at H
    by_cases c4 : x13_1 < (l0.length : Int)
    ·rw [if_pos c4] at H
     have c4b0 : decide (x13_1 < (l0.length : Int)) = true := decide_eq_true c4
     clear c4
     by_cases c5 : 0 ≤ x13_1
     ·rw [if_pos c5] at H
      have c5b0 : decide (0 ≤ x13_1) = true := decide_eq_true c5
      clear c5
      by_cases c6 : x13_1 < (l0.length : Int)
      ·rw [if_pos c6] at H
       have c6b0 : decide (x13_1 < (l0.length : Int)) = true := decide_eq_true c6
       clear c6
       by_cases c7 : x13_1 < (l1.length : Int)
       ·rw [if_pos c7] at H
        have c7b0 : decide (x13_1 < (l1.length : Int)) = true := decide_eq_true c7
        clear c7
        by_cases c8 : (!(((Qev l0 x13_1).f0) == ((Qev l1 x13_1).f0)) || (!(((Qev l0 x13_1).f1) == ((Qev l1 x13_1).f1)) || (!((((Qev l0 x13_1).f2).toList) == (((Qev l1 x13_1).f2).toList)) || (!((((Qev l0 x13_1).f3).toList) == (((Qev l1 x13_1).f3).toList)))))) = true
        ·rw [if_pos c8] at H
         have c8b0 : (!(((Qev l0 x13_1).f0) == ((Qev l1 x13_1).f0)) || (!(((Qev l0 x13_1).f1) == ((Qev l1 x13_1).f1)) || (!((((Qev l0 x13_1).f2).toList) == (((Qev l1 x13_1).f2).toList)) || (!((((Qev l0 x13_1).f3).toList) == (((Qev l1 x13_1).f3).toList)))))) = true := c8
         clear c8
         obtain rfl := Option.some.inj H
         have p542 : 0 ≤ (x13_1 : Int) := of_decide_eq_true qq_5
         have q542 : x13_1 < (l0.length : Int) := of_decide_eq_true qq_5
         obtain ⟨ad542, e542, hx542_0, hx542_1, hx542_2, hx542_3⟩ := Qew HR0.out x13_1 p542 q542
         cases e542
         replace p542 := eq_true p542
         replace q542 := eq_true q542
         have p543 : 0 ≤ (x13_1 : Int) := of_decide_eq_true qq_5
         have q543 : x13_1 < (l1.length : Int) := of_decide_eq_true qq_5
         obtain ⟨ad543, e543, hx543_0, hx543_1, hx543_2, hx543_3⟩ := Qew HR1.out x13_1 p543 q543
         cases e543
         replace p543 := eq_true p543
         replace q543 := eq_true q543
         go_wp2
         repeat (go_quiet (fail); try go_wp2)
         go_ret
         exact ⟨by first | rfl | (simp; done) | (simp [*]; done), by repeat (first | exact Drawn0.refl _ | apply Drawn0.step)⟩
        ·rw [if_neg c8] at H
         have c8b0 : (!(((Qev l0 x13_1).f0) == ((Qev l1 x13_1).f0)) || (!(((Qev l0 x13_1).f1) == ((Qev l1 x13_1).f1)) || (!((((Qev l0 x13_1).f2).toList) == (((Qev l1 x13_1).f2).toList)) || (!((((Qev l0 x13_1).f3).toList) == (((Qev l1 x13_1).f3).toList)))))) = false := by simpa using c8
         clear c8
         have H' := QA H
         clear H
         have p542 : 0 ≤ (x13_1 : Int) := of_decide_eq_true qq_5
         have q542 : x13_1 < (l0.length : Int) := of_decide_eq_true qq_5
         obtain ⟨ad542, e542, hx542_0, hx542_1, hx542_2, hx542_3⟩ := Qew HR0.out x13_1 p542 q542
         cases e542
         replace p542 := eq_true p542
         replace q542 := eq_true q542
         have p543 : 0 ≤ (x13_1 : Int) := of_decide_eq_true qq_5
         have q543 : x13_1 < (l1.length : Int) := of_decide_eq_true qq_5
         obtain ⟨ad543, e543, hx543_0, hx543_1, hx543_2, hx543_3⟩ := Qew HR1.out x13_1 p543 q543
         cases e543
         replace p543 := eq_true p543
         replace q543 := eq_true q543
         go_wp2
         repeat (go_quiet (fail); try go_wp2)
         go_roundg k1
         case measure => have := HK1.out; omega
         case rel => exact ⟨(wrap64 (x13_1 + 1)), qq_8, H', ⟨by have := HK1.out; omega⟩, by repeat (first | exact Drawn0.refl _ | apply Drawn0.step)⟩
       ·rw [if_neg c7] at H
        exact absurd H (by simp)
      ·rw [if_neg c6] at H
       exact absurd H (by simp)
     ·rw [if_neg c5] at H
      exact absurd H (by simp)
    ·rw [if_neg c4] at H
     have c4b0 : decide (x13_1 < (l0.length : Int)) = false := decide_eq_false c4
     clear c4
     obtain rfl := Option.some.inj H
     go_wp2
     repeat (go_quiet (fail); try go_wp2)
     go_ret
     exact ⟨by first | rfl | (simp; done) | (simp [*]; done), by repeat (first | exact Drawn0.refl _ | apply Drawn0.step)⟩
 ·rw [if_neg c3] at H
  have c3b0 : ((l0.length : Int) == (l1.length : Int)) = false := beq_eq_false_iff_ne.mpr c3
  have c3b1 : ((l0.length : Int) != (l1.length : Int)) = true := bne_iff_ne.mpr c3
  have c3b2 : (l0.length == l1.length) = false := by first | simpa using c3 | (simp at c3 ⊢; omega)
  obtain rfl := Option.some.inj H
  go_enter Tryz.func36, Tryz.ntmps36
  go_wp2
  repeat (go_quiet (fail); try go_wp2)
  go_ret
  exact ⟨by first | rfl | (simp; done) | (simp [*]; done), by repeat (first | exact Drawn0.refl _ | apply Drawn0.step)⟩
def Qaa.l0 : Nat → List (S39) → List (S39) → Int → Int → Option (Bool)
 | 0, _, _, _, _ => none
 | k + 1, x0, x1, x12, x13 => if x13 < x12 then (if 0 ≤ x13 then (if x13 < (x0.length : Int) then (if x13 < (x1.length : Int) then (if (!(((Qev x0 x13).f0) == ((Qev x1 x13).f0)) || (!(((Qev x0 x13).f1) == ((Qev x1 x13).f1)) || (!((((Qev x0 x13).f2).toList) == (((Qev x1 x13).f2).toList)) || (!((((Qev x0 x13).f3).toList) == (((Qev x1 x13).f3).toList)))))) = true then (some false) else (Qaa.l0 k x0 x1 x12 (wrap64 (x13 + 1)))) else (none)) else (none)) else (none)) else (some true)
def Qaa.f (k : Nat) (l0 : List (S39)) (l1 : List (S39)) : Option (Bool) := if (l0.length : Int) = (l1.length : Int) then (Qaa.l0 k l0 l1 (l0.length : Int) 0) else (some false)
theorem Qaa.calls (k : Nat) (A0 : Option Addr) (c0 : Nat) (l0 : List (S39)) (A1 : Option Addr) (c1 : Nat) (l1 : List (S39)) (r : Bool) (w : World) (hr0 : Kd.C k39 w A0 l0.length l0) (hc0 : l0.length ≤ c0) (hr1 : Kd.C k39 w A1 l1.length l1) (hc1 : l1.length ≤ c1) (h : Qaa.f k l0 l1 = some r) :
  Calls Tryz.prog 75 #[.slice A0 l0.length c0, .slice A1 l1.length c1] w fun e w' => e = .returned (.bool r) ∧ Drawn0 w w' := by
 have hu39 := Tryz.underlying39
 have HR0 := QA hr0
 have HC0 := QA hc0
 clear hr0 hc0
 have HR1 := QA hr1
 have HC1 := QA hc1
 clear hr1 hc1
 have H : (if (l0.length : Int) = (l1.length : Int) then (Qaa.l0 k l0 l1 (l0.length : Int) 0) else (some false)) = some r := h
 clear h
 by_cases c3 : (l0.length : Int) = (l1.length : Int)
 ·rw [if_pos c3] at H
  have c3b0 : ((l0.length : Int) == (l1.length : Int)) = true := beq_iff_eq.mpr c3
  have c3b1 : ((l0.length : Int) != (l1.length : Int)) = false := bne_eq_false_iff_eq.mpr c3
  have c3b2 : (l0.length == l1.length) = true := by first | simpa using c3 | (simp at c3 ⊢; omega)
  clear c3
  have H' := QA H
  clear H
  go_enter Tryz.func75, Tryz.ntmps75
  go_wp2
  repeat (go_quiet (fail); try go_wp2)
  go_loopg [13] k (fun kq v13 w' => ∃ (x13_1 : Int), v13 = .int .i64 x13_1 ∧ Aside0 (Qaa.l0 kq l0 l1 (l0.length : Int) x13_1 = some r) ∧ Aside0 (kq ≤ k) ∧ Drawn0 w w')
  case atStart => exact ⟨(0), qq_8, H', ⟨Nat.le_refl _⟩, by repeat (first | exact Drawn0.refl _ | apply Drawn0.step)⟩
  case round =>
   clear H'
   try clear c1
   try clear c3
   try clear c3b0
   try clear c3b1
   try clear c3b2
   obtain ⟨x13_1, rfl, HA, HK1, ⟨m1, rfl⟩⟩ := hrel
   cases gk with
   | zero => exact absurd HA.out (by simp [Qaa.l0])
   | succ k1 =>
    have H := HA.out
    clear HA
    simp only [Qaa.l0] at H
    by_cases c4 : x13_1 < (l0.length : Int)
    ·rw [if_pos c4] at H
     have c4b0 : decide (x13_1 < (l0.length : Int)) = true := decide_eq_true c4
     clear c4
     by_cases c5 : 0 ≤ x13_1
     ·rw [if_pos c5] at H
      have c5b0 : decide (0 ≤ x13_1) = true := decide_eq_true c5
      clear c5
      by_cases c6 : x13_1 < (l0.length : Int)
      ·rw [if_pos c6] at H
       have c6b0 : decide (x13_1 < (l0.length : Int)) = true := decide_eq_true c6
       clear c6
       by_cases c7 : x13_1 < (l1.length : Int)
       ·rw [if_pos c7] at H
        have c7b0 : decide (x13_1 < (l1.length : Int)) = true := decide_eq_true c7
        clear c7
        by_cases c8 : (!(((Qev l0 x13_1).f0) == ((Qev l1 x13_1).f0)) || (!(((Qev l0 x13_1).f1) == ((Qev l1 x13_1).f1)) || (!((((Qev l0 x13_1).f2).toList) == (((Qev l1 x13_1).f2).toList)) || (!((((Qev l0 x13_1).f3).toList) == (((Qev l1 x13_1).f3).toList)))))) = true
        ·rw [if_pos c8] at H
         have c8b0 : (!(((Qev l0 x13_1).f0) == ((Qev l1 x13_1).f0)) || (!(((Qev l0 x13_1).f1) == ((Qev l1 x13_1).f1)) || (!((((Qev l0 x13_1).f2).toList) == (((Qev l1 x13_1).f2).toList)) || (!((((Qev l0 x13_1).f3).toList) == (((Qev l1 x13_1).f3).toList)))))) = true := c8
         clear c8
         obtain rfl := Option.some.inj H
         have p539 : 0 ≤ (x13_1 : Int) := of_decide_eq_true qq_5
         have q539 : x13_1 < (l0.length : Int) := of_decide_eq_true qq_5
         obtain ⟨ad539, e539, hx539_0, hx539_1, hx539_2, hx539_3⟩ := Qew HR0.out x13_1 p539 q539
         cases e539
         replace p539 := eq_true p539
         replace q539 := eq_true q539
         have p540 : 0 ≤ (x13_1 : Int) := of_decide_eq_true qq_5
         have q540 : x13_1 < (l1.length : Int) := of_decide_eq_true qq_5
         obtain ⟨ad540, e540, hx540_0, hx540_1, hx540_2, hx540_3⟩ := Qew HR1.out x13_1 p540 q540
         cases e540
         replace p540 := eq_true p540
         replace q540 := eq_true q540
         go_wp2
         repeat (go_quiet (fail); try go_wp2)
         go_ret
         exact ⟨by first | rfl | (simp; done) | (simp [*]; done), by repeat (first | exact Drawn0.refl _ | apply Drawn0.step)⟩
        ·rw [if_neg c8] at H
         have c8b0 : (!(((Qev l0 x13_1).f0) == ((Qev l1 x13_1).f0)) || (!(((Qev l0 x13_1).f1) == ((Qev l1 x13_1).f1)) || (!((((Qev l0 x13_1).f2).toList) == (((Qev l1 x13_1).f2).toList)) || (!((((Qev l0 x13_1).f3).toList) == (((Qev l1 x13_1).f3).toList)))))) = false := by simpa using c8
         clear c8
         have H' := QA H
         clear H
         have p539 : 0 ≤ (x13_1 : Int) := of_decide_eq_true qq_5
         have q539 : x13_1 < (l0.length : Int) := of_decide_eq_true qq_5
         obtain ⟨ad539, e539, hx539_0, hx539_1, hx539_2, hx539_3⟩ := Qew HR0.out x13_1 p539 q539
         cases e539
         replace p539 := eq_true p539
         replace q539 := eq_true q539
         have p540 : 0 ≤ (x13_1 : Int) := of_decide_eq_true qq_5
         have q540 : x13_1 < (l1.length : Int) := of_decide_eq_true qq_5
         obtain ⟨ad540, e540, hx540_0, hx540_1, hx540_2, hx540_3⟩ := Qew HR1.out x13_1 p540 q540
         cases e540
         replace p540 := eq_true p540
         replace q540 := eq_true q540
         go_wp2
         repeat (go_quiet (fail); try go_wp2)
         go_roundg k1
         case measure => have := HK1.out; omega
         case rel => exact ⟨(wrap64 (x13_1 + 1)), qq_8, H', ⟨by have := HK1.out; omega⟩, by repeat (first | exact Drawn0.refl _ | apply Drawn0.step)⟩
       ·rw [if_neg c7] at H
        exact absurd H (by simp)
      ·rw [if_neg c6] at H
       exact absurd H (by simp)
     ·rw [if_neg c5] at H
      exact absurd H (by simp)
    ·rw [if_neg c4] at H
     have c4b0 : decide (x13_1 < (l0.length : Int)) = false := decide_eq_false c4
     clear c4
     obtain rfl := Option.some.inj H
     go_wp2
     repeat (go_quiet (fail); try go_wp2)
     go_ret
     exact ⟨by first | rfl | (simp; done) | (simp [*]; done), by repeat (first | exact Drawn0.refl _ | apply Drawn0.step)⟩
 ·rw [if_neg c3] at H
  have c3b0 : ((l0.length : Int) == (l1.length : Int)) = false := beq_eq_false_iff_ne.mpr c3
  have c3b1 : ((l0.length : Int) != (l1.length : Int)) = true := bne_iff_ne.mpr c3
  have c3b2 : (l0.length == l1.length) = false := by first | simpa using c3 | (simp at c3 ⊢; omega)
  obtain rfl := Option.some.inj H
  go_enter Tryz.func75, Tryz.ntmps75
  go_wp2
  repeat (go_quiet (fail); try go_wp2)
  go_ret
  exact ⟨by first | rfl | (simp; done) | (simp [*]; done), by repeat (first | exact Drawn0.refl _ | apply Drawn0.step)⟩
end Go.Proofs.YtnnofopfbeklbaaGreat.C
end
