/- FoldAt over lists alone: keys, kinds, values and last records are the reference's. -/
import Derived.Test.YtbcccobbmphaeaaQSFoldAt
import Derived.Test.YtbcccobbmphaeaaQFold
namespace Go.Proofs.Ytbcccobbmphaeaa.Pure
open Go.RowKit Go.Proofs.Ytbcccobbmphaeaa.Q Go.Proofs.Ytbcccobbmphaeaa.FoldP Go.Proofs.Ytbcccobbmphaeaa.Plain Go.Proofs.YtbcccobbmphaeaaW.PrintWords Go.Proofs.YtbcccobbmphaeaaW.PrintLast Go.Proofs.YtbcccobbmphaeaaW.PrintMore Go.Proofs.Ytbcccobbmphaeaa.Open
set_option linter.unusedVariables false
set_option linter.unusedSimpArgs false

theorem rdOf_nat (xs : List ByteArray) (i : Nat) (h : i < xs.length) : rdOf ByteArray.empty xs (i : Int) = xs[i] := by
  simp [rdOf, List.getElem?_eq_getElem h]
theorem keysOk_of {l : List Rec} (h : ∀ x ∈ l, OG25 x) : keysOk l = true := by
  unfold keysOk
  refine List.all_eq_true.2 fun x hx => decide_eq_true ?_
  have := (h x hx).2.2.1
  unfold maxLen
  omega
theorem key_step (l : List Rec) (hl : l.length ≤ 9223372036854775807) (key : ByteArray) (A : Nat → Option Bool) (q : Bool) (h : Ev A q) :
    Ev (fun k => (fold_At.f l key).bind fun bt174 => ((fascicleref18_At.f k l key).bind fun bt176 => ((fold_Last.f l key).bind fun bt178 => (if bt174.1 = bt176.1 then (if bt174.2.toList = bt176.2.toList then (if (bt178.2.2.2.2 != (bt176.1 != 0)) = true then (some false) else (if bt178.2.2.2.2 = true then (if bt178.2.2.1.toList = key.toList then (if (bt178.1 != (bt176.1 == 1)) = true then (some false) else (A k)) else (some false)) else (if (bt178.1 || (!(bt178.2.1 == 0) || (!bt178.2.2.1.toList.isEmpty || !bt178.2.2.2.1.toList.isEmpty))) = true then (some false) else (A k)))) else (some false)) else (some false))))) q := by
  refine Ev.bindc (at_eq l key) (Ev.bind (refAt_ev l key hl) (Ev.bindc rfl ?_))
  refine Ev.pos rfl (Ev.pos rfl ?_)
  unfold atOf
  cases hr : lastRec l key with
  | none =>
    simp only [ofLast]
    refine Ev.neg (by simp) (Ev.neg (by simp) (Ev.neg (by simp [empty_toList]) h))
  | some r =>
    have hk : K r = key.toList := by
      have := List.find?_some hr
      simpa using this
    by_cases hd : r.f0 = true
    · simp only [ofLast, hd]
      exact Ev.neg (by simp) (Ev.pos trivial (Ev.pos hk (Ev.neg (by simp) h)))
    · simp only [ofLast, hd]
      exact Ev.neg (by simp) (Ev.pos trivial (Ev.pos hk (Ev.neg (by simp) h)))

theorem FoldAt : fasciclelaw18_FoldAt.Pure := by
  intro l key hG hk
  have hl : l.length < 2932031007400 := by have := hG.1; omega
  refine Ev.rounds ?_
  refine Ev.bindc lives_eq (Ev.pos rfl ?_)
  obtain ⟨b, hb⟩ := few_ev 60 300 l (by omega)
  refine Ev.bind hb ?_
  have j0 : ∀ c, Ev (fun k => fasciclelaw18_FoldAt.j0 k l key c) true := by
    intro c
    refine Ev.step (fun k => by rw [fasciclelaw18_FoldAt.j0]) ?_
    refine Ev.ite (fun _ => Ev.bindc lives_eq (Ev.some _)) (fun _ => Ev.bind (byKey_ev l hl) (Ev.bindc (a := keysL l) (by unfold fold_Keys.f; rw [if_pos (keysOk_of hG.2), if_pos (by omega)]) ?_))
    have hks := keysL_is l
    have hlen : (keysL l).length = (byK l).length := by have := congrArg List.length hks; simpa using this
    have hbl : (byK l).length ≤ l.length := by
      unfold byK
      have : ∀ (cs out : List Rec), (cs.foldl (fun out r => insK r out) out).length = cs.length + out.length := by
        intro cs
        induction cs with
        | nil => intro out; simp
        | cons r t ih => intro out; rw [List.foldl_cons, ih, insK_length, List.length_cons]; omega
      rw [this]
      have := comp_length l
      simp
      omega
    refine Ev.pos (by rw [hlen]) ?_
    have loop := idx_loop0 (byK l) (fun k (_ : Unit) i => fasciclelaw18_FoldAt.l0 k l key (keysL l) (byK l) ((byK l).length : Int) i) (fun s _ => .inr s) (fun _ => true) (fun _ _ => True) (by
        intro s _
        refine Ev.step (fun k => by rw [fasciclelaw18_FoldAt.l0]) ?_
        refine Ev.neg (by omega) (Ev.bindc rfl (Ev.pos (by simp; omega) (Ev.bindc rfl ?_)))
        generalize hys : ([key, (⟨#[]⟩ : ByteArray)] ++ keysL l) = ys
        have hyl : ys.length ≤ 9223372036854775807 := by rw [← hys]; simp; omega
        have loop1 := idx_loop0 ys (fun k (_ : Unit) i => fasciclelaw18_FoldAt.l1 k l ys (ys.length : Int) i) (fun s _ => .inr s) (fun _ => true) (fun _ _ => True) (by
            intro s _
            refine Ev.step (fun k => by rw [fasciclelaw18_FoldAt.l1]) ?_
            exact Ev.neg (by omega) (Ev.some _)) (by
            intro i s h _
            refine ⟨(by intro r hr; cases hr), fun s' hs => ⟨trivial, fun r hr => ?_⟩⟩
            refine Ev.step (fun k => by rw [fasciclelaw18_FoldAt.l1]) ?_
            refine Ev.pos (by omega) (Ev.pos (by omega) (Ev.pos (by omega) ?_))
            rw [wrap_nat h hyl]
            exact key_step l (by omega) _ _ _ hr) () trivial
        rw [run_fold] at loop1
        exact loop1) (by
        intro i s h _
        refine ⟨(by intro r hr; cases hr), fun s' hs => ⟨trivial, fun r hr => ?_⟩⟩
        refine Ev.step (fun k => by rw [fasciclelaw18_FoldAt.l0]) ?_
        refine Ev.pos (by omega) (Ev.pos (by omega) (Ev.pos (by omega) (Ev.pos (by omega) (Ev.pos ?_ ?_))))
        · rw [rdOf_nat _ i (by omega), rd_nat _ i h]
          have e1 : ((keysL l).map (·.toList))[i]? = ((byK l).map K)[i]? := by rw [hks]
          rw [List.getElem?_map, List.getElem?_map, List.getElem?_eq_getElem (by omega), List.getElem?_eq_getElem h] at e1
          simpa using e1
        · rw [wrap_nat h (by omega)]
          exact hr) () trivial
    rw [run_fold] at loop
    exact loop
  exact Ev.ite (fun _ => j0 _) (fun _ => j0 _)

end Go.Proofs.Ytbcccobbmphaeaa.Pure
