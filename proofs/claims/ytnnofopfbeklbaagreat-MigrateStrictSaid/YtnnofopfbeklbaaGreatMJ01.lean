/- Merged texts. -/
import Derived.Test.YtnnofopfbeklbaaGreatMJ00
import Derived.Laws.StructEq
import Derived.OrdersHeld
import Derived.Deep.RegionHeld3
import Derived.Laws.BitsLemmas
import Derived.RowKit
import Derived.Test.YtnnofopfbeklbaaGreatProg
import Derived.Below
import Derived.Deep.Draws
import Derived.Deep.AppendLies
import Derived.Maps.AppendAt
import Derived.OwnWalk
import Derived.Laws.BytesArg
import Derived.Laws.MakeOwn
import Derived.Laws.OwnMore
import Derived.Deep.OwnRows
import Derived.Tactics
import Derived.Lib.ConvBytes
import Derived.Laws.Slices
import Derived.WalkKit
import Derived.KernelRfl
import Derived.RowKit3
import Derived.Deep.LoopGhost
import Derived.Deep.QuietTactic
import Derived.BigQuiet
import Derived.WideLaws
import Derived.Deep.DeepCutAuto
import Derived.Deep.CutBlock
import Derived.Laws.Rows
import Derived.Lib.AppendStr
import Derived.ArgAppend
import Derived.Laws.IdiomCopy
set_option linter.unusedVariables false
set_option linter.unusedSimpArgs false
set_option maxHeartbeats 8000000
set_option maxRecDepth 100000
section
namespace Go.Proofs.YtnnofopfbeklbaaGreatW.PrintWords
open Go.RowKit
section
variable {P:Program} {d:Nat} {xs ys:Array Value} {f:Field} {fs:List Field} {a b:Value} {r s:Bool} {w:World}
theorem Qjg(hn:(f.name == "_")=false)(ha:(part f.type xs f.offset).run P w=.ok a w)(hb:(part f.type ys f.offset).run P w=.ok b w)(he:(Op.equalIn d f.type a b).run P w=.ok r w):(Op.eqFields d xs ys [f]).run P w=.ok r w:=by
  have hn':f.name ≠ "_" := by simpa using hn
  simp only[Op.eqFields,if_pos hn',Sem.run_bind,ha,hb,he,Result.andThen_ok]
  cases r<;>simp
theorem Qjh(hn:(f.name == "_")=false)(ha:(part f.type xs f.offset).run P w=.ok a w)(hb:(part f.type ys f.offset).run P w=.ok b w)(he:(Op.equalIn d f.type a b).run P w=.ok r w)(hr:(Op.eqFields d xs ys fs).run P w=.ok s w):(Op.eqFields d xs ys (f :: fs)).run P w=.ok (r && s) w:=by
  have hn':f.name ≠ "_" := by simpa using hn
  rw[Op.eqFields]
  simp only[if_pos hn',Sem.run_bind,ha,hb,he,Result.andThen_ok]
  cases r
  · simp
  · simpa using hr
theorem Qji{t:TypeId}{fs:Array Field}(hu:P.underlying t=some (.struct fs))(hp:P.stoodInHeld t=false)(h:(Op.eqFields d xs ys fs.toList).run P w=.ok r w):(Op.equalIn (d+1) t (.agg xs) (.agg ys)).run P w=.ok r w:=by
  have hf:P.fieldsOf t=fs:=by simp[Program.fieldsOf,hu]
  rw[run_equalIn_struct (P:=P) w d t xs ys (by rw[hf];exact hu) hp,hf]
  exact h
end
section
variable {P:Program} {ops:Array Oper} {rest:List Oper} {o:Oper} {a:Act} {Q:Exit→Act→World→Prop} {W:World}
theorem Qjj(hw:Region.wanted o (yielded ops a.tmps)=true)(h:wpList P ops Q ({ o with guard:=none } :: rest) a W):wpList P ops Q (o :: rest) a W:=by
  have h1:Region.wanted { o with guard:=none } (yielded ops a.tmps)=true:=rfl
  unfold wpList at h ⊢
  rw[if_pos h1]at h
  rw[if_pos hw]
  exact h
end
end Go.Proofs.YtnnofopfbeklbaaGreatW.PrintWords
end
section
namespace Go.Proofs.YtnnofopfbeklbaaGreatW.PrintLast
section
variable {P:Program} {ops:Array Oper} {Q:Exit→Act→World→Prop} {md:Region.Mode} {S:World→Prop} {ds:List Nat}
def Region.reachB (md:Region.Mode) (ops:Array Oper) (i:Nat):Nat→Nat→Bool
  | 0,_=>false
  | fuel+1,d=>match ops[d]? with
    | some o=>o.after.any fun e=>Region.binds md e && (e.on == i || Region.reachB md ops i fuel e.on)
    | none=>false
def Region.closedB (md:Region.Mode) (ops:Array Oper) (listed:Array Bool):Bool :=
  (List.range ops.size).all fun j=>!listed.getD j false || match ops[j]? with
    | some o=>o.after.all fun e=>!Region.binds md e || listed.getD e.on false
    | none=>true
def Region.lastB(md:Region.Mode)(ops:Array Oper)(listed:Array Bool)(ds:List Nat)(i:Nat):Bool :=
  ds.all fun d=>listed.getD d true || Region.reachB md ops i ops.size d
def ListedClosed(md:Region.Mode)(ops:Array Oper)(listed:Array Bool):Prop :=
  ∀j oj,ops[j]? = some oj→listed.getD j false=true→∀e∈oj.after,Region.binds md e=true→listed.getD e.on false=true
theorem Region.closedB_spec{listed:Array Bool}(h:Region.closedB md ops listed=true):ListedClosed md ops listed:=by
  intro j oj hj hl e he hb
  have hlt:j<ops.size:=(Array.getElem?_eq_some_iff.1 hj).1
  have h1:=List.all_eq_true.1 h j (List.mem_range.2 hlt)
  simp only[hl,hj,Bool.not_true,Bool.false_or]at h1
  have h2:=Array.all_eq_true_iff_forall_mem.1 h1 e he
  simpa [hb]using h2
theorem ListedClosed.set{listed:Array Bool}{i:Nat}(h:ListedClosed md ops listed)(hi:i∈Region.ready md ops listed):ListedClosed md ops (listed.setIfInBounds i true):=by
  obtain⟨_,oi,hoi,hall⟩:=mem_ready.1 hi
  intro j oj hj hl e he hb
  by_cases hij:i=j
  · subst hij
    have:oj=oi:=Option.some.inj (hj.symm.trans hoi)
    subst this
    exact getD_set_true (hall e he hb)
  · rw[getD_set_ne false hij]at hl
    exact getD_set_true (h j oj hj hl e he hb)
theorem Region.reach_listed{listed:Array Bool}{i:Nat}(hc:ListedClosed md ops listed):∀(fuel d:Nat),Region.reachB md ops i fuel d=true→listed.getD d false=true→listed.getD i false=true
  | 0,_,h,_=>by simp[Region.reachB]at h
  | fuel+1,d,h,hl=>by
    unfold Region.reachB at h
    cases ho:ops[d]? with
    | none=>rw[ho]at h;simp at h
    | some o =>
      rw[ho]at h
      obtain⟨e,he,h1⟩:=Array.any_eq_true'.1 h
      simp only[Bool.and_eq_true,Bool.or_eq_true,beq_iff_eq]at h1
      have hle:=hc d o ho hl e he h1.1
      rcases h1.2 with h2|h2
      · rw[← h2];exact hle
      · exact Region.reach_listed hc fuel e.on h2 hle
theorem Region.reach_not_ready{listed:Array Bool}{i d fuel:Nat}(hc:ListedClosed md ops listed)(hr:Region.reachB md ops i fuel d=true)(hun:listed.getD i true=false):d∉Region.ready md ops listed:=by
  intro hd
  obtain⟨_,o,ho,hall⟩:=mem_ready.1 hd
  have hi:listed.getD i false=true:=by
    cases fuel with
    | zero=>simp[Region.reachB]at hr
    | succ n =>
      unfold Region.reachB at hr
      rw[ho]at hr
      obtain⟨e,he,h1⟩:=Array.any_eq_true'.1 hr
      simp only[Bool.and_eq_true,Bool.or_eq_true,beq_iff_eq]at h1
      have hle:=hall e he h1.1
      rcases h1.2 with h2|h2
      · rw[← h2];exact hle
      · exact Region.reach_listed hc n e.on h2 hle
  rcases Nat.lt_or_ge i listed.size with h' | h'
  · simp[h']at hun hi
    rw[hun]at hi
    cases hi
  · simp[Array.getElem?_eq_none h']at hun
def Qgx (P:Program) (md:Region.Mode) (ops:Array Oper) (Q:Exit→Act→World→Prop) (S:World→Prop) (ds:List Nat):Nat→Array Bool→Act→World→Prop
  | 0,listed,a,w=>Region.ready md ops listed=[]∧Q .normal a w
  | fuel+1,listed,a,w =>
    (Region.ready md ops listed=[]→Q .normal a w) ∧
    ∀i∈Region.ready md ops listed,wpOp P ops Q i (fun a' w'=>(i∉ds→S w→S w')∧Qgx P md ops Q S ds fuel (listed.setIfInBounds i true) a' w') a w
theorem Qgy:∀(fuel:Nat) (listed:Array Bool) (a:Act) (w:World),Qgx P md ops Q S ds fuel listed a w→wpAny P md ops Q fuel listed a w
  | 0,_,_,_,h=>h
  | fuel+1,_,_,_,h=>⟨h.1,fun i hi=>wpOp_mono (fun a' w' h'=>Qgy fuel _ a' w' h'.2) (h.2 i hi)⟩
theorem Qgz {i:Nat} {oi:Oper} {v:Value} (hi:ops[i]? = some oi) (hsel:∀(j:Nat) (o:Oper) cs b,ops[j]? = some o→o.op≠.select cs b)
    (hQ:∀c a w,Q (.panic c) (a.put oi.dst v) w→Q (.panic c) a w) (n:Nat) :
    ∀ (fuel:Nat) (listed:Array Bool) (a:Act) (w:World),
      (∀j oj,ops[j]? = some oj→j≠i→listed.getD j true=false→(∀e∈oj.after,Region.binds md e=true→e.on≠i)→oi.apart ops oj=true) →
      ListedClosed md ops listed→(∀d∈ds,listed.getD d true=false→Region.reachB md ops i n d=true) →
      i∈Region.ready md ops listed→YieldsIf P ops S oi v a→S w →
      Qgx P md ops Q S ds fuel (listed.setIfInBounds i true) (a.put oi.dst v) w→Qgx P md ops Q S ds (fuel+1) listed a w:=by
  intro fuel
  induction fuel with
  | zero =>
    intro listed a w _ _ _ hr hy hS H
    refine⟨fun h=>(by rw[h]at hr;cases hr),fun j hj=>?_⟩
    by_cases hji:j=i
    · subst hji;exact hy.wpOp hi hS ⟨fun _ h=>h,H⟩
    · have:=ready_mono hj hji
      rw[H.1]at this
      cases this
  | succ fuel ih =>
    intro listed a w hfree hc hd hr hy hS H
    refine⟨fun h=>(by rw[h]at hr;cases hr),fun j hj=>?_⟩
    by_cases hji:j=i
    · subst hji;exact hy.wpOp hi hS ⟨fun _ h=>h,H⟩
    · have h1:=H.2 j (ready_mono hj hji)
      obtain⟨hjun,oj,hoj,hall⟩:=mem_ready.1 hj
      have hiun:=(mem_ready.1 hr).1
      have hnot:∀e∈oj.after,Region.binds md e=true→e.on≠i:=fun e he hb heq=>by
        have h1:=hall e he hb
        rw[heq]at h1
        rcases Nat.lt_or_ge i listed.size with h' | h'
        · simp[h']at hiun h1;rw[hiun]at h1;cases h1
        · simp[Array.getElem?_eq_none h']at h1
      have hjd:j∉ds:=fun hm=>Region.reach_not_ready hc (hd j hm hjun) hiun hj
      have h2:=wpOp_putIf hoj (hfree j oj hoj hji hjun hnot) (fun cs b=>hsel i oi cs b hi) (fun cs b=>hsel j oj cs b hoj) hQ hy h1
      have hfree':∀k ok,ops[k]? = some ok→k≠i→(listed.setIfInBounds j true).getD k true=false →
          (∀e∈ok.after,Region.binds md e=true→e.on≠i)→oi.apart ops ok=true:=fun k ok hk hki hun hno=>by
        refine hfree k ok hk hki ?_ hno
        by_cases hjk:j=k
        · subst hjk;exact hjun
        · rw[getD_set_ne true hjk]at hun;exact hun
      have hd':∀d∈ds,(listed.setIfInBounds j true).getD d true=false→Region.reachB md ops i n d=true:=fun d hm hun=>by
        refine hd d hm ?_
        by_cases hjk:j=d
        · subst hjk;exact hjun
        · rw[getD_set_ne true hjk]at hun;exact hun
      refine wpOp_mono (fun a' w' h3=>⟨h3.2.1,ih (listed.setIfInBounds j true) a' w' hfree' (hc.set hj) hd' (ready_mono hr (Ne.symm hji)) h3.1 (h3.2.1 hjd hS) ?_⟩) h2
      rw[Array.setIfInBounds_comm _ _ hji]
      exact h3.2.2
theorem Qha {i:Nat} {oi:Oper} {v:Value} (hi:ops[i]? = some oi) (hsel:∀(j:Nat) (o:Oper) cs b,ops[j]? = some o→o.op≠.select cs b)
    (hQ:∀c a w,Q (.panic c) (a.put oi.dst v) w→Q (.panic c) a w) :
    ∀ (fuel:Nat) (listed:Array Bool) (a:Act) (w:World),
      (∀j oj,ops[j]? = some oj→j≠i→listed.getD j true=false→(∀e∈oj.after,Region.binds md e=true→e.on≠i)→oi.apart ops oj=true) →
      i∈Region.ready md ops listed→Yields P ops oi v a →
      Qgx P md ops Q S ds fuel (listed.setIfInBounds i true) (a.put oi.dst v) w→Qgx P md ops Q S ds (fuel+1) listed a w:=by
  intro fuel
  induction fuel with
  | zero =>
    intro listed a w _ hr hy H
    refine⟨fun h=>(by rw[h]at hr;cases hr),fun j hj=>?_⟩
    by_cases hji:j=i
    · subst hji;exact(hy.yieldsIf (S:=fun _=>True)).wpOp hi trivial ⟨fun _ h=>h,H⟩
    · have:=ready_mono hj hji
      rw[H.1]at this
      cases this
  | succ fuel ih =>
    intro listed a w hfree hr hy H
    refine⟨fun h=>(by rw[h]at hr;cases hr),fun j hj=>?_⟩
    by_cases hji:j=i
    · subst hji;exact(hy.yieldsIf (S:=fun _=>True)).wpOp hi trivial ⟨fun _ h=>h,H⟩
    · have h1:=H.2 j (ready_mono hj hji)
      obtain⟨hjun,oj,hoj,hall⟩:=mem_ready.1 hj
      have hiun:=(mem_ready.1 hr).1
      have hnot:∀e∈oj.after,Region.binds md e=true→e.on≠i:=fun e he hb heq=>by
        have h1:=hall e he hb
        rw[heq]at h1
        rcases Nat.lt_or_ge i listed.size with h' | h'
        · simp[h']at hiun h1;rw[hiun]at h1;cases h1
        · simp[Array.getElem?_eq_none h']at h1
      have h2:=wpOp_put hoj (hfree j oj hoj hji hjun hnot) (fun cs b=>hsel i oi cs b hi) (fun cs b=>hsel j oj cs b hoj) hQ hy h1
      have hfree':∀k ok,ops[k]? = some ok→k≠i→(listed.setIfInBounds j true).getD k true=false →
          (∀e∈ok.after,Region.binds md e=true→e.on≠i)→oi.apart ops ok=true:=fun k ok hk hki hun hno=>by
        refine hfree k ok hk hki ?_ hno
        by_cases hjk:j=k
        · subst hjk;exact hjun
        · rw[getD_set_ne true hjk]at hun;exact hun
      refine wpOp_mono (fun a' w' h3=>⟨h3.2.1,ih (listed.setIfInBounds j true) a' w' hfree' (ready_mono hr (Ne.symm hji)) h3.1 ?_⟩) h2
      rw[Array.setIfInBounds_comm _ _ hji]
      exact h3.2.2
theorem Qhb{i:Nat}{oi:Oper}{v:Value}{fuel:Nat}{listed:Array Bool}{a:Act}{w:World}(hi:ops[i]? = some oi)
    (hs:Region.noSelect ops=true) (hf:Region.free md ops listed i=true) (hr:(Region.ready md ops listed).contains i=true)
    (hc:Region.closedB md ops listed=true) (hl:Region.lastB md ops listed ds i=true)
    (hQ:∀c a w,Q (.panic c) (a.put oi.dst v) w→Q (.panic c) a w) (hy:YieldsIf P ops S oi v a) (hS:S w)
    (h:Qgx P md ops Q S ds fuel (listed.setIfInBounds i true) (a.put oi.dst v) w):Qgx P md ops Q S ds (fuel+1) listed a w :=
  Qgz hi (Region.noSelect_spec hs) hQ ops.size fuel listed a w (Region.free_spec hi hf) (Region.closedB_spec hc)
    (fun d hm hun=>by have:=List.all_eq_true.1 hl d hm;rw[hun]at this;simpa using this) (by simpa using hr) hy hS h
theorem Qhc{rs:List Nat}{fuel:Nat}{listed:Array Bool}{a:Act}{w:World}(hr:Region.ready md ops listed=rs)(hne:rs≠[])
    (h:∀i∈rs,wpOp P ops Q i (fun a' w'=>(i∉ds→S w→S w')∧Qgx P md ops Q S ds fuel (listed.setIfInBounds i true) a' w') a w):Qgx P md ops Q S ds (fuel+1) listed a w :=
  ⟨fun h0=>absurd (hr ▸ h0) hne,hr ▸ h⟩
theorem Qhd{listed:Array Bool}{a:Act}{w:World}(hr:Region.ready md ops listed=[])(h:Q .normal a w) :
    ∀fuel,Qgx P md ops Q S ds fuel listed a w
  | 0=>⟨hr,h⟩
  | _+1=>⟨fun _=>h,by rw[hr];simp⟩
theorem Qhe{id:Nat}{a:Act}{w:World}(hm:P.follows .mixedOrders=true)
    (h:Qgx P .any ops Q S ds ops.size (Array.replicate ops.size false) a { w with drawn:=w.drawn+1 }):(Code.region id ops true).wp P Q a w :=
  wp_region_any hm (Qgy _ _ _ _ h)
end
section
variable {P:Program} {ops:Array Oper} {Q:Exit→Act→World→Prop} {md:Region.Mode} {S:World→Prop} {ds:List Nat}
def AllReadyL(P:Program)(md:Region.Mode)(ops:Array Oper)(Q:Exit→Act→World→Prop)(S:World→Prop)(ds:List Nat)(fuel:Nat)(listed:Array Bool)(a:Act)(w:World)(rs:List Nat):Prop :=
  ∀i∈rs,wpOp P ops Q i (fun a' w'=>(i∉ds→S w→S w')∧Qgx P md ops Q S ds fuel (listed.setIfInBounds i true) a' w') a w
theorem AllReadyL.nil{fuel:Nat}{listed:Array Bool}{a:Act}{w:World}:AllReadyL P md ops Q S ds fuel listed a w []:=fun _ h=>by cases h
theorem AllReadyL.cons{fuel:Nat}{listed:Array Bool}{a:Act}{w:World}{i:Nat}{o:Oper}{rs:List Nat}(ho:ops[i]? = some o)(hd:i∉ds)
    (h:∀K':Act→World→Prop,Shut (∀a w,S w→(S w→Qgx P md ops Q S ds fuel (listed.setIfInBounds i true) a w)→K' a w)→if Region.wanted o (yielded ops a.tmps)=true then Oper.wp P o a w K' Q else K' (a.put o.dst undef) w)
    (hs:AllReadyL P md ops Q S ds fuel listed a w rs):AllReadyL P md ops Q S ds fuel listed a w (i :: rs):=fun j hj=>by
  rcases List.mem_cons.1 hj with rfl|hj
  · exact wpOp_step ho (fun K' hK=>h K' (fun a w hS hW=>hK a w ⟨fun _ _=>hS,hW hS⟩))
  · exact hs j hj
theorem AllReadyL.cons_last{fuel:Nat}{listed:Array Bool}{a:Act}{w:World}{i:Nat}{o:Oper}{rs:List Nat}(ho:ops[i]? = some o)(hd:i∈ds)
    (h:∀K':Act→World→Prop,Shut (∀a w,Qgx P md ops Q S ds fuel (listed.setIfInBounds i true) a w→K' a w)→if Region.wanted o (yielded ops a.tmps)=true then Oper.wp P o a w K' Q else K' (a.put o.dst undef) w)
    (hs:AllReadyL P md ops Q S ds fuel listed a w rs):AllReadyL P md ops Q S ds fuel listed a w (i :: rs):=fun j hj=>by
  rcases List.mem_cons.1 hj with rfl|hj
  · exact wpOp_step ho (fun K' hK=>h K' (fun a w hW=>hK a w ⟨fun hn=>absurd hd hn,hW⟩))
  · exact hs j hj
theorem Qhf{rs:List Nat}{fuel:Nat}{listed:Array Bool}{a:Act}{w:World}(hr:Region.ready md ops listed=rs)(hne:rs≠[])
    (h:AllReadyL P md ops Q S ds fuel listed a w rs):Qgx P md ops Q S ds (fuel+1) listed a w:=Qhc hr hne h
theorem Qhg{id n:Nat}{a:Act}{w:World}(l:Array Bool)(hm:P.follows .mixedOrders=true)(hn:ops.size=n)(hl:Array.replicate n false=l)(hS:S w.drew)
    (h:S w.drew→Qgx P .any ops Q S ds n l a w.drew):(Code.region id ops true).wp P Q a w:=by
  subst hn
  subst hl
  exact Qhe hm (h hS)
def Qhh(md:Region.Mode)(ops:Array Oper)(ds:List Nat)(l l':Array Bool)(i:Nat):Bool :=
  Region.noSelect ops && Region.free md ops l i && (Region.ready md ops l).contains i && Region.closedB md ops l && Region.lastB md ops l ds i && (l.setIfInBounds i true == l')
theorem Qhi{i:Nat}{N:Option Tmp}{oi:Oper}{v:Value}{fuel:Nat}{l:Array Bool}{a:Act}{w:World}(l':Array Bool)(hi:ops[i]? = some oi)(hN:oi.dst=N)(hc:Qhh md ops ds l l' i=true)
    (hQ:∀c a w,Q (.panic c) (a.put oi.dst v) w→Q (.panic c) a w) (hy:YieldsIf P ops S oi v a) (hS:S w) {a':Act} (ha:a.put N v=a')
    (h:Qgx P md ops Q S ds fuel l' a' w):Qgx P md ops Q S ds (fuel+1) l a w:=by
  subst ha
  subst hN
  simp only[Qhh,Bool.and_eq_true,beq_iff_eq]at hc
  obtain⟨⟨⟨⟨⟨h1,h2⟩,h3⟩,h4⟩,h5⟩,h6⟩:=hc
  subst h6
  exact Qhb hi h1 h2 h3 h4 h5 hQ hy hS h
def anyB(md:Region.Mode)(ops:Array Oper)(l l':Array Bool)(i:Nat):Bool :=
  Region.noSelect ops && Region.free md ops l i && (Region.ready md ops l).contains i && (l.setIfInBounds i true == l')
theorem Qhj{i:Nat}{N:Option Tmp}{oi:Oper}{v:Value}{fuel:Nat}{l:Array Bool}{a:Act}{w:World}(l':Array Bool)(hi:ops[i]? = some oi)(hN:oi.dst=N)(hc:anyB md ops l l' i=true)
    (hQ:∀c a w,Q (.panic c) (a.put oi.dst v) w→Q (.panic c) a w) (hy:Yields P ops oi v a) {a':Act} (ha:a.put N v=a')
    (h:Qgx P md ops Q S ds fuel l' a' w):Qgx P md ops Q S ds (fuel+1) l a w:=by
  subst ha
  subst hN
  simp only[anyB,Bool.and_eq_true,beq_iff_eq]at hc
  obtain⟨⟨⟨h1,h2⟩,h3⟩,h6⟩:=hc
  subst h6
  exact Qha hi (Region.noSelect_spec h1) hQ fuel l a w (Region.free_spec hi h2) (by simpa using h3) hy h
def Qhk(md:Region.Mode)(ops:Array Oper)(l l':Array Bool)(i:Nat):Bool:=(Region.ready md ops l == [i]) && (l.setIfInBounds i true == l')
theorem one_{i:Nat}{N:Option Tmp}{oi:Oper}{fuel:Nat}{l:Array Bool}{a:Act}{w:World}(l':Array Bool)(hi:ops[i]? = some oi)(hN:oi.dst=N)(hc:Qhk md ops l l' i=true)(hd:i∉ds)
    (h:∀K:Act→World→Prop,Shut (∀a' w',S w'→(S w'→Qgx P md ops Q S ds fuel l' a' w')→K a' w')→if Region.wanted oi (yielded ops a.tmps)=true then Oper.wp P oi a w K Q else K (a.put N undef) w) :
    Qgx P md ops Q S ds (fuel+1) l a w:=by
  subst hN
  simp only[Qhk,Bool.and_eq_true,beq_iff_eq]at hc
  obtain⟨h1,h2⟩:=hc
  subst h2
  exact Qhf h1 (by simp) (AllReadyL.cons hi hd (fun K hK=>h K hK) AllReadyL.nil)
theorem last_{i:Nat}{N:Option Tmp}{oi:Oper}{fuel:Nat}{l:Array Bool}{a:Act}{w:World}(l':Array Bool)(hi:ops[i]? = some oi)(hN:oi.dst=N)(hc:Qhk md ops l l' i=true)(hd:i∈ds)
    (h:∀K:Act→World→Prop,Shut (∀a' w',Qgx P md ops Q S ds fuel l' a' w'→K a' w')→if Region.wanted oi (yielded ops a.tmps)=true then Oper.wp P oi a w K Q else K (a.put N undef) w) :
    Qgx P md ops Q S ds (fuel+1) l a w:=by
  subst hN
  simp only[Qhk,Bool.and_eq_true,beq_iff_eq]at hc
  obtain⟨h1,h2⟩:=hc
  subst h2
  exact Qhf h1 (by simp) (AllReadyL.cons_last hi hd (fun K hK=>h K hK) AllReadyL.nil)
theorem Qhl{l:Array Bool}{a:Act}{w:World}{n:Nat}(hr:(Region.ready md ops l == [])=true)(h:Q .normal a w):Qgx P md ops Q S ds n l a w:=Qhd (by simpa using hr) h n
theorem two_{i j:Nat}{Ni Nj:Option Tmp}{oi oj:Oper}{fuel:Nat}{l:Array Bool}{a:Act}{w:World}(li lj:Array Bool)(hi:ops[i]? = some oi)(hj:ops[j]? = some oj)(hNi:oi.dst=Ni)(hNj:oj.dst=Nj)
    (hc:(Region.ready md ops l == [i,j] && l.setIfInBounds i true == li && l.setIfInBounds j true == lj)=true) (hdi:i∉ds) (hdj:j∉ds)
    (h1:∀K:Act→World→Prop,Shut (∀a' w',S w'→(S w'→Qgx P md ops Q S ds fuel li a' w')→K a' w')→if Region.wanted oi (yielded ops a.tmps)=true then Oper.wp P oi a w K Q else K (a.put Ni undef) w)
    (h2:∀K:Act→World→Prop,Shut (∀a' w',S w'→(S w'→Qgx P md ops Q S ds fuel lj a' w')→K a' w')→if Region.wanted oj (yielded ops a.tmps)=true then Oper.wp P oj a w K Q else K (a.put Nj undef) w) :
    Qgx P md ops Q S ds (fuel+1) l a w:=by
  subst hNi
  subst hNj
  simp only[Bool.and_eq_true,beq_iff_eq]at hc
  obtain⟨⟨h3,h4⟩,h5⟩:=hc
  subst h4
  subst h5
  exact Qhf h3 (by simp) (AllReadyL.cons hi hdi (fun K hK=>h1 K hK) (AllReadyL.cons hj hdj (fun K hK=>h2 K hK) AllReadyL.nil))
theorem Qhm{i j k:Nat}{Ni Nj Nk:Option Tmp}{oi oj ok:Oper}{fuel:Nat}{l:Array Bool}{a:Act}{w:World}(li lj lk:Array Bool)(hi:ops[i]? = some oi)(hj:ops[j]? = some oj)(hk:ops[k]? = some ok)(hNi:oi.dst=Ni)(hNj:oj.dst=Nj)(hNk:ok.dst=Nk)
    (hc:(Region.ready md ops l == [i,j,k] && l.setIfInBounds i true == li && l.setIfInBounds j true == lj && l.setIfInBounds k true == lk)=true) (hdi:i∉ds) (hdj:j∉ds) (hdk:k∉ds)
    (h1:∀K:Act→World→Prop,Shut (∀a' w',S w'→(S w'→Qgx P md ops Q S ds fuel li a' w')→K a' w')→if Region.wanted oi (yielded ops a.tmps)=true then Oper.wp P oi a w K Q else K (a.put Ni undef) w)
    (h2:∀K:Act→World→Prop,Shut (∀a' w',S w'→(S w'→Qgx P md ops Q S ds fuel lj a' w')→K a' w')→if Region.wanted oj (yielded ops a.tmps)=true then Oper.wp P oj a w K Q else K (a.put Nj undef) w)
    (h3:∀K:Act→World→Prop,Shut (∀a' w',S w'→(S w'→Qgx P md ops Q S ds fuel lk a' w')→K a' w')→if Region.wanted ok (yielded ops a.tmps)=true then Oper.wp P ok a w K Q else K (a.put Nk undef) w) :
    Qgx P md ops Q S ds (fuel+1) l a w:=by
  subst hNi
  subst hNj
  subst hNk
  simp only[Bool.and_eq_true,beq_iff_eq]at hc
  obtain⟨⟨⟨h4,h5⟩,h6⟩,h7⟩:=hc
  subst h5
  subst h6
  subst h7
  exact Qhf h4 (by simp) (AllReadyL.cons hi hdi (fun K hK=>h1 K hK) (AllReadyL.cons hj hdj (fun K hK=>h2 K hK) (AllReadyL.cons hk hdk (fun K hK=>h3 K hK) AllReadyL.nil)))
def Qhn:Act→List (Tmp × Value)→Act
  | a,[]=>a
  | a,(n,v) :: r=>Qhn (a.put (some n) v) r
theorem Qho{σ:Type}{fuel:Nat}{l:Array Bool}{a:Act}{w:World}(fuel':Nat)(l':Array Bool)(ns:σ→List (Tmp × Value))(F:σ→World→Prop)
    (hcont:∀s w',F s w'→Qgx P md ops Q S ds fuel' l' (Qhn a (ns s)) w')
    (h:(∀s w',F s w'→Qgx P md ops Q S ds fuel' l' (Qhn a (ns s)) w')→Qgx P md ops Q S ds fuel l a w):Qgx P md ops Q S ds fuel l a w:=h hcont
theorem Qhp{fuel:Nat}{l:Array Bool}{a a':Act}{w:World}(ha:a=a')(h:Qgx P md ops Q S ds fuel l a' w):Qgx P md ops Q S ds fuel l a w:=by
  subst ha
  exact h
theorem call_{oi:Oper}{N:Option Tmp}{a:Act}{w:World}{K:Act→World→Prop}(f:FuncId)(args:Array Value)(hw:Region.wanted oi (yielded ops a.tmps)=true)(hN:oi.dst=N)(hrun:(execOp a.eval oi).run P w=.ok (.enter f args) w)
    (h:Calls P f args w fun e w'=>∃v,e=.returned v∧K (a.put N v) w'):if Region.wanted oi (yielded ops a.tmps)=true then Oper.wp P oi a w K Q else K (a.put N undef) w:=by
  rw[if_pos hw]
  subst hN
  unfold Oper.wp
  rw[hrun,Oper.upon_enter]
  refine h.mono fun e w'' hh=>?_
  obtain⟨v,rfl,hk⟩:=hh
  exact hk
theorem Qhq{f:FuncId}{fn:Func}(hf:P.funcs[f]? = some fn)(hname:(fn.name == "runtime.NumGoroutine")=false)(hb:fn.body.isSome=true)(args:Array Value)(w:World):(callFunc f args).run P w=.ok (.enter f args) w:=by
  have h1:fn.name ≠ "runtime.NumGoroutine" := by simpa using hname
  obtain⟨c,hc⟩:=Option.isSome_iff_exists.1 hb
  simp[callFunc,hf,h1,hc]
theorem Qhr{oi:Oper}{N:Option Tmp}{a:Act}{w:World}{K:Act→World→Prop}{f:FuncId}{fn:Func}{as_:Array Operand}{ts:Array TypeId}(hf:P.funcs[f]? = some fn)(hname:(fn.name == "runtime.NumGoroutine")=false)(hb:fn.body.isSome=true)(args:Array Value)
    (hw:Region.wanted oi (yielded ops a.tmps)=true) (hN:oi.dst=N) (hop:oi.op=.call { callee:=.value (.func f),args:=as_,argTypes:=ts }) (hargs:as_.map a.eval=args)
    (h:Calls P f args w fun e w'=>∃v,e=.returned v∧K (a.put N v) w'):if Region.wanted oi (yielded ops a.tmps)=true then Oper.wp P oi a w K Q else K (a.put N undef) w:=by
  refine call_ f args hw hN ?_ h
  have he:=Qhq hf hname hb args w
  unfold execOp
  simp[hop,resolve,Deferred.ofValue,invoke,Act.eval,hargs,he]
theorem Qhs{rest:List Oper}{oi:Oper}{a:Act}{w:World}(N:Option Tmp)(hd:oi.dst=N)(hg:oi.guard=none){f:FuncId}{fn:Func}{as_:Array Operand}{ts:Array TypeId}(hf:P.funcs[f]? = some fn)(hname:(fn.name == "runtime.NumGoroutine")=false)(hb:fn.body.isSome=true)(args:Array Value)
    (hop:oi.op=.call { callee:=.value (.func f),args:=as_,argTypes:=ts }) (hargs:as_.map a.eval=args)
    (h:Calls P f args w fun e w'=>∃v,e=.returned v∧wpList P ops Q rest (a.put N v) w'):wpList P ops Q (oi :: rest) a w:=by
  refine wpList_plain hg fun K hK=>?_
  have he:=Qhq hf hname hb args w
  have hrun:(execOp a.eval oi).run P w=.ok (.enter f args) w:=by
    unfold execOp
    simp[hop,resolve,Deferred.ofValue,invoke,Act.eval,hargs,he]
  unfold Oper.wp
  rw[hrun,Oper.upon_enter]
  refine h.mono fun e w'' hh=>?_
  obtain⟨v,rfl,hk⟩:=hh
  subst hd
  exact hK _ _ hk
theorem Qht{oi:Oper}{N:Option Tmp}{a:Act}{w w1:World}{v:Value}{K:Act→World→Prop}(hw:Region.wanted oi (yielded ops a.tmps)=true)(hN:oi.dst=N)(hrun:(execOp a.eval oi).run P w=.ok (.value v) w1)
    (h:K (a.put N v) w1):if Region.wanted oi (yielded ops a.tmps)=true then Oper.wp P oi a w K Q else K (a.put N undef) w:=by
  rw[if_pos hw]
  subst hN
  unfold Oper.wp
  rw[hrun]
  exact h
theorem Qhu{oi:Oper}{a:Act}{w w1:World}{K:Act→World→Prop}(hw:Region.wanted oi (yielded ops a.tmps)=true)(hN:oi.dst=none)(hrun:(execOp a.eval oi).run P w=.ok .skip w1)
    (h:K a w1):if Region.wanted oi (yielded ops a.tmps)=true then Oper.wp P oi a w K Q else K (a.put none undef) w:=by
  rw[if_pos hw]
  unfold Oper.wp
  rw[hrun]
  show K (a.put oi.dst undef) w1
  rw[hN]
  exact h
theorem Qhv(n:Int):IntKind.i64.wrap n=Go.RowKit.wrap64 n:=by unfold Go.RowKit.wrap64;exact IntKind.wrap_i64 n
theorem Qhw(n:Int):IntKind.i32.wrap n=Go.RowKit.wrap32 n:=by unfold Go.RowKit.wrap32;exact IntKind.wrap_i32 n
section
variable {P:Program} {md:Region.Mode} {ops:Array Oper} {Q:Exit→Act→World→Prop} {S:World→Prop} {ds:List Nat}
theorem pz_{i:Nat}{N:Option Tmp}{oi:Oper}{v:Value}{fuel:Nat}{l:Array Bool}{a a':Act}{w:World}(l':Array Bool)(hc:anyB md ops l l' i=true)(h:Qgx P md ops Q S ds fuel l' a' w)(hi:ops[i]? = some oi:=by exact rfl)(hN:oi.dst=N:=by exact rfl)(hQ:∀c a w,Q (.panic c) (a.put oi.dst v) w→Q (.panic c) a w:=by exact fun _ _ _ h=>h)(hy:Yields P ops oi v a:=by(refine Or.inl ⟨by rfl,?_⟩;intro w';go_simp;with_reducible rfl))(ha:a.put N v=a':=by(simp only[Act.put,List.setIfInBounds_toArray,List.set_cons_zero,List.set_cons_succ,Qhv,Qhw];rfl)):Qgx P md ops Q S ds (fuel+1) l a w:=Qhj l' hi hN hc hQ hy ha h
theorem tz_{i:Nat}{N:Option Tmp}{oi:Oper}{v:Value}{fuel:Nat}{l:Array Bool}{a a':Act}{w:World}(l':Array Bool)(hc:Qhh md ops ds l l' i=true)(hS:S w)(h:Qgx P md ops Q S ds fuel l' a' w)(hi:ops[i]? = some oi:=by exact rfl)(hN:oi.dst=N:=by exact rfl)(hQ:∀c a w,Q (.panic c) (a.put oi.dst v) w→Q (.panic c) a w:=by exact fun _ _ _ h=>h)(hy:YieldsIf P ops S oi v a:=by(refine Or.inl ⟨by rfl,?_⟩;intro w';(try simp only[and_imp]);intros;go_simp;with_reducible rfl))(ha:a.put N v=a':=by(simp only[Act.put,List.setIfInBounds_toArray,List.set_cons_zero,List.set_cons_succ,Qhv,Qhw];rfl)):Qgx P md ops Q S ds (fuel+1) l a w:=Qhi l' hi hN hc hQ hy hS ha h
theorem nzp_{fuel:Nat}{l:Array Bool}{a a':Act}{v:Value}{w:World}(N:Nat)(h:Qgx P md ops Q S ds fuel l a' w)(ha:Act.put a (some N) v=a':=by(simp only[Act.put,List.setIfInBounds_toArray,List.set_cons_zero,List.set_cons_succ,Qhv,Qhw];rfl)):Qgx P md ops Q S ds fuel l (Act.put a (some N) v) w:=Qhp ha h
theorem nza_{fuel:Nat}{l:Array Bool}{a a':Act}{w:World}(h:Qgx P md ops Q S ds fuel l a' w)(ha:a=a':=by(simp only[Qhn,Act.put,List.setIfInBounds_toArray,List.set_cons_zero,List.set_cons_succ];rfl)):Qgx P md ops Q S ds fuel l a w:=Qhp ha h
end
end
end Go.Proofs.YtnnofopfbeklbaaGreatW.PrintLast
end
section
namespace Go.Proofs.YtnnofopfbeklbaaGreatW.PrintLast
open Go.Proofs.YtnnofopfbeklbaaGreatW.PrintWords (Aside0)
def Qhx(md:Region.Mode)(o:Oper):List Nat:=(o.after.toList.filter (fun e=>Region.binds md e)).map (fun e=>e.on)
def Qhy(md:Region.Mode)(ops:Array Oper)(i:Nat)(oi:Oper):List Nat:=(List.range ops.size).filter fun j=>!(j == i) && match ops[j]? with
  | some oj=>!(oj.after.any (fun e=>Region.binds md e && e.on == i) || oi.apart ops oj)
  | none=>false
def rtab(md:Region.Mode)(ops:Array Oper):Bool × List (List Nat × List Nat):=(Region.noSelect ops,(List.range ops.size).map fun i=>match ops[i]? with
  | some o=>(Qhx md o,Qhy md ops i o)
  | none=>([],[]))
def Qhz(T:List (List Nat × List Nat))(l:List Bool)(i:Nat):Bool:=!l.getD i true && match T[i]? with
  | some r=>r.1.all (fun j=>l.getD j false)
  | none=>false
def Qia(T:List (List Nat × List Nat))(l:List Bool):List Nat:=(List.range T.length).filter (Qhz T l)
def Qib(T:List (List Nat × List Nat))(l:List Bool)(i:Nat):Bool:=match T[i]? with
  | some r=>r.2.all (fun j=>l.getD j true)
  | none=>false
def Qic(T:List (List Nat × List Nat))(l:List Bool):Bool:=(List.range T.length).all fun j=>!l.getD j false || match T[j]? with
  | some r=>r.1.all (fun k=>l.getD k false)
  | none=>true
def Qid (T:List (List Nat × List Nat)) (i:Nat):Nat→Nat→Bool
  | 0,_=>false
  | fuel+1,d=>match T[d]? with
    | some r=>r.1.any fun j=>j == i || Qid T i fuel j
    | none=>false
def Qie(T:List (List Nat × List Nat))(l:List Bool)(ds:List Nat)(i:Nat):Bool:=ds.all fun d=>l.getD d true || Qid T i T.length d
section
variable {md:Region.Mode} {ops:Array Oper} {T:Bool × List (List Nat × List Nat)} {l l' li lj lk:Array Bool} {ds:List Nat} {i j k:Nat}
theorem gd(l:Array Bool)(j:Nat)(b:Bool):l.getD j b=l.toList.getD j b:=by simp[Array.getD_eq_getD_getElem?,List.getD_eq_getElem?_getD]
theorem Qif(o:Oper)(p:Nat→Bool):o.after.all (fun e=>!Region.binds md e || p e.on)=(Qhx md o).all p:=by
  unfold Qhx
  rw[← Array.all_toList]
  induction o.after.toList with
  | nil=>rfl
  | cons e r ih =>
    rw[List.all_cons,ih,List.filter_cons]
    cases h:Region.binds md e<;>simp
theorem Qig(o:Oper)(p:Nat→Bool):o.after.any (fun e=>Region.binds md e && p e.on)=(Qhx md o).any p:=by
  unfold Qhx
  rw[← Array.any_toList]
  induction o.after.toList with
  | nil=>rfl
  | cons e r ih =>
    rw[List.any_cons,ih,List.filter_cons]
    cases h:Region.binds md e<;>simp
theorem Qih:(rtab md ops).2.length=ops.size:=by simp[rtab]
theorem Qii{o:Oper}(h:ops[i]? = some o):(rtab md ops).2[i]? = some (Qhx md o,Qhy md ops i o):=by
  have hi:=(Array.getElem?_eq_some_iff.1 h).1
  unfold rtab
  rw[List.getElem?_map,List.getElem?_range hi,Option.map_some,h]
theorem Qij(h:ops[i]? = none):(rtab md ops).2[i]? = none:=by
  have hi:ops.size≤i:=Array.getElem?_eq_none_iff.1 h
  exact List.getElem?_eq_none (by rw[Qih];exact hi)
theorem Qik:Qhz (rtab md ops).2 l.toList i=(!l.getD i true && ((ops[i]?).map (·.after.all fun e=>!Region.binds md e || l.getD e.on false)).getD false):=by
  unfold Qhz
  rw[gd]
  cases h:ops[i]? with
  | none=>rw[Qij h];rfl
  | some o =>
    rw[Qii h]
    simp only[Option.map_some,Option.getD_some]
    rw[← Qif]
    simp only[gd]
theorem Qil:Region.ready md ops l=Qia (rtab md ops).2 l.toList:=by
  unfold Region.ready Qia
  rw[Qih]
  refine List.filter_congr (fun i _=>?_)
  rw[Qik]
theorem Qim:Region.free md ops l i=Qib (rtab md ops).2 l.toList i:=by
  unfold Region.free Qib
  cases h:ops[i]? with
  | none=>rw[Qij h]
  | some oi =>
    rw[Qii h]
    simp only[Qhy]
    rw[List.all_filter]
    congr 1
    funext j
    rw[gd]
    cases hj:ops[j]? with
    | none=>cases (j == i)<;>cases (l.toList.getD j true)<;>simp
    | some oj =>
      cases (j == i)<;>cases (l.toList.getD j true)<;>cases (oj.after.any (fun e=>Region.binds md e && e.on == i) || oi.apart ops oj)<;>simp_all
theorem Qin:Region.closedB md ops l=Qic (rtab md ops).2 l.toList:=by
  unfold Region.closedB Qic
  rw[Qih]
  congr 1
  funext j
  rw[gd]
  cases h:ops[j]? with
  | none=>rw[Qij h]
  | some o =>
    rw[Qii h]
    simp only
    rw[← Qif]
    simp only[gd]
theorem Qio:∀(fuel d:Nat),Region.reachB md ops i fuel d=Qid (rtab md ops).2 i fuel d
  | 0,_=>rfl
  | fuel+1,d=>by
    unfold Region.reachB Qid
    cases h:ops[d]? with
    | none=>rw[Qij h]
    | some o =>
      rw[Qii h]
      simp only
      rw[← Qig]
      congr 1
      funext e
      rw[Qio fuel]
theorem last_eq:Region.lastB md ops l ds i=Qie (rtab md ops).2 l.toList ds i:=by
  unfold Region.lastB Qie
  rw[Qih]
  congr 1
  funext d
  rw[gd,Qio]
theorem Qip(h:Qhz T.2 l.toList i=true)(hT:rtab md ops=T):(Region.ready md ops l).contains i=true:=by
  subst hT
  rw[Qil]
  unfold Qia
  rw[List.contains_iff_mem,List.mem_filter,List.mem_range]
  refine⟨?_,h⟩
  unfold Qhz at h
  rw[Bool.and_eq_true]at h
  cases hq:(rtab md ops).2[i]? with
  | none=>rw[hq]at h;simp at h
  | some r=>exact(List.getElem?_eq_some_iff.1 hq).1
theorem Qiq(h:(l.toList.set i true == l'.toList)=true):(l.setIfInBounds i true == l')=true:=by
  rw[beq_iff_eq]at h ⊢
  apply Array.ext'
  rw[Array.toList_setIfInBounds]
  exact h
def anyT(T:Bool × List (List Nat × List Nat))(l l':List Bool)(i:Nat):Bool:=T.1 && Qib T.2 l i && Qhz T.2 l i && (l.set i true == l')
theorem Qir(hT:rtab md ops=T)(h:anyT T l.toList l'.toList i=true):anyB md ops l l' i=true:=by
  simp only[anyT,Bool.and_eq_true]at h
  obtain⟨⟨⟨h1,h2⟩,h3⟩,h4⟩:=h
  have h5:=Qip h3 hT
  have h6:=Qiq h4
  subst hT
  simp only[anyB,Bool.and_eq_true]
  exact⟨⟨⟨h1,by rw[Qim];exact h2⟩,h5⟩,h6⟩
def takeT(T:Bool × List (List Nat × List Nat))(ds:List Nat)(l l':List Bool)(i:Nat):Bool:=T.1 && Qib T.2 l i && Qhz T.2 l i && Qic T.2 l && Qie T.2 l ds i && (l.set i true == l')
theorem take_of(hT:rtab md ops=T)(h:takeT T ds l.toList l'.toList i=true):Qhh md ops ds l l' i=true:=by
  simp only[takeT,Bool.and_eq_true]at h
  obtain⟨⟨⟨⟨⟨h1,h2⟩,h3⟩,h4⟩,h5⟩,h6⟩:=h
  have h7:=Qip h3 hT
  have h8:=Qiq h6
  subst hT
  simp only[Qhh,Bool.and_eq_true]
  exact⟨⟨⟨⟨⟨h1,by rw[Qim];exact h2⟩,h7⟩,by rw[Qin];exact h4⟩,by rw[last_eq];exact h5⟩,h8⟩
theorem Qis(hT:rtab md ops=T)(h:(Qia T.2 l.toList == [i] && l.toList.set i true == l'.toList)=true):Qhk md ops l l' i=true:=by
  simp only[Bool.and_eq_true]at h
  obtain⟨h1,h2⟩:=h
  subst hT
  simp only[Qhk,Bool.and_eq_true]
  exact⟨by rw[Qil];exact h1,Qiq h2⟩
theorem Qit(hT:rtab md ops=T)(h:(Qia T.2 l.toList == [i,j] && l.toList.set i true == li.toList && l.toList.set j true == lj.toList)=true):(Region.ready md ops l == [i,j] && l.setIfInBounds i true == li && l.setIfInBounds j true == lj)=true:=by
  simp only[Bool.and_eq_true]at h ⊢
  obtain⟨⟨h1,h2⟩,h3⟩:=h
  subst hT
  exact⟨⟨by rw[Qil];exact h1,Qiq h2⟩,Qiq h3⟩
theorem Qiu(hT:rtab md ops=T)(h:(Qia T.2 l.toList == [])=true):(Region.ready md ops l == [])=true:=by
  subst hT
  rw[Qil]
  exact h
def upM(B:List Nat)(d:Nat):List Nat→Nat
  | []=>0
  | n :: r=>(2^n |||(if n<d then B.getD n 0 else 0)) ||| upM B d r
def Qiv(T:List (List Nat × List Nat))(B:List Nat):Bool:=(List.range T.length).all fun d=>match T[d]? with
  | some r=>(B.getD d 0 ||| upM B d r.1) == upM B d r.1
  | none=>false
theorem Qiw {B:List Nat} {d i:Nat}:∀ {ns:List Nat},(upM B d ns).testBit i=true→∃n∈ns,n=i∨(n<d∧(B.getD n 0).testBit i=true)
  | [],h=>by simp[upM]at h
  | n :: r,h=>by
    unfold upM at h
    rw[Nat.testBit_or,Nat.testBit_or,Bool.or_eq_true,Bool.or_eq_true]at h
    rcases h with(h|h)|h
    · rw[Nat.testBit_two_pow]at h
      exact⟨n,List.mem_cons_self,.inl (by simpa using h)⟩
    · by_cases hn:n<d
      · rw[if_pos hn]at h
        exact⟨n,List.mem_cons_self,.inr ⟨hn,h⟩⟩
      · rw[if_neg hn]at h
        simp at h
    · obtain⟨m,hm,h2⟩:=Qiw h
      exact⟨m,List.mem_cons_of_mem _ hm,h2⟩
theorem Qix{T:List (List Nat × List Nat)}{B:List Nat}(hB:Qiv T B=true):∀(fuel d:Nat),d<fuel→d<T.length→(B.getD d 0).testBit i=true→Qid T i fuel d=true
  | 0,d,h,_,_=>by omega
  | fuel+1,d,h,hd,hb=>by
    have h1:=List.all_eq_true.1 hB d (List.mem_range.2 hd)
    cases hr:T[d]? with
    | none=>rw[hr]at h1;simp at h1
    | some r =>
      rw[hr]at h1
      simp only[beq_iff_eq]at h1
      have h2:(upM B d r.1).testBit i=true:=by rw[← h1,Nat.testBit_or,hb,Bool.true_or]
      obtain⟨n,hn,h3⟩:=Qiw h2
      unfold Qid
      rw[hr]
      simp only
      rw[List.any_eq_true]
      refine⟨n,hn,?_⟩
      rcases h3 with rfl |⟨h4,h5⟩
      · simp
      · rw[Qix hB fuel n (by omega) (by omega) h5,Bool.or_true]
def lastW(T:List (List Nat × List Nat))(B:List Nat)(l:List Bool)(ds:List Nat)(i:Nat):Bool:=ds.all fun d=>l.getD d true ||(decide (d<T.length) && (B.getD d 0).testBit i)
def takeW(T:Bool × List (List Nat × List Nat))(B:List Nat)(ds:List Nat)(l l':List Bool)(i:Nat):Bool:=T.1 && Qib T.2 l i && Qhz T.2 l i && Qic T.2 l && lastW T.2 B l ds i && (l.set i true == l')
theorem Qiy{B:List Nat}(hT:rtab md ops=T)(hB:Qiv T.2 B=true)(h:takeW T B ds l.toList l'.toList i=true):Qhh md ops ds l l' i=true:=by
  refine take_of hT ?_
  simp only[takeW,takeT,Bool.and_eq_true]at h ⊢
  obtain⟨⟨⟨⟨⟨h1,h2⟩,h3⟩,h4⟩,h5⟩,h6⟩:=h
  refine⟨⟨⟨⟨⟨h1,h2⟩,h3⟩,h4⟩,?_⟩,h6⟩
  unfold lastW at h5
  unfold Qie
  rw[List.all_eq_true]at h5 ⊢
  intro d hd
  have h7:=h5 d hd
  rw[Bool.or_eq_true,Bool.and_eq_true,decide_eq_true_eq]at h7
  rcases h7 with h7 |⟨h8,h9⟩
  · rw[h7,Bool.true_or]
  · rw[Qix hB _ d h8 h8 h9,Bool.or_true]
theorem Qiz{P:Program}{Q:Exit→Act→World→Prop}{S:World→Prop}{n:Nat}{a:Act}{w:World}{B:List Nat}(hT:rtab md ops=T)(hB:Qiv T.2 B=true)(h:Aside0 (rtab md ops=T)→Aside0 (Qiv T.2 B=true)→Qgx P md ops Q S ds n l a w):Qgx P md ops Q S ds n l a w:=h ⟨hT⟩ ⟨hB⟩
end
def Qja:Code→Nat→Option (Array Oper)
  | .region id ops _,k=>if id == k then some ops else none
  | .seq a b,k=>match Qja a k with
    | some o=>some o
    | none=>Qja b k
  | .cond _ a b,k=>match Qja a k with
    | some o=>some o
    | none=>Qja b k
  | .block _ c,k=>Qja c k
  | .loop c,k=>Qja c k
  | .scope c,k=>Qja c k
  | .rangeFunc _ _ a b,k=>match Qja a k with
    | some o=>some o
    | none=>Qja b k
  | _,_=>none
def Qjb(f:Func)(k:Nat):Array Oper:=((f.body.bind fun c=>Qja c k)).getD #[]
end Go.Proofs.YtnnofopfbeklbaaGreatW.PrintLast
end
section
namespace Go.Proofs.YtnnofopfbeklbaaGreatW.PrintLast
section
variable {P:Program} {ops:Array Oper} {Q:Exit→Act→World→Prop} {md:Region.Mode} {S:World→Prop} {ds:List Nat} {T:Bool × List (List Nat × List Nat)}
end
section
variable {P:Program} {ops:Array Oper} {Q:Exit→Act→World→Prop} {md:Region.Mode} {T:Bool × List (List Nat × List Nat)} {B:List Nat} {O:List Nat} {b:Nat→Bool} {i j n:Nat}
end
end Go.Proofs.YtnnofopfbeklbaaGreatW.PrintLast
end
section
namespace Go.Proofs.YtnnofopfbeklbaaGreatW.PrintWords
open Go.RowKit
namespace Kd
section
variable {α:Type} {d:Kd α} {e base g o n cap:Nat} {ok okp:Nat→Prop} {w W:World} {v:Value} {xs:List α}
end
section
variable {α:Type} {enc:α→Value} {h1:∀x,(enc x).oneCell'=true} {e base g o n cap:Nat} {ok:Nat→Prop} {W:World} {xs:List α}
end
def tag{α:Type}(f:Nat→Nat)(d:Kd α):Kd (α × Nat) where
  sz:=d.sz
  E:=d.E
  K:=fun w x cs=>d.K w x.1 cs
  M:=fun w base ok x cs=>d.M w base (fun k=>ok k∧f k=x.2) x.1 cs
  K_len:=fun h=>d.K_len h
  K_one:=fun h=>d.K_one h
  K_below:=fun hb h=>d.K_below hb h
  K_of_M:=fun h=>d.K_of_M h
  M_mono:=fun hok h=>d.M_mono (fun k hk=>⟨hok k hk.1,hk.2⟩) h
  M_bound:=fun h=>d.M_mono (fun _ hk=>⟨⟨hk.1.1,hk.2⟩,hk.1.2⟩) (d.M_bound h)
  M_move:=fun hm h=>d.M_move (fun k hk=>hm k hk.1) h
  M_lower:=fun hb h=>d.M_lower hb h
def raw(sz:Nat):Kd (List Value) where
  sz:=sz
  E:=[]
  K:=fun _ x cs=>cs=x∧cs.length=sz∧∀u∈cs,u.oneCell'=true
  M:=fun _ _ _ x cs=>cs=x∧cs.length=sz∧∀u∈cs,u.oneCell'=true
  K_len:=fun h=>h.2.1
  K_one:=fun h=>h.2.2
  K_below:=fun _ h=>h
  K_of_M:=fun h=>h
  M_mono:=fun _ h=>h
  M_bound:=fun h=>h
  M_move:=fun _ h=>h
  M_lower:=fun _ h=>h
def S{α:Type}(d:Kd α)(e:Nat)(w:World)(base:Nat)(ok:Nat→Prop)(v:Value)(xs:List α):Prop:=∃f,(tag f d).R e w base ok v xs.zipIdx
section
variable {α β:Type} {d:Kd α} {d':Kd β} {e e':Nat} {w w1 W:World} {base b:Nat} {ok ok' okv oku:Nat→Prop} {u v:Value} {xs:List α} {ys:List β}
theorem Qjc{xs:List α}{j:Nat}{p:α}(h:xs[j]? = some p):xs.zipIdx[j]? = some (p,j):=by rw[List.getElem?_zipIdx,h,Nat.zero_add];rfl
theorem S_R(h:S d e w base ok v xs):d.R e w base ok v xs:=by
  obtain⟨f,h0,inner,ho,hr⟩:=h
  rw[List.length_zipIdx]at ho
  exact⟨h0,inner,ho,by have:=hr.1;rw[List.length_zipIdx]at this;exact this,fun j p hj=>d.M_mono (fun _ hk=>hk.1) (hr.2 j (p,j) (Qjc hj))⟩
theorem R_head{ad:Addr}{n cap:Nat}(h:d.R e w base ok (.slice (some ad) n cap) xs):∃g,ad=⟨g,0,none⟩:=by
  obtain⟨_,inner,ho,hr⟩:=h
  rcases ho.2 with⟨hv,_⟩ |⟨g,cap',cur,hv,_⟩
  · cases hv
  · injection hv with ha _ _
    injection ha with ha
    exact⟨g,ha⟩
theorem R_getA{ad:Addr}{n cap:Nat}(h:d.R e W base ok (.slice (some ad) n cap) xs)(z:α)(i:Int)(h0:0≤i)(h1:i<n) :
    ∃c,c.length=d.sz∧d.M W base (fun k=>ok k∧some k≠(Value.slice (some ad) n cap).ownBlock) (xs.getD i.toNat z) c∧∀j u,c[j]? = some u→W.cell? (ad.add (i.toNat*d.sz+j))=some u:=by
  obtain⟨g,rfl⟩:=R_head h
  obtain⟨c,hcl,hM,hcc,_⟩:=Qge h z i h0 h1
  refine⟨c,hcl,d.M_mono (fun k hk=>⟨hk.1,fun he=>hk.2 (by simpa [Value.ownBlock]using he)⟩) hM,fun j u hu=>?_⟩
  rw[Qfv,Nat.zero_add]
  exact hcc j u hu
theorem R_tight(hE:d.E=[])(h:d.R e w base ok v xs):d.R e w base (fun k=>some k=v.ownBlock) v xs:=by
  obtain⟨h0,inner,ho,hr⟩:=h
  refine⟨fun k hk=>hk.symm,inner,ho,hr.imp_ (fun p c hp=>d.M_mono (fun k hk=>?_) (d.M_bound hp))⟩
  obtain⟨_,_,_,q,hq,_⟩:=hk
  rw[hE]at hq
  cases hq
theorem S_nil(d:Kd α)(e:Nat)(w:World)(base:Nat)(ok:Nat→Prop):S d e w base ok (.slice none 0 0) []:=⟨fun _=>0,R_nil _ _ _ _ _⟩
theorem S_mono(h:S d e w base ok v xs)(hok:∀k,ok k→ok' k):S d e w base ok' v xs:=by
  obtain⟨f,h⟩:=h
  exact⟨f,R_mono h hok⟩
theorem Qjd(h:S d e w base ok v xs):S d e w base (fun k=>ok k∧base≤k∧k<w.heap.size∧∃q,q∈e :: d.E∧∃cells,w.heap[k]? = some (.cells cells q (0,0))) v xs:=by
  obtain⟨f,h⟩:=h
  exact⟨f,R_bound h⟩
theorem S_move(h:S d e w base ok v xs)(hm:∀k,ok k→w1.heap[k]? = w.heap[k]?):S d e w1 base ok v xs:=by
  obtain⟨f,h⟩:=h
  exact⟨f,Qfj h hm⟩
theorem S_lower{base':Nat}(h:S d e w base ok v xs)(hb:base'≤base):S d e w base' ok v xs:=by
  obtain⟨f,h⟩:=h
  exact⟨f,R_lower h hb⟩
theorem Qje(h:S d e w base ok v xs)(hm:∀k,ok k→k<w.heap.size→w1.heap[k]? = w.heap[k]?):S d e w1 base ok v xs :=
  S_mono (S_move (Qjd h) (fun k hk=>hm k hk.1 hk.2.2.1)) (fun _ hk=>hk.1)
theorem S_below(h:S d e w base ok v xs)(hb:Below w.heap.size w w1):S d e w1 base ok v xs:=Qje h (fun k _ hk=>hb.block k hk)
theorem S_drew(h:S d e w base ok v xs):S d e w.drew base ok v xs:=S_below h (Qdr (Below.refl _ _))
theorem S_far(h:S d e w base ok v xs){p:Addr}(hok:∀k,ok k→k≠p.block)(u:Value):S d e (w.setCell p u) base ok v xs:=Qje h (fun k ho _=>Below.heap_setCell w p u k (hok k ho))
theorem S_lt(h:S d e w base ok v xs):∀k,v.ownBlock=some k→k<w.heap.size:=R_lt (S_R h)
theorem R_tag{f f':Nat→Nat}{zs:List (α × Nat)}(h:(tag f d).R e w base ok v zs)(hf:∀k,ok k→k<w.heap.size→f' k=f k):(tag f' d).R e w base ok v zs:=by
  obtain⟨h0,inner,ho,hr⟩:=R_bound h
  exact⟨fun k hk=>(h0 k hk).1,inner,ho,hr.1,fun j p hj=>d.M_mono (fun k hk=>⟨⟨hk.1.1.1,hk.1.2⟩,(hf k hk.1.1.1 hk.1.1.2.2.1).trans hk.2⟩) (hr.2 j p hj)⟩
end
section
variable {α β:Type} {d:Kd α} {d':Kd β} {e e' g:Nat} {w w1 W:World} {base b:Nat} {ok ok' okv oku:Nat→Prop} {u v:Value} {xs:List α} {ys:List β}
theorem S_ne(h:S d e w base ok v xs){t:Nat}{cells:Array Value}(hb:w.heap[g]? = some (.cells cells t (0,0)))(ht:e≠t):some g≠v.ownBlock:=R_ne (S_R h) hb ht
theorem S_form(h:S d e w base ok v xs)(hp:0<xs.length):∃g cap,v=.slice (some ⟨g,0,none⟩) xs.length cap∧base≤g∧g<w.heap.size∧∃cells,w.heap[g]? = some (.cells cells e (0,0)):=R_form (S_R h) hp
theorem S_slice(h:S d e w base ok v xs):∃A c,v=.slice A xs.length c:=R_slice (S_R h)
theorem S_reads'{A:Option Addr}{n c:Nat}(h:S d e w base ok (.slice A n c) xs):n=xs.length∧n≤c∧d.C w A xs.length xs:=R_reads' (S_R h)
theorem S_get{ad:Addr}{n cap:Nat}(h:S d e W base ok (.slice (some ad) n cap) xs)(z:α)(i:Int)(h0:0≤i)(h1:i<n) :
    ∃c,c.length=d.sz∧d.M W base (fun k=>ok k∧some k≠(Value.slice (some ad) n cap).ownBlock) (xs.getD i.toNat z) c∧∀j u,c[j]? = some u→W.cell? (ad.add (i.toNat*d.sz+j))=some u:=R_getA (S_R h) z i h0 h1
theorem S_elderB(h:S d e w base ok v xs)(a:Nat)(ha:w.heap.size≤a):S d e w base (fun k=>ok k∧k≠a) v xs:=S_mono (Qjd h) (fun k hk=>⟨hk.1,by have:=hk.2.2.1;omega⟩)
theorem Qjf(xs:List α)(p:α):(xs++[p]).zipIdx=xs.zipIdx++[(p,xs.length)]:=by rw[List.zipIdx_append];simp
end
section
open Classical in
theorem S_tag{α:Type}{d:Kd α}{e base:Nat}{okv:Nat→Prop}{w:World}{v:Value}{xs:List α}(h:S d e w base okv v xs)(m:Nat)(okp:Nat→Prop)(hap:∀k,okp k→¬okv k):∃f,(∀k,okp k→f k=m)∧(tag f d).R e w base okv v xs.zipIdx:=by
  obtain⟨f,h⟩:=h
  exact⟨fun k=>if okp k then m else f k,fun k hk=>if_pos hk,R_tag h (fun k hk _=>if_neg (fun h2=>hap k h2 hk))⟩
variable {P:Program} {ops:Array Oper} {rest:List Oper} {o:Oper} {a:Act} {Q:Exit→Act→World→Prop} {Kc:Act→World→Prop} {α:Type}
theorem S_append(d:Kd α){w0 W:World}(base:Nat)(hgd:o.guard=none)(s x:Operand)(t e:TypeId)(z:Value)(bytes:Nat)
    (ho:o.op=.call { callee:=.builtin .append,args:=#[s,x],argTypes:=#[t,t] })
    (ht:P.underlying t=some (.slice e)) (hinfo:(P.info? e).map (fun i=>(i.zero,i.size,i.bytes))=some (some z,d.sz,bytes)) (hz:z.cells.size=d.sz) (hs0:0<d.sz) (hb0:0<bytes)
    (v:Value) (xs:List α) (p:α) (cs:List Value) (ok okp:Nat→Prop) (hs:a.eval s=v) (hx:a.eval x=.slice (some ⟨W.heap.size,0,none⟩) 1 1) (hp:d.M W base okp p cs) (hokp:∀k,okp k→ok k∧some k≠v.ownBlock) (hfresh:∀k,W.heap.size≤k→ok k)
    (HO:S d e W base (fun k=>ok k∧¬okp k) v xs) (HB:Below base w0 W) (hbase:base≤W.heap.size) (hl:(xs.length+1)*bytes≤140737488355328)
    (h:∀v1 w1,S d e w1 base ok v1 (xs++[p])→Below base w0 w1→W.grownBy w1 v.ownBlock→(v1.ownBlock=v.ownBlock∨∃b,v1.ownBlock=some b∧W.heap.size≤b)→wpList P ops Q rest (a.put o.dst v1) w1) :
    wpList P ops Q (o :: rest) a (W.alloc (.cells cs.toArray e)):=by
  obtain⟨f,hf,hR⟩:=S_tag HO xs.length okp (fun _ hk h2=>h2.2 hk)
  refine R_append (tag f d) base hgd s x t e z bytes ho ht hinfo hz hs0 hb0 v xs.zipIdx (p,xs.length) cs ok okp hs hx (d.M_mono (fun k hk=>⟨hk,hf k hk⟩) hp) hokp hfresh (R_mono hR (fun _ hk=>hk.1)) HB hbase (by rw[List.length_zipIdx];exact hl) ?_
  intro v1 w1 hr
  rw[← Qjf]at hr
  exact h v1 w1 ⟨f,hr⟩
end
def gap {α:Type} (f:Nat→Nat) (d:Kd α) (i:Nat) (c:List Value):Kd (α × Nat) where
  sz:=d.sz
  E:=d.E
  K:=fun w x cs=>(x.2=i→cs=c∧cs.length=d.sz∧∀u∈cs,u.oneCell'=true)∧(x.2≠i→d.K w x.1 cs)
  M:=fun w base ok x cs=>(x.2=i→cs=c∧cs.length=d.sz∧∀u∈cs,u.oneCell'=true)∧(x.2≠i→d.M w base (fun k=>ok k∧f k=x.2) x.1 cs)
  K_len:=fun {w x cs} h=>by
    by_cases hx:x.2=i
    · exact(h.1 hx).2.1
    · exact d.K_len (h.2 hx)
  K_one:=fun {w x cs} h=>by
    by_cases hx:x.2=i
    · exact(h.1 hx).2.2
    · exact d.K_one (h.2 hx)
  K_below:=fun hb h=>⟨h.1,fun hx=>d.K_below hb (h.2 hx)⟩
  K_of_M:=fun h=>⟨h.1,fun hx=>d.K_of_M (h.2 hx)⟩
  M_mono:=fun hok h=>⟨h.1,fun hx=>d.M_mono (fun k hk=>⟨hok k hk.1,hk.2⟩) (h.2 hx)⟩
  M_bound:=fun h=>⟨h.1,fun hx=>d.M_mono (fun _ hk=>⟨⟨hk.1.1,hk.2⟩,hk.1.2⟩) (d.M_bound (h.2 hx))⟩
  M_move:=fun hm h=>⟨h.1,fun hx=>d.M_move (fun k hk=>hm k hk.1) (h.2 hx)⟩
  M_lower:=fun hb h=>⟨h.1,fun hx=>d.M_lower hb (h.2 hx)⟩
def H{α:Type}(d:Kd α)(e:Nat)(w:World)(base:Nat)(ok:Nat→Prop)(v:Value)(xs:List α)(i:Int)(oki:Nat→Prop)(c:List Value):Prop :=
  (∀k,oki k→ok k)∧∃f,(gap f d i.toNat c).R e w base (fun k=>ok k∧¬oki k) v xs.zipIdx
section
variable {α β:Type} {d:Kd α} {e e' g n cap:Nat} {w w1 W:World} {base:Nat} {ok ok' oki okp:Nat→Prop} {u v:Value} {xs:List α} {i:Int} {c:List Value}
theorem S_lend(h:S d e W base ok (.slice (some ⟨g,0,none⟩) n cap) xs)(z:α)(i:Int)(h0:0≤i)(h1:i<n) :
    ∃(oki:Nat→Prop) (c:List Value),c.length=d.sz∧d.M W base oki (xs.getD i.toNat z) c∧(∀j u,c[j]? = some u→W.cell? ⟨g,i.toNat*d.sz+j,none⟩=some u)∧(∀k,oki k→ok k∧k≠g)∧H d e W base ok (.slice (some ⟨g,0,none⟩) n cap) xs i oki c:=by
  obtain⟨f,hR⟩:=h
  have hn:=(R_reads' hR).1
  rw[List.length_zipIdx]at hn
  have hgo:some g=(Value.slice (some ⟨g,0,none⟩) n cap).ownBlock:=by simp[Value.ownBlock]
  obtain⟨hok0,inner,ho,hr⟩:=hR
  have hil:i.toNat<xs.length:=by omega
  have hlen:inner.length=xs.length*d.sz:=by have:=hr.1;rw[List.length_zipIdx]at this;exact this
  have hseg:i.toNat*d.sz+d.sz≤inner.length:=by rw[hlen,← Nat.succ_mul];exact Nat.mul_le_mul_right _ hil
  have hM:=hr.2 i.toNat _ (Qjc (List.getElem?_eq_getElem hil))
  have hkg:∀k,some k≠(Value.slice (some ⟨g,0,none⟩) n cap).ownBlock→k≠g:=fun k hk he=>hk (by rw[he];exact hgo)
  refine⟨fun k=>(ok k∧k≠g)∧f k=i.toNat,(inner.drop (i.toNat*d.sz)).take d.sz,by rw[List.length_take,List.length_drop];omega,?_,fun j u hu=>?_,fun k hk=>hk.1,fun k hk=>hk.1.1,f,fun k hk=>⟨hok0 k hk,fun h2=>h2.1.2 ?_⟩,inner,ho,hr.1,fun m p hm=>?_⟩
  · rw[List.getD_eq_getElem?_getD,List.getElem?_eq_getElem hil]
    exact d.M_mono (fun k hk=>⟨⟨hk.1.1,hkg k hk.1.2⟩,hk.2⟩) hM
  · rw[List.getElem?_take]at hu
    split at hu
    · rw[List.getElem?_drop]at hu
      have:=ho.cells (g:=g) hgo.symm _ u hu
      rwa [Qdv]at this
    · cases hu
  · rw[← hgo]at hk;injection hk with hk;exact hk.symm
  · have hold:=hr.2 m p hm
    have hp2:p.2=m:=by
      rw[List.getElem?_zipIdx,Nat.zero_add]at hm
      obtain⟨q,_,rfl⟩:=Option.map_eq_some_iff.1 hm
      rfl
    refine⟨fun hx=>?_,fun hx=>d.M_mono (fun k hk=>⟨⟨⟨hk.1.1,fun h2=>hx ?_⟩,hk.1.2⟩,hk.2⟩) hold⟩
    · have hmi:m=i.toNat:=by omega
      subst hmi
      exact⟨rfl,d.K_len (d.K_of_M hM),d.K_one (d.K_of_M hM)⟩
    · rw[← hk.2];exact h2.2
open Classical in
theorem H_back(h:H d e w base ok v xs i oki c){x':α}(hM:d.M w base okp x' c)(hok:∀k,okp k→oki k):S d e w base ok v (xs.set i.toNat x'):=by
  obtain⟨ho,f,h0,inner,hown,hr⟩:=h
  refine⟨fun k=>if oki k then i.toNat else f k,fun k hk=>(h0 k hk).1,inner,by rw[List.length_zipIdx,List.length_set];rw[List.length_zipIdx]at hown;exact hown,by have:=hr.1;rw[List.length_zipIdx]at this;rw[List.length_zipIdx,List.length_set];exact this,fun m p hm=>?_⟩
  rw[List.getElem?_zipIdx,Nat.zero_add]at hm
  obtain⟨q,hq,rfl⟩:=Option.map_eq_some_iff.1 hm
  have hml:m<xs.length:=by
    have:=(List.getElem?_eq_some_iff.1 hq).1
    rwa [List.length_set]at this
  by_cases hmi:m=i.toNat
  · subst hmi
    rw[List.getElem?_set_self hml]at hq
    injection hq with hq
    subst hq
    have hc:=((hr.2 i.toNat _ (Qjc (List.getElem?_eq_getElem hml))).1 rfl).1
    show d.M w base _ x' ((inner.drop (i.toNat*d.sz)).take d.sz)
    rw[show(inner.drop (i.toNat*d.sz)).take d.sz=c from hc]
    exact d.M_mono (fun k hk=>⟨⟨ho k (hok k hk),fun he=>(h0 k he.symm).2 (hok k hk)⟩,if_pos (hok k hk)⟩) hM
  · rw[List.getElem?_set_ne (Ne.symm hmi)]at hq
    exact d.M_mono (fun k hk=>⟨⟨hk.1.1.1,hk.1.2⟩,(if_neg hk.1.1.2).trans hk.2⟩) ((hr.2 m (q,m) (Qjc hq)).2 hmi)
theorem H_widen(h:H d e w base ok v xs i oki c):H d e w base ok v xs i (fun k=>oki k∨ok k∧w.heap.size≤k) c:=by
  obtain⟨ho,f,h⟩:=h
  exact⟨fun k hk=>hk.elim (ho k) (fun h2=>h2.1),f,R_mono (R_bound h) (fun k hk=>⟨hk.1.1,fun h2=>h2.elim hk.1.2 (fun h3=>by have:=hk.2.2.1;omega)⟩)⟩
theorem H_step(h:H d e w base ok v xs i oki c)(hm:∀k,ok k→¬oki k→k<w.heap.size→w1.heap[k]? = w.heap[k]?):H d e w1 base ok v xs i oki c:=by
  obtain⟨ho,f,h⟩:=h
  exact⟨ho,f,R_step h (fun k hk hlt=>hm k hk.1 hk.2 hlt)⟩
theorem H_grown(h:H d e w base ok v xs i oki c){row:Option Nat}(hg:w.grownBy w1 row)(hrow:∀k,row=some k→oki k):H d e w1 base ok v xs i oki c :=
  H_step h (fun k _ hn hlt=>hg.block k hlt (fun he=>hn (hrow k he.symm)))
theorem H_mono(h:H d e w base ok v xs i oki c)(hok:∀k,ok k→ok' k):H d e w base ok' v xs i oki c:=by
  obtain⟨ho,f,h⟩:=h
  exact⟨fun k hk=>hok k (ho k hk),f,R_mono h (fun k hk=>⟨hok k hk.1,hk.2⟩)⟩
theorem H_more{okg:Nat→Prop}(h:H d e w base (fun k=>ok k∧¬okg k) v xs i oki c)(hg:∀k,okg k→ok k):H d e w base ok v xs i (fun k=>oki k∨okg k) c:=by
  obtain⟨ho,f,h⟩:=h
  exact⟨fun k hk=>hk.elim (fun h2=>(ho k h2).1) (hg k),f,R_mono h (fun k hk=>⟨hk.1.1,fun h2=>h2.elim hk.2 hk.1.2⟩)⟩
theorem S_elem(h:S d e W base ok (.slice (some ⟨g,0,none⟩) n cap) xs)(z:α)(i:Int)(h0:0≤i)(h1:i<n) :
    ∃(oki:Nat→Prop) (c:List Value),c.length=d.sz∧d.M W base oki (xs.getD i.toNat z) c∧(∀j u,c[j]? = some u→W.cell? ⟨g,i.toNat*d.sz+j,none⟩=some u)∧(∀j,W.frozen? ⟨g,i.toNat*d.sz+j,none⟩=false)∧(∀k,oki k→ok k∧k≠g)∧H d e W base ok (.slice (some ⟨g,0,none⟩) n cap) xs i oki c:=by
  obtain⟨_,_,_,_,hfr⟩:=Qge (S_R h) z i h0 h1
  obtain⟨oki,c,hcl,hM,hcc,hoki,hH⟩:=S_lend h z i h0 h1
  exact⟨oki,c,hcl,hM,hcc,hfr,hoki,hH⟩
theorem H_raw (h:H d e W base ok (.slice (some ⟨g,0,none⟩) n cap) xs i oki c) (h0:0≤i) (h1:i<n) :
    ∃ rows:List (List Value),rows.length=xs.length∧(raw d.sz).R e W base (fun _=>True) (.slice (some ⟨g,0,none⟩) n cap) rows∧c.length=d.sz∧(∀u∈c,u.oneCell'=true)∧(∀j u,c[j]? = some u→W.cell? ⟨g,i.toNat*d.sz+j,none⟩=some u) ∧
      ∀w1 c',W.grownBy w1 (some g)→(raw d.sz).R e w1 base (fun _=>True) (.slice (some ⟨g,0,none⟩) n cap) (rows.set i.toNat c')→H d e w1 base ok (.slice (some ⟨g,0,none⟩) n cap) xs i oki c':=by
  obtain⟨hoo,f,hR⟩:=h
  have hn:=(R_reads' hR).1
  rw[List.length_zipIdx]at hn
  have hgo:some g=(Value.slice (some ⟨g,0,none⟩) n cap).ownBlock:=by simp[Value.ownBlock]
  obtain⟨hok0,inner,ho,hr⟩:=hR
  have hil:i.toNat<xs.length:=by omega
  have hlen:inner.length=xs.length*d.sz:=by have:=hr.1;rw[List.length_zipIdx]at this;exact this
  have hkg:∀k,some k≠(Value.slice (some ⟨g,0,none⟩) n cap).ownBlock→k≠g:=fun k hk he=>hk (by rw[he];exact hgo)
  have hci:=(hr.2 i.toNat _ (Qjc (List.getElem?_eq_getElem hil))).1 rfl
  rw[hci.1]at hci
  have hc:=((hr.2 i.toNat _ (Qjc (List.getElem?_eq_getElem hil))).1 rfl).1
  refine⟨(List.range xs.length).map fun j=>(inner.drop (j*d.sz)).take d.sz,by rw[List.length_map,List.length_range],⟨fun _ _=>trivial,inner,?_,?_,fun j p hj=>?_⟩,hci.2.1,hci.2.2,fun j u hu=>?_,fun w1 c' hg hraw=>?_⟩
  · rw[List.length_map,List.length_range];rw[List.length_zipIdx]at ho;exact ho
  · rw[List.length_map,List.length_range];exact hlen
  · rw[List.getElem?_map]at hj
    obtain⟨j',hj',rfl⟩:=Option.map_eq_some_iff.1 hj
    obtain⟨hl,he⟩:=List.getElem?_eq_some_iff.1 hj'
    rw[List.getElem_range]at he
    subst he
    rw[List.length_range]at hl
    have hm:=(gap f d i.toNat c).K_of_M (hr.2 j _ (Qjc (List.getElem?_eq_getElem hl)))
    exact⟨rfl,(gap f d i.toNat c).K_len hm,(gap f d i.toNat c).K_one hm⟩
  · rw[← hc,List.getElem?_take]at hu
    split at hu
    · rw[List.getElem?_drop]at hu
      have:=ho.cells (g:=g) hgo.symm _ u hu
      rwa [Qdv]at this
    · cases hu
  · obtain⟨_,inner',ho',hr'⟩:=hraw
    have hl':inner'.length=xs.length*d.sz:=by have:=hr'.1;rw[List.length_set,List.length_map,List.length_range]at this;exact this
    rw[List.length_set,List.length_map,List.length_range]at ho'
    refine⟨hoo,f,hok0,inner',by rw[List.length_zipIdx];exact ho',by rw[List.length_zipIdx];exact hl',fun m p hm=>?_⟩
    rw[List.getElem?_zipIdx,Nat.zero_add]at hm
    obtain⟨q,hq,rfl⟩:=Option.map_eq_some_iff.1 hm
    have hml:m<xs.length:=(List.getElem?_eq_some_iff.1 hq).1
    have hold:=hr.2 m (q,m) (Qjc hq)
    refine⟨fun hx=>?_,fun hx=>?_⟩
    · have hx':m=i.toNat:=hx
      subst hx'
      exact hr'.2 i.toNat c' (List.getElem?_set_self (by rw[List.length_map,List.length_range];exact hml))
    · have hx':m≠i.toNat:=hx
      have hcm:=(hr'.2 m ((inner.drop (m*d.sz)).take d.sz) (by
        rw[List.getElem?_set_ne (Ne.symm hx'),List.getElem?_map,List.getElem?_eq_getElem (by rw[List.length_range];exact hml),List.getElem_range]
        rfl)).1
      show d.M w1 base _ q ((inner'.drop (m*d.sz)).take d.sz)
      rw[show(inner'.drop (m*d.sz)).take d.sz=_ from hcm]
      exact d.M_mono (fun k hk=>hk.1) (d.M_move (w1:=w1) (fun k hk=>hg.block k hk.2.2.1 (fun he=>hkg k hk.1.1.2 (by injection he))) (d.M_bound (hold.2 hx)))
theorem H_seg (h:H d e W base ok (.slice (some ⟨g,0,none⟩) n cap) xs i oki c) (h0:0≤i) (h1:i<n) {seg:List Value} {j:Nat} (hj:j+seg.length≤d.sz) (hone:∀q∈seg,q.oneCell'=true) :
    H d e (W.setCells g (i.toNat*d.sz+j) seg) base ok (.slice (some ⟨g,0,none⟩) n cap) xs i oki (c.take j++seg++c.drop (j+seg.length))∧W.grownBy (W.setCells g (i.toNat*d.sz+j) seg) (some g):=by
  obtain⟨rows,_,hraw,hcl,hco,hcc,hback⟩:=H_raw h h0 h1
  obtain⟨h2,h3⟩:=R_seg hraw i h0 h1 (c:=c) (seg:=seg) (j:=j) (x':=c.take j++seg++c.drop (j+seg.length)) (okp:=fun _=>False) hcl hcc hj
    ⟨rfl,by
      show(c.take j++seg++c.drop (j+seg.length)).length=d.sz
      simp only[List.length_append,List.length_take,List.length_drop];omega,fun u hu=>by
      rcases List.mem_append.1 hu with hu|hu
      · rcases List.mem_append.1 hu with hu|hu
        · exact hco u (List.mem_of_mem_take hu)
        · exact hone u hu
      · exact hco u (List.mem_of_mem_drop hu)⟩ (fun _ hk=>hk.elim)
  exact⟨hback _ _ h3 h2,h3⟩
theorem S_seg{okg:Nat→Prop}(hH:H d e W base (fun k=>ok k∧¬okg k) (.slice (some ⟨g,0,none⟩) n cap) xs i oki c)(h0:0≤i)(h1:i<n){seg:List Value}{j:Nat}(hj:j+seg.length≤d.sz)
    {x':α} (hM:d.M W base okp x' (c.take j++seg++c.drop (j+seg.length))) (hokp:∀k,okp k→oki k∨okg k) (hg:∀k,okg k→ok k∧k≠g) :
    S d e (W.setCells g (i.toNat*d.sz+j) seg) base ok (.slice (some ⟨g,0,none⟩) n cap) (xs.set i.toNat x')∧W.grownBy (W.setCells g (i.toNat*d.sz+j) seg) (some g):=by
  have hne:∀k,oki k∨okg k→k≠g:=by
    intro k hk he
    subst he
    rcases hk with hk|hk
    · obtain⟨_,f,hR⟩:=hH
      exact(hR.1 k (by simp[Value.ownBlock])).2 hk
    · exact(hg k hk).2 rfl
  obtain⟨h2,h3⟩:=H_seg (H_more hH (fun k hk=>(hg k hk).1)) h0 h1 hj (fun q hq=>d.K_one (d.K_of_M hM) q (List.mem_append_left _ (List.mem_append_right _ hq)))
  exact⟨H_back h2 (Qfk hM (fun k hk hlt=>h3.block k hlt (fun he=>hne k (hokp k hk) (by injection he)))) hokp,h3⟩
end
section
variable {P:Program} {ops:Array Oper} {rest:List Oper} {o:Oper} {a:Act} {Q:Exit→Act→World→Prop} {α:Type}
end
section
variable {α:Type} {n:Nat} {d:Kd α} {hs:0<d.sz} {w:World} {base:Nat} {ok:Nat→Prop} {xs:List α} {cs:List Value}
end
section
variable {α:Type} {n:Nat} {enc:α→Value} {h1:∀x,(enc x).oneCell'=true} {hs:0<(scalar enc h1).sz} {w:World} {base:Nat} {ok:Nat→Prop} {xs:List α} {cs:List Value}
end
structure Heap {α:Type} (d:Kd α):Prop where
  K:∀ {w w1:World} {x:α} {cs:List Value},(∀k,k<w.heap.size→w1.heap[k]? = w.heap[k]?)→d.K w x cs→d.K w1 x cs
section
variable {α:Type} {d:Kd α} {e base g n c:Nat} {ok:Nat→Prop} {w w0 W:World} {A:Option Addr} {xs:List α}
end
end Kd
end Go.Proofs.YtnnofopfbeklbaaGreatW.PrintWords
end
section
namespace Go.Proofs.YtnnofopfbeklbaaGreatW.PrintWords
open Go.RowKit
section
variable {P:Program}
end
namespace Kd
section
variable {P:Program} {ops:Array Oper} {rest:List Oper} {o:Oper} {a:Act} {Q:Exit→Act→World→Prop} {Kc:Act→World→Prop} {α:Type}
end
section
variable {α:Type} {d:Kd α} {e:Nat} {w:World} {base:Nat} {ok:Nat→Prop} {v:Value} {xs:List α}
end
section
variable {P:Program} {ops:Array Oper} {rest:List Oper} {o:Oper} {a:Act} {Q:Exit→Act→World→Prop} {Kc:Act→World→Prop} {α:Type}
end
end Kd
section
variable {w W W2:World} {S S2 S':Nat→Prop}
end
namespace Kd
section
variable {α:Type} {d:Kd α} {e base n c:Nat} {ok oki S S2:Nat→Prop} {w w0 W W1 W2:World} {v:Value} {A:Option Addr} {xs:List α} {i:Int} {cs:List Value}
end
end Kd
def Foot(P:World→Prop)(W:World)(ok:Nat→Prop):Prop:=∀W':World,(∀k,ok k→k<W.heap.size→W'.heap[k]? = W.heap[k]?)→P W'
theorem heap_lt{W W1:World}{k:Nat}(h:W1.heap[k]? = W.heap[k]?)(hlt:k<W.heap.size):k<W1.heap.size:=by
  rw[Array.getElem?_eq_getElem hlt]at h
  exact(Array.getElem?_eq_some_iff.1 h).1
namespace Foot
variable {P Q:World→Prop} {W W1:World} {ok ok':Nat→Prop}
theorem mono(h:Foot P W ok)(hok:∀k,ok k→ok' k):Foot P W ok':=fun W' hW=>h W' (fun k hk hlt=>hW k (hok k hk) hlt)
theorem step(h:Foot P W ok)(hm:∀k,ok k→k<W.heap.size→W1.heap[k]? = W.heap[k]?):Foot P W1 ok:=fun W' hW=>h W' (fun k hk hlt=>(hW k hk (heap_lt (hm k hk hlt) hlt)).trans (hm k hk hlt))
end Foot
namespace Kd
def F{α:Type}(d:Kd α)(W:World)(ok:Nat→Prop)(A:Option Addr)(n:Nat)(xs:List α):Prop:=Foot (fun W=>d.C W A n xs) W ok
def FK{α:Type}(d:Kd α)(W:World)(ok:Nat→Prop)(x:α)(c:List Value):Prop:=Foot (fun W=>d.K W x c) W ok
section
variable {α β:Type} {d:Kd α} {e base n n' cc g N:Nat} {ok ok' okp S:Nat→Prop} {w w0 w1 W W1:World} {A A':Option Addr} {u v v1:Value} {xs:List α} {xs':List β} {d':Kd β} {x:α} {c:List Value}
end
end Kd
end Go.Proofs.YtnnofopfbeklbaaGreatW.PrintWords
end
section
namespace Go.Proofs.YtnnofopfbeklbaaGreatW.PrintWords
open Go.RowKit
namespace Kd
section
variable {α:Type} {d:Kd α} {e base n cc g:Nat} {ok ok' okp S:Nat→Prop} {w w1 W W1:World} {A:Option Addr} {u v v1:Value} {xs:List α} {x:α} {c:List Value}
def N{α:Type}(d:Kd α)(e:Nat)(w:World)(base:Nat)(ok:Nat→Prop)(v:Value)(xs:List α):Prop :=
  (∀k,v.ownBlock=some k→ok k)∧∃rows:List (List Value),rows.length=xs.length∧(raw d.sz).R e w base (fun k=>some k=v.ownBlock) v rows∧∀(j:Nat) (x:α) (c:List Value),xs[j]? = some x→rows[j]? = some c→FK d w (fun k=>ok k∧some k≠v.ownBlock) x c
end
section
variable {α:Type} {d:Kd α} {W:World} {g n:Nat} {S ok:Nat→Prop} {A:Option Addr} {ad:Addr} {xs:List α}
end
section
variable {α:Type} {d:Kd α} {e base n cap g:Nat} {ok ok' okp:Nat→Prop} {w w1 W:World} {v v1:Value} {xs ys:List α}
end
section
variable {P:Program} {ops:Array Oper} {rest:List Oper} {o:Oper} {a:Act} {Q:Exit→Act→World→Prop} {Kc:Act→World→Prop} {α:Type}
end
end Kd
end Go.Proofs.YtnnofopfbeklbaaGreatW.PrintWords
end
section
namespace Go.Proofs.YtnnofopfbeklbaaGreatW.PrintWords
open Go.RowKit
section
variable {w w' u:World} {m B g:Nat} {o:Obj} {row:Option Nat} {S:Nat→Prop} {a:Addr} {v:Value}
end
namespace Kd
section
variable {α:Type} {d:Kd α} {e base n m:Nat} {ok:Nat→Prop} {w w':World} {v:Value} {A:Option Addr} {xs:List α}
end
end Kd
end Go.Proofs.YtnnofopfbeklbaaGreatW.PrintWords
end
section
namespace Go.Proofs.YtnnofopfbeklbaaGreatW.PrintWords
theorem Reps.one{α:Type}{R:α→List Value→Prop}{ps:List α}{cs:List Value}{p:α}{v:Value}(hp:R p [v])(h:Reps R 1 ps cs):Reps R 1 (p :: ps) (v :: cs):=by
  refine⟨by simp[h.1],fun j q hq=>?_⟩
  cases j with
  | zero =>
    simp only[List.getElem?_cons_zero,Option.some.injEq]at hq
    subst hq
    simpa using hp
  | succ j =>
    simp only[List.getElem?_cons_succ]at hq
    have h1:=h.2 j q hq
    simpa [Nat.mul_one]using h1
end Go.Proofs.YtnnofopfbeklbaaGreatW.PrintWords
end
section
namespace Go.Proofs.YtnnofopfbeklbaaGreatW.PrintWords
open Go.RowKit
end Go.Proofs.YtnnofopfbeklbaaGreatW.PrintWords
namespace Go.Proofs.YtnnofopfbeklbaaGreatW.PrintLast
section
variable {ops:Array Oper} {a:Act} {o og:Oper} {g:Nat} {t:Tmp} {u:Bool}
end
end Go.Proofs.YtnnofopfbeklbaaGreatW.PrintLast
end
section
namespace Go.Proofs.YtnnofopfbeklbaaGreatW.PrintMore
open Go.RowKit Go.Proofs.YtnnofopfbeklbaaGreatW.PrintWords
namespace Kd
open Go.Proofs.YtnnofopfbeklbaaGreatW.PrintWords.Kd
end Kd
namespace Kd
open Go.Proofs.YtnnofopfbeklbaaGreatW.PrintWords.Kd
section
variable {α:Type} {d:Kd α} {e base g N:Nat} {ok:Nat→Prop} {W w1:World} {u v:Value} {xs:List α}
end
end Kd
theorem Qjk(k k':IntKind)(x y:Int):Builtin.max2 (.int k x) (.int k' y)=pure (.int k (if x<y then y else x)):=by simp only[Builtin.max2,gt_iff_lt]
theorem Qjl(k k':IntKind)(x y:Int):Builtin.min2 (.int k x) (.int k' y)=pure (.int k (if y<x then y else x)):=by simp only[Builtin.min2]
theorem Qjm(ats:Array TypeId)(ty:TypeId)(a b:Value):Builtin.max_ ats ty #[a,b]=(Builtin.max2 a b >>= fun s=>pure s):=by simp only[Builtin.max_,List.foldlM_cons,List.foldlM_nil]
theorem Qjn(ats:Array TypeId)(ty:TypeId)(a b:Value):Builtin.min_ ats ty #[a,b]=(Builtin.min2 a b >>= fun s=>pure s):=by simp only[Builtin.min_,List.foldlM_cons,List.foldlM_nil]
theorem Qjo(ats:Array TypeId)(ty:TypeId)(a b c:Value):Builtin.max_ ats ty #[a,b,c]=(Builtin.max2 a b >>= fun s=>Builtin.max2 s c >>= fun s=>pure s):=by simp only[Builtin.max_,List.foldlM_cons,List.foldlM_nil]
theorem Qjp(ats:Array TypeId)(ty:TypeId)(a b c:Value):Builtin.min_ ats ty #[a,b,c]=(Builtin.min2 a b >>= fun s=>Builtin.min2 s c >>= fun s=>pure s):=by simp only[Builtin.min_,List.foldlM_cons,List.foldlM_nil]
theorem Qjq(ats:Array TypeId)(ty:TypeId)(a b c d:Value):Builtin.max_ ats ty #[a,b,c,d]=(Builtin.max2 a b >>= fun s=>Builtin.max2 s c >>= fun s=>Builtin.max2 s d >>= fun s=>pure s):=by simp only[Builtin.max_,List.foldlM_cons,List.foldlM_nil]
theorem Qjr(ats:Array TypeId)(ty:TypeId)(a b c d:Value):Builtin.min_ ats ty #[a,b,c,d]=(Builtin.min2 a b >>= fun s=>Builtin.min2 s c >>= fun s=>Builtin.min2 s d >>= fun s=>pure s):=by simp only[Builtin.min_,List.foldlM_cons,List.foldlM_nil]
end Go.Proofs.YtnnofopfbeklbaaGreatW.PrintMore
namespace Go.Proofs.YtnnofopfbeklbaaGreatW.PrintWords
open Go.RowKit
section
variable {P:Program} {ops:Array Oper} {rest:List Oper} {o:Oper} {a:Act} {Q:Exit→Act→World→Prop} {W:World}
theorem Qjs{f:FuncId}{as_:Array Operand}{ts:Array TypeId}(_ho:o.op=.call { callee:=.value (.func f),args:=as_,argTypes:=ts })(h:wpList P ops Q (o :: rest) a W):wpList P ops Q (o :: rest) a W:=h
theorem Qjt{b:Builtin}{xs:Array Operand}{ts:Array TypeId}(_ho:o.op=.call { callee:=.builtin b,args:=xs,argTypes:=ts })(h:wpList P ops Q (o :: rest) a W):wpList P ops Q (o :: rest) a W:=h
end
def mx(a b:Int):Int:=if a<b then b else a
def shl(k:IntKind)(x y:Int):Int:=k.wrap (x*2^min y.toNat k.bits)
def shr(k:IntKind)(x y:Int):Int:=x/2^min y.toNat k.bits
theorem Qju{k:IntKind}{x y j:Int}(h:shl k x y=j)(hy:y≤k.bits):k.wrap (x*2^y.toNat)=j:=by rw[← h];unfold shl;rw[Nat.min_eq_left (by omega)]
theorem Qjv{k:IntKind}{x y j:Int}(h:shr k x y=j)(hy:y≤k.bits):x/2^y.toNat=j:=by rw[← h];unfold shr;rw[Nat.min_eq_left (by omega)]
theorem Qjw(w:World)(n:Nat):w.drewN n=w.drewN n:=rfl
theorem Qjx{W:World}{o:Obj}{a:Addr}{v:Value}(h:(W.alloc o).cell? a=some v)(hlt:a.block<W.heap.size):W.cell? a=some v:=(World.cell?_alloc_lt _ _ _ hlt).symm.trans h
theorem Qjy{W w1:World}{row:Option Nat}(hg:W.grownBy w1 row){a:Addr}{v:Value}(h:W.cell? a=some v)(hne:some a.block≠row):w1.cell? a=some v:=by
  have:=hg.block a.block (World.block_lt_of_cell? W a h) hne
  simpa [World.cell?,this]using h
namespace Kd
section
variable {α:Type} {d:Kd α} {e base:Nat} {ok:Nat→Prop} {W w1:World} {v:Value} {xs:List α}
end
section
variable {α:Type} {d:Kd α} {e base g n cap:Nat} {ok oki okp:Nat→Prop} {W:World} {xs:List α} {i:Int} {c:List Value}
theorem H_at(h:H d e W base ok (.slice (some ⟨g,0,none⟩) n cap) xs i oki c)(h0:0≤i)(h1:i<n):(∀j u,c[j]? = some u→W.cell? ⟨g,i.toNat*d.sz+j,none⟩=some u)∧∀j,W.frozen? ⟨g,i.toNat*d.sz+j,none⟩=false:=by
  obtain⟨rows,_,hraw,_,_,hcc,_⟩:=H_raw h h0 h1
  obtain⟨_,_,_,_,hfr⟩:=Qge hraw [] i h0 h1
  exact⟨hcc,hfr⟩
theorem S_seg0(hH:H d e W base ok (.slice (some ⟨g,0,none⟩) n cap) xs i oki c)(h0:0≤i)(h1:i<n){seg:List Value}{j:Nat}(hj:j+seg.length≤d.sz)
    {x':α} (hM:d.M W base okp x' (c.take j++seg++c.drop (j+seg.length))) (hokp:∀k,okp k→oki k) :
    S d e (W.setCells g (i.toNat*d.sz+j) seg) base ok (.slice (some ⟨g,0,none⟩) n cap) (xs.set i.toNat x')∧W.grownBy (W.setCells g (i.toNat*d.sz+j) seg) (some g) :=
  S_seg (okg:=fun _=>False) (H_mono hH (fun _ hk=>⟨hk,fun h=>h⟩)) h0 h1 hj hM (fun k hk=>.inl (hokp k hk)) (fun _ hk=>hk.elim)
end
section
variable {α:Type} {d:Kd α} {e base b b' g N:Nat} {ok ok1:Nat→Prop} {W W2 w1:World} {u v:Value} {xs ys:List α} {S:Nat→Prop}
end
end Kd
end Go.Proofs.YtnnofopfbeklbaaGreatW.PrintWords
namespace Go.Proofs.YtnnofopfbeklbaaGreatW.PrintWords
open Go.RowKit
namespace Kd
def V{α:Type}(d:Kd α)(_e:Nat)(W:World)(_base:Nat)(ok:Nat→Prop)(v:Value)(xs:List α):Prop:=∃A c,v=.slice A xs.length c∧xs.length≤c∧F d W ok A xs.length xs
section
variable {α β:Type} {d:Kd α} {e base base' n m c g N' lo hi:Nat} {ok ok' S:Nat→Prop} {w W w1:World} {A:Option Addr} {ad:Addr} {u v v1:Value} {xs:List α}
end
end Kd
end Go.Proofs.YtnnofopfbeklbaaGreatW.PrintWords
end
section
namespace Go.Proofs.YtnnofopfbeklbaaGreat.C
open Go.RowKit Go.Proofs.YtnnofopfbeklbaaGreatW.PrintWords Go.Proofs.YtnnofopfbeklbaaGreatW.PrintLast Go.Proofs.YtnnofopfbeklbaaGreatW.PrintMore
attribute [local go_sem] Qjk Qjl Qjm Qjn Qjo Qjp Qjq Qjr
def errW:Option Int→Value
 | none=>.nilIface
 | some c=>.iface 0 (.int .i64 c)
theorem Qjz:errW none=.nilIface:=rfl
theorem Qka(c:Int):errW (some c)=.iface 0 (.int .i64 c):=rfl
theorem info3:(Tryz.prog.info? 3).map (fun i=>(i.zero,i.size,i.bytes))=some (some (.int .i64 0),1,8):=by kernel_rfl
theorem Qkb:(Tryz.prog.info? 5).map (fun i=>(i.zero,i.size,i.bytes))=some (some (.int .u8 0),1,1):=by kernel_rfl
theorem Qkc:(Tryz.prog.info? 22).map (fun i=>(i.zero,i.size,i.bytes))=some (some (.int .u32 0),1,4):=by kernel_rfl
theorem info23:(Tryz.prog.info? 23).map (fun i=>(i.zero,i.size,i.bytes))=some (some (.slice none 0 0),1,24):=by kernel_rfl
theorem Qkd:(Tryz.prog.info? 34).map (fun i=>(i.zero,i.size,i.bytes))=some (some (.int .u64 0),1,8):=by kernel_rfl
theorem Qke:(Tryz.prog.info? 39).map (fun i=>(i.zero,i.size,i.bytes))=some (some (.agg #[(.bool false),(.int .u64 0),(.string ⟨#[]⟩),(.string ⟨#[]⟩)]),4,48):=by kernel_rfl
theorem Qkf:(Tryz.prog.info? 122).map (fun i=>(i.zero,i.size,i.bytes))=some (some (.agg #[(.int .u64 0),(.int .u32 0)]),2,16):=by kernel_rfl
theorem info210:(Tryz.prog.info? 210).map (fun i=>(i.zero,i.size,i.bytes))=some (some (.agg #[(.string ⟨#[]⟩),(.string ⟨#[]⟩)]),2,32):=by kernel_rfl
structure S39 where
  f0:Bool
  f1:Int
  f2:ByteArray
  f3:ByteArray
def z39:S39:=⟨false,(0:Int),(⟨#[]⟩:ByteArray),(⟨#[]⟩:ByteArray)⟩
def k39:Kd S39:=Kd.iso (Kd.pair Kd.bool (Kd.pair (Kd.int .u64) (Kd.pair Kd.string Kd.string))) (fun x:S39=>(x.f0,x.f1,x.f2,x.f3))
theorem Qkg{w:World}{x:S39}{cs:List Value}(h:k39.K w x cs):cs=[.bool x.f0,.int .u64 x.f1,.string x.f2,.string x.f3]:=by
 obtain⟨_,_,rfl,rfl,⟨_,_,rfl,rfl,⟨_,_,rfl,rfl,rfl⟩⟩⟩:=h
 exact rfl
theorem Qkh(w:World)(base:Nat)(ok:Nat→Prop)(x:S39)  : k39.M w base ok x [.bool x.f0,.int .u64 x.f1,.string x.f2,.string x.f3]:=⟨[.bool x.f0],[.int .u64 x.f1,.string x.f2,.string x.f3],rfl,rfl,⟨[.int .u64 x.f1],[.string x.f2,.string x.f3],rfl,rfl,⟨[.string x.f2],[.string x.f3],rfl,rfl,rfl⟩⟩⟩
def Qki(xs:List S39)(i:Int):S39:=xs.getD i.toNat z39
theorem Qkj{w:World}{A:Option Addr}{n:Nat}{xs:List S39}(h:Kd.C k39 w A n xs)(i:Int)(h0:0≤i)(h1:i<n):∃ad , A=some ad∧w.cell? (ad.add (i.toNat*4))=some (.bool (Qki xs i).f0)∧w.cell? ⟨(ad.add (i.toNat*4)).block,(ad.add (i.toNat*4)).off+1,none⟩=some (.int .u64 (Qki xs i).f1)∧w.cell? ⟨(ad.add (i.toNat*4)).block,(ad.add (i.toNat*4)).off+2,none⟩=some (.string (Qki xs i).f2)∧w.cell? ⟨(ad.add (i.toNat*4)).block,(ad.add (i.toNat*4)).off+3,none⟩=some (.string (Qki xs i).f3):=by
 obtain⟨ad,c,e,_,hK,hc0⟩:=Kd.C_get h z39 i h0 h1
 have hc:∀j u,c[j]? = some u→w.cell? (ad.add (i.toNat*4+j))=some u:=hc0
 obtain rfl:=Qkg hK
 exact⟨ad,e,hc 0 _ rfl,by rw[← Qej _ _ 1 (by omega)];exact hc 1 _ rfl,by rw[← Qej _ _ 2 (by omega)];exact hc 2 _ rfl,by rw[← Qej _ _ 3 (by omega)];exact hc 3 _ rfl⟩
structure S27 where
  f0:Int
  f1:Int
structure S117 where
  f0:Int
  f1:Int
def z117:S117:=⟨(0:Int),(0:Int)⟩
def k117:Kd S117:=Kd.iso (Kd.pair (Kd.int .u64) (Kd.int .u32)) (fun x:S117=>(x.f0,x.f1))
theorem Qkk{w:World}{x:S117}{cs:List Value}(h:k117.K w x cs):cs=[.int .u64 x.f0,.int .u32 x.f1]:=by
 obtain⟨_,_,rfl,rfl,rfl⟩:=h
 exact rfl
theorem Qkl{w:World}{base:Nat}{ok:Nat→Prop}{x:S117}{cs:List Value}(h:k117.M w base ok x cs):cs=[.int .u64 x.f0,.int .u32 x.f1]:=by
 obtain⟨_,_,rfl,rfl,rfl⟩:=h
 exact rfl
theorem Qkm(w:World)(base:Nat)(ok:Nat→Prop)(x:S117)  : k117.M w base ok x [.int .u64 x.f0,.int .u32 x.f1]:=⟨[.int .u64 x.f0],[.int .u32 x.f1],rfl,rfl,rfl⟩
def Qkn(xs:List S117)(i:Int):S117:=xs.getD i.toNat z117
theorem Qko{w:World}{A:Option Addr}{n:Nat}{xs:List S117}(h:Kd.C k117 w A n xs)(i:Int)(h0:0≤i)(h1:i<n):∃ad , A=some ad∧w.cell? (ad.add (i.toNat*2))=some (.int .u64 (Qkn xs i).f0)∧w.cell? ⟨(ad.add (i.toNat*2)).block,(ad.add (i.toNat*2)).off+1,none⟩=some (.int .u32 (Qkn xs i).f1):=by
 obtain⟨ad,c,e,_,hK,hc0⟩:=Kd.C_get h z117 i h0 h1
 have hc:∀j u,c[j]? = some u→w.cell? (ad.add (i.toNat*2+j))=some u:=hc0
 obtain rfl:=Qkk hK
 exact⟨ad,e,hc 0 _ rfl,by rw[← Qej _ _ 1 (by omega)];exact hc 1 _ rfl⟩
def Qkp(xs:List (List S39))(i:Int):(List S39):=xs.getD i.toNat ([]:List S39)
theorem Qkq{w:World}{A:Option Addr}{n:Nat}{xs:List (List S39)}(h:Kd.C (Kd.slice 39 k39) w A n xs)(i:Int)(h0:0≤i)(h1:i<n):∃ad A0 c0,A=some ad∧w.cell? (ad.add i.toNat)=some (.slice A0 (Qkp xs i).length c0)∧(Qkp xs i).length≤c0∧k39.C w A0 (Qkp xs i).length (Qkp xs i):=by
 obtain⟨ad,c,e,_,hK,hc0⟩:=Kd.C_get h ([]:List S39) i h0 h1
 have hc:∀j u,c[j]? = some u→w.cell? (ad.add (i.toNat*1+j))=some u:=hc0
 obtain⟨A0,c0,rfl,l0,g0⟩:=hK
 exact⟨ad,A0,c0,e,by have hq:=hc 0 _ rfl;rwa [Nat.mul_one,Nat.add_zero]at hq,l0,g0⟩
structure S69 where
  f0:Int
  f1:Int
structure S122 where
  f0:Int
  f1:Int
def z122:S122:=⟨(0:Int),(0:Int)⟩
def k122:Kd S122:=Kd.iso (Kd.pair (Kd.int .u64) (Kd.int .u32)) (fun x:S122=>(x.f0,x.f1))
theorem Qkr{w:World}{x:S122}{cs:List Value}(h:k122.K w x cs):cs=[.int .u64 x.f0,.int .u32 x.f1]:=by
 obtain⟨_,_,rfl,rfl,rfl⟩:=h
 exact rfl
theorem Qks(w:World)(base:Nat)(ok:Nat→Prop)(x:S122)  : k122.M w base ok x [.int .u64 x.f0,.int .u32 x.f1]:=⟨[.int .u64 x.f0],[.int .u32 x.f1],rfl,rfl,rfl⟩
def Qkt(xs:List S122)(i:Int):S122:=xs.getD i.toNat z122
theorem Qku{w:World}{A:Option Addr}{n:Nat}{xs:List S122}(h:Kd.C k122 w A n xs)(i:Int)(h0:0≤i)(h1:i<n):∃ad , A=some ad∧w.cell? (ad.add (i.toNat*2))=some (.int .u64 (Qkt xs i).f0)∧w.cell? ⟨(ad.add (i.toNat*2)).block,(ad.add (i.toNat*2)).off+1,none⟩=some (.int .u32 (Qkt xs i).f1):=by
 obtain⟨ad,c,e,_,hK,hc0⟩:=Kd.C_get h z122 i h0 h1
 have hc:∀j u,c[j]? = some u→w.cell? (ad.add (i.toNat*2+j))=some u:=hc0
 obtain rfl:=Qkr hK
 exact⟨ad,e,hc 0 _ rfl,by rw[← Qej _ _ 1 (by omega)];exact hc 1 _ rfl⟩
structure S207 where
  f0:ByteArray
  f1:ByteArray
def z207:S207:=⟨(⟨#[]⟩:ByteArray),(⟨#[]⟩:ByteArray)⟩
def k207:Kd S207:=Kd.iso (Kd.pair Kd.string Kd.string) (fun x:S207=>(x.f0,x.f1))
theorem Qkv{w:World}{x:S207}{cs:List Value}(h:k207.K w x cs):cs=[.string x.f0,.string x.f1]:=by
 obtain⟨_,_,rfl,rfl,rfl⟩:=h
 exact rfl
theorem Qkw(w:World)(base:Nat)(ok:Nat→Prop)(x:S207)  : k207.M w base ok x [.string x.f0,.string x.f1]:=⟨[.string x.f0],[.string x.f1],rfl,rfl,rfl⟩
def Qkx(xs:List S207)(i:Int):S207:=xs.getD i.toNat z207
theorem at_T207{w:World}{A:Option Addr}{n:Nat}{xs:List S207}(h:Kd.C k207 w A n xs)(i:Int)(h0:0≤i)(h1:i<n):∃ad , A=some ad∧w.cell? (ad.add (i.toNat*2))=some (.string (Qkx xs i).f0)∧w.cell? ⟨(ad.add (i.toNat*2)).block,(ad.add (i.toNat*2)).off+1,none⟩=some (.string (Qkx xs i).f1):=by
 obtain⟨ad,c,e,_,hK,hc0⟩:=Kd.C_get h z207 i h0 h1
 have hc:∀j u,c[j]? = some u→w.cell? (ad.add (i.toNat*2+j))=some u:=hc0
 obtain rfl:=Qkv hK
 exact⟨ad,e,hc 0 _ rfl,by rw[← Qej _ _ 1 (by omega)];exact hc 1 _ rfl⟩
structure S210 where
  f0:ByteArray
  f1:ByteArray
def z210:S210:=⟨(⟨#[]⟩:ByteArray),(⟨#[]⟩:ByteArray)⟩
def k210:Kd S210:=Kd.iso (Kd.pair Kd.string Kd.string) (fun x:S210=>(x.f0,x.f1))
theorem Qky{w:World}{x:S210}{cs:List Value}(h:k210.K w x cs):cs=[.string x.f0,.string x.f1]:=by
 obtain⟨_,_,rfl,rfl,rfl⟩:=h
 exact rfl
theorem Qkz(w:World)(base:Nat)(ok:Nat→Prop)(x:S210)  : k210.M w base ok x [.string x.f0,.string x.f1]:=⟨[.string x.f0],[.string x.f1],rfl,rfl,rfl⟩
def Qla(xs:List S210)(i:Int):S210:=xs.getD i.toNat z210
theorem at_T210{w:World}{A:Option Addr}{n:Nat}{xs:List S210}(h:Kd.C k210 w A n xs)(i:Int)(h0:0≤i)(h1:i<n):∃ad , A=some ad∧w.cell? (ad.add (i.toNat*2))=some (.string (Qla xs i).f0)∧w.cell? ⟨(ad.add (i.toNat*2)).block,(ad.add (i.toNat*2)).off+1,none⟩=some (.string (Qla xs i).f1):=by
 obtain⟨ad,c,e,_,hK,hc0⟩:=Kd.C_get h z210 i h0 h1
 have hc:∀j u,c[j]? = some u→w.cell? (ad.add (i.toNat*2+j))=some u:=hc0
 obtain rfl:=Qky hK
 exact⟨ad,e,hc 0 _ rfl,by rw[← Qej _ _ 1 (by omega)];exact hc 1 _ rfl⟩
structure S97 where
  f0:S39
  f1:Int
  f2:Int
  f3:Int
structure S160 where
  f0:S39
  f1:Int
  f2:Int
  f3:Int
structure S164 where
  f0:Int
  f1:Int
  f2:Int
theorem qq_x{W:World}{g:Nat}{t:TypeId}{cs cs':Array Value}(h:W.heap[g]? = some (.cells cs' t (0,0)):=by((with_reducible repeat(first|apply Qfc|apply Qfb|apply Qfa|apply Qel));exact Aside0.out (by assumption)))(e:cs'=cs:=by rfl):W.heap[g]? = some (.cells cs t (0,0)):=e ▸ h
theorem qc2{W:World}{g:Nat}{t:TypeId}{v0 v1:Value}(h:W.heap[g]? = some (.cells #[v0,v1] t (0,0))):W.cell? ⟨g,0,none⟩=some v0∧W.cell? ⟨g,1,none⟩=some v1:=⟨(Qeo h 0).trans rfl,(Qeo h 1).trans rfl⟩
theorem qc4{W:World}{g:Nat}{t:TypeId}{v0 v1 v2 v3:Value}(h:W.heap[g]? = some (.cells #[v0,v1,v2,v3] t (0,0))):W.cell? ⟨g,0,none⟩=some v0∧W.cell? ⟨g,1,none⟩=some v1∧W.cell? ⟨g,2,none⟩=some v2∧W.cell? ⟨g,3,none⟩=some v3:=⟨(Qeo h 0).trans rfl,(Qeo h 1).trans rfl,(Qeo h 2).trans rfl,(Qeo h 3).trans rfl⟩
theorem qc5{W:World}{g:Nat}{t:TypeId}{v0 v1 v2 v3 v4:Value}(h:W.heap[g]? = some (.cells #[v0,v1,v2,v3,v4] t (0,0))):W.cell? ⟨g,0,none⟩=some v0∧W.cell? ⟨g,1,none⟩=some v1∧W.cell? ⟨g,2,none⟩=some v2∧W.cell? ⟨g,3,none⟩=some v3∧W.cell? ⟨g,4,none⟩=some v4:=⟨(Qeo h 0).trans rfl,(Qeo h 1).trans rfl,(Qeo h 2).trans rfl,(Qeo h 3).trans rfl,(Qeo h 4).trans rfl⟩
theorem qq_b{b:Nat}{w w':World}(h:Below b w w':=by repeat(first |(with_reducible first|exact HB.out|apply Qdq|apply Qds|apply Qgp|refine Qgk ?_ (Aside0.out (by assumption)))|exact HB.out)):Below b w w':=h
theorem qq_h{w w':World}(hb:Below w.heap.size w w'){p:Addr}{v:Value}(h:w.cell? p=some v):w'.cell? p=some v:=(hb.cell (World.block_lt_of_cell? w _ h)).trans h
theorem qq_s{w W:World}{g:Nat}(hg:g=W.heap.size)(h:Below w.heap.size w W:=by exact qq_b):w.heap.size≤g:=hg ▸ Qgh h
theorem qq_e{P:Program}{ops:Array Oper}{o:Oper}{rest:List Oper}{a:Act}{Q:Exit→Act→World→Prop}{W:World}(N:Tmp)(cs:Array Value)(t:TypeId)(h:∀g,g=W.heap.size→∀w1,w1.heap[g]? = some (.cells cs t (0,0))→Below W.heap.size W w1→wpList P ops Q rest (a.put o.dst (.pointer (some ⟨g,0,none⟩))) w1)(hgd:o.guard=none:=by rfl)(hd:o.dst=some N:=by rfl)(hrun:(execOp a.eval o).run P W=.ok (.value (.pointer (some ⟨W.heap.size,0,none⟩))) (W.alloc (.cells cs t (0,0))):=by first |(go_simp;done) |(go_simp;rfl)):wpList P ops Q (o :: rest) a W:=Qgr hgd hd hrun h
theorem qq_0{p:Prop}(h:p:=by(with_reducible repeat(first|apply Qfc|apply Qfb|apply Qfa));exact Aside0.out (by assumption)):p:=h
theorem qq_1{p:Prop}(h:p:=by(try simp only[List.map_toArray,List.map_cons,List.map_nil]);first|done|rfl |(simp only[List.length_drop,List.length_take];rfl)):p:=h
theorem qq_2{p:Prop}(h:p:=by simp only[Act.put,List.setIfInBounds_toArray,List.set_cons_zero,List.set_cons_succ,Qhv,Qhw];rfl):p:=h
theorem qq_3{p:Prop}(h:p:=by first |(simp only[Qhn,Act.put,List.setIfInBounds_toArray,List.set_cons_zero,List.set_cons_succ];done) |(simp only[Qhn,Act.put,List.setIfInBounds_toArray,List.set_cons_zero,List.set_cons_succ];rfl)):p:=h
theorem qq_4{p:Prop}(h:p:=by first |(rw[Qgm];assumption) |(show(Addr.add _ _).block≠_;rw[Qgm];assumption)|assumption):p:=h
theorem qq_5{p:Prop}(h:p:=by(with_reducible repeat(first|apply Kd.R_alloc|apply Kd.R_drewN|apply Kd.R_drew));exact Aside0.out (by assumption)):p:=h
theorem qq_6{p:Prop}(h:p:=by first |(with_reducible assumption)|assumption):p:=h
theorem qq_7{p:Prop}(h:p:=by kernel_rfl):p:=h
theorem qq_8{p:Prop}(h:p:=by first|rfl |(simp;done) |(simp[*];done)):p:=h
theorem qq_9{p:Prop}(h:p:=by(repeat(first |(with_reducible first|apply Qfc|apply Qfb|apply Qfa)|refine Qem ?_ (Aside0.out (by assumption)) _));exact Aside0.out (by assumption)):p:=h
theorem qq_10{p:Prop}(h:p:=by have:=World.block_lt_of_cell? _ _ hx315_0;first|rwa [Qgm]at this|exact this):p:=h
theorem qq_11{p:Prop}(h:p:=by(with_reducible repeat(first|apply Kd.R_alloc|apply Kd.R_drewN|apply Kd.R_drew));exact HO817.out):p:=h
theorem qq_12{p:Prop}(h:p:=by simp only[List.map_toArray,List.map_cons,List.map_nil];rfl):p:=h
theorem qq_13{p:Prop}(h:p:=by first |(go_simp;done) |(go_simp;rfl)):p:=h
theorem qq_14{p:Prop}(h:p:=by(with_reducible repeat(first|apply Kd.R_alloc|apply Kd.R_drewN|apply Kd.R_drew));exact(Kd.R_mono (Kd.R_far (p:=⟨gb447,1,none⟩) (Kd.R_far (p:=⟨gb447,0,none⟩) (Kd.R_mono HO_3.out (fun k_ hk=>(⟨hk,hk.2⟩:_∧k_≠gb447))) (fun _ hk=>hk.2) (.int .u64 ((Qkt l0 x8_1).f0))) (fun _ hk=>hk.2) (.int .u32 ((Qkt l0 x8_1).f1))) (fun _ h_=>h_.1))):p:=h
theorem qq_15{p:Prop}(h:p:=by have:=World.block_lt_of_cell? _ _ hx499_0;first|rwa [Qgm]at this|exact this):p:=h
theorem qq_16{p:Prop}(h:p:=by have:=planP_pre e s _ _ _ _ _ (congrArg Prod.snd hp);rw[hp]at this;exact this):p:=h
theorem qq_17{p:Prop}(h:p:=by(with_reducible repeat(first|apply Kd.R_alloc|apply Kd.R_drewN|apply Kd.R_drew));exact HO_5.out):p:=h
theorem qq_18{p:Prop}(h:p:=by rw[List.length_drop];omega):p:=h
theorem qq_19{p:Prop}(h:p:=by(try simp only[List.map_toArray,List.map_cons,List.map_nil]);first|done |(simp only[hji2];rfl)|rfl |(simp only[List.length_drop,List.length_take];rfl)):p:=h
theorem qq_20{p:Prop}(h:p:=by have:=HN.out;omega):p:=h
theorem qq_21{p:Prop}(h:p:=by(with_reducible repeat(first|apply Kd.R_alloc|apply Kd.R_drewN|apply Kd.R_drew));exact HO820.out):p:=h
theorem qq_22{p:Prop}(h:p:=by(with_reducible repeat(first|apply Kd.R_alloc|apply Kd.R_drewN|apply Kd.R_drew));exact HO814.out):p:=h
theorem qq_23{p:Prop}(h:p:=by simp;omega):p:=h
theorem qq_24{p:Prop}(h:p:=by rw[HG.out];exact Nat.le_refl _):p:=h
theorem qq_25{p:Prop}(h:p:=by rw[ByteArray.size_append];omega):p:=h
theorem qq_26{p:Prop}(h:p:=by have h_:((rd l1 x10_1):Int)<((y500.length:Int):Int):=of_decide_eq_true qq_6;first|exact h_ |(have e_:=(HN19.out);omega)|simpa using h_):p:=h
theorem qq_27{p:Prop}(h:p:=by have h_:((rd l1 x10_1):Int)<((x5_1.length:Int):Int):=of_decide_eq_true qq_6;first|exact h_ |(have e_:=(HN33.out);omega)|simpa using h_):p:=h
def Qal.f(a0_0:Int)(a0_1:Int):Option (Int):=if a0_0<12 then(some 1)else(if a0_0 > 24 then(some 1)else(if a0_1<1 then(some 1)else(if a0_1 > 65536 then(some 1)else(some 0))))
theorem Qal.calls(c:Int)(d:Int)(r:Int)(w:World)(h:Qal.f c d=some r) :
  Calls Tryz.prog 85 #[.agg #[.int .u8 c,.int .u32 d]] w fun e w'=>e=.returned (.int .i64 r)∧Below w.heap.size w w':=by
 have hu27:=Tryz.underlying27;have HB:=QA (Below.refl w.heap.size w);have H:(if c<12 then(some 1)else(if c > 24 then(some 1)else(if d<1 then(some 1)else(if d > 65536 then(some 1)else(some 0)))))=some r:=h;clear h
 by_cases c2:c<12
 ·rw[if_pos c2]at H;have m:decide (c<12)=true:=decide_eq_true c2;clear c2;obtain rfl:=Option.some.inj H
  go_enter Tryz.func85,Tryz.ntmps85
  go_wp2_with (first |((with_reducible refine Qgt (N:=1) rfl ?_);refine qq_e 1 #[.int .u8 c,.int .u32 d] 27 ?_;intro a hg w3 hbox hb;have n_:=qn4 (Qgi qq_b hb) (hbox) (qq_s hg:w.heap.size≤a) (qq_s hg:w.heap.size≤a);clear HB;obtain⟨HB,b,g,j⟩:=n_;clear hb hbox hg;obtain⟨x,y⟩:=qc2 b.out;have G:=Qep b.out))
  go_ret
  exact⟨by first|rfl |(simp[Qjz,Qka]<;>rfl) |(simp[*,Qjz,Qka]<;>rfl),qq_b⟩
 ·rw [if_neg c2]at H;have m:decide (c<12)=false:=decide_eq_false c2;clear c2
  by_cases c5:c > 24
  ·rw[if_pos c5]at H;have n:decide (24<c)=true:=decide_eq_true c5;clear c5;obtain rfl:=Option.some.inj H
   go_enter Tryz.func85,Tryz.ntmps85
   go_wp2_with (first |((with_reducible refine Qgt (N:=1) rfl ?_);refine qq_e 1 #[.int .u8 c,.int .u32 d] 27 ?_;intro a hg w6 hbox hb;have n_:=qn4 (Qgi qq_b hb) (hbox) (qq_s hg:w.heap.size≤a) (qq_s hg:w.heap.size≤a);clear HB;obtain⟨HB,b,g,j⟩:=n_;clear hb hbox hg;obtain⟨z,A⟩:=qc2 b.out;have I:=Qep b.out))
   go_ret
   exact⟨by first|rfl |(simp[Qjz,Qka]<;>rfl) |(simp[*,Qjz,Qka]<;>rfl),qq_b⟩
  ·rw[if_neg c5]at H;have n:decide (24<c)=false:=decide_eq_false c5;clear c5
   by_cases c8:d<1
   ·rw[if_pos c8]at H;have o:decide (d<1)=true:=decide_eq_true c8;clear c8;obtain rfl:=Option.some.inj H
    go_enter Tryz.func85,Tryz.ntmps85
    go_wp2_with (first |((with_reducible refine Qgt (N:=1) rfl ?_);refine qq_e 1 #[.int .u8 c,.int .u32 d] 27 ?_;intro a hg w9 hbox hb;have n_:=qn4 (Qgi qq_b hb) (hbox) (qq_s hg:w.heap.size≤a) (qq_s hg:w.heap.size≤a);clear HB;obtain⟨HB,b,g,j⟩:=n_;clear hb hbox hg;obtain⟨p,q⟩:=qc2 b.out;have B:=Qep b.out))
    go_ret
    exact⟨by first|rfl |(simp[Qjz,Qka]<;>rfl) |(simp[*,Qjz,Qka]<;>rfl),qq_b⟩
   ·rw[if_neg c8]at H;have o:decide (d<1)=false:=decide_eq_false c8;clear c8
    by_cases k:d > 65536
    ·rw[if_pos k]at H;have l:decide (65536<d)=true:=decide_eq_true k;clear k;obtain rfl:=Option.some.inj H
     go_enter Tryz.func85,Tryz.ntmps85
     go_wp2_with (first |((with_reducible refine Qgt (N:=1) rfl ?_);refine qq_e 1 #[.int .u8 c,.int .u32 d] 27 ?_;intro a hg J hbox hb;have n_:=qn4 (Qgi qq_b hb) (hbox) (qq_s hg:w.heap.size≤a) (qq_s hg:w.heap.size≤a);clear HB;obtain⟨HB,b,g,j⟩:=n_;clear hb hbox hg;obtain⟨s,t⟩:=qc2 b.out;have D:=Qep b.out))
     go_ret
     exact⟨by first|rfl |(simp[Qjz,Qka]<;>rfl) |(simp[*,Qjz,Qka]<;>rfl),qq_b⟩
    ·rw[if_neg k]at H;have l:decide (65536<d)=false:=decide_eq_false k;clear k;obtain rfl:=Option.some.inj H
     go_enter Tryz.func85,Tryz.ntmps85
     go_wp2_with (first |((with_reducible refine Qgt (N:=1) rfl ?_);refine qq_e 1 #[.int .u8 c,.int .u32 d] 27 ?_;intro a hg K hbox hb;have n_:=qn4 (Qgi qq_b hb) (hbox) (qq_s hg:w.heap.size≤a) (qq_s hg:w.heap.size≤a);clear HB;obtain⟨HB,b,g,j⟩:=n_;clear hb hbox hg;obtain⟨u,v⟩:=qc2 b.out;have E:=Qep b.out))
     go_ret
     exact⟨by first|rfl |(simp[Qjz,Qka]<;>rfl) |(simp[*,Qjz,Qka]<;>rfl),qq_b⟩
def Qcw.l0:Nat→List (S39)→List (S207)→Int→Int→Option ((List (S39)))
 | 0,_,_,_,_=>none
 | k+1,x3,x6,x7,x8=>if x8<x7 then(if 0≤x8 then(if x8<(x6.length:Int)then(if x3.length<2932031007402 then(Qcw.l0 k (x3++[(⟨false,IntKind.u64.wrap ((IntKind.u64.wrap (x8))+1),(Qkx x6 x8).f0,(Qkx x6 x8).f1⟩:S39)]) x6 x7 (wrap64 (x8+1)))else(none))else(none))else(none))else(some x3)
def Qcw.f(k:Nat)(l0:List (S207)):Option ((List (S39))):=Qcw.l0 k ([]:List (S39)) l0 (l0.length:Int) 0
theorem Qcw.calls(k:Nat)(A0:Option Addr)(c0:Nat)(l0:List (S207))(r:List (S39))(w:World)(hr0:Kd.C k207 w A0 l0.length l0)(hc0:l0.length≤c0)(h:Qcw.f k l0=some r) :
  Calls Tryz.prog 87 #[.slice A0 l0.length c0] w fun e w'=>∃x:Value,e=.returned (x)∧Kd.R k39 39 w' w.heap.size (fun _=>True) x r∧Below w.heap.size w w':=by
 have hu207:=Tryz.underlying207;have hu39:=Tryz.underlying39;have B:=QA hr0;have P:=QA hc0;clear hr0 hc0;have HB:=QA (Below.refl w.heap.size w);have H:(Qcw.l0 k ([]:List (S39)) l0 (l0.length:Int) 0)=some r:=h;clear h;have H':=QA H;clear H
 go_enter Tryz.func87,Tryz.ntmps87
 go_wp2
 go_loopg [3,8] k (fun kq v3 v8 w'=>∃(j:List (S39)) (x8_1:Int),v8=.int .i64 x8_1∧Aside0 (Qcw.l0 kq j l0 (l0.length:Int) x8_1=some r)∧Aside0 (kq≤k)∧Aside0 (Kd.R k39 39 w' w.heap.size (fun _=>True) v3 j)∧Aside0 (Below w.heap.size w w'))
 case atStart=>exact⟨(([]:List (S39))),(0),qq_8,H',⟨Nat.le_refl _⟩,⟨by first|exact Kd.R_nil _ _ _ _ _|exact Kd.N_nil _ _ _ _ _|exact Kd.V_nil _ _ _ _ _|exact Kd.Q_nil _ _ _ _ _|exact Kd.S_nil _ _ _ _ _⟩,⟨qq_b⟩⟩
 case round =>
  clear H';obtain⟨j,x8_1,rfl,HA,HK1,HO_3,HB⟩:=hrel
  cases gk with
  | zero=>exact absurd HA.out (by simp[Qcw.l0])
  | succ k1 =>
   have H:=HA.out;clear HA;simp only[Qcw.l0]at H
   by_cases c2:x8_1<(l0.length:Int)
   ·rw [if_pos c2]at H;have y:decide (x8_1<(l0.length:Int))=true:=decide_eq_true c2;clear c2
    by_cases c3:0≤x8_1
    ·rw[if_pos c3]at H;have K:decide (0≤x8_1)=true:=decide_eq_true c3;clear c3
     by_cases c4:x8_1<(l0.length:Int)
     ·rw[if_pos c4]at H;have L:decide (x8_1<(l0.length:Int))=true:=decide_eq_true c4;clear c4
      by_cases c5:j.length<2932031007402
      ·rw[if_pos c5]at H;have z:=QA c5;clear c5;obtain⟨s,c⟩:∃y_:List (S39),y_=(j++[(⟨false,IntKind.u64.wrap ((IntKind.u64.wrap (x8_1))+1),(Qkx l0 x8_1).f0,(Qkx l0 x8_1).f1⟩:S39)]):=⟨_,rfl⟩;replace H:(Qcw.l0 k1 s l0 (l0.length:Int) (wrap64 (x8_1+1)))=some r:=by first |(rw[c];with_reducible exact H) |(have t:=(Option.bind_some _ _).symm.trans H;rw[c];with_reducible exact t) |(have t:=(Option.bind_some _ _).symm.trans H;with_reducible exact t)|with_reducible exact H |(rw[c];exact H)|exact H
       have u:=QA c;clear c;have H':=QA H;clear H;have n:0≤(x8_1:Int):=of_decide_eq_true qq_6;have q:x8_1<(l0.length:Int):=of_decide_eq_true qq_6;obtain⟨G,A,l,m⟩:=at_T207 B.out x8_1 n q
       cases A
       replace l:=qq_h HB.out l;replace m:=qq_h HB.out m;replace n:=eq_true n;replace q:=eq_true q
       go_wp2_with (first |((with_reducible refine Qgt (N:=5) rfl ?_);refine qq_e 5 #[.string (⟨#[]⟩:ByteArray),.string (⟨#[]⟩:ByteArray)] 207 ?_;intro d hg w6 hbox hb;have n_:=qn5 (Kd.R_below qq_5 hb) (Qgi qq_b hb) (hbox) (qq_s hg:w.heap.size≤d) (qq_s hg:w.heap.size≤d);clear HO_3 HB;obtain⟨HO_3,HB,a,I,J⟩:=n_;clear hb hbox hg;obtain⟨D,E⟩:=qc2 a.out;have M:=Qep a.out) |((with_reducible refine Qjt (b:=.append) (xs:=#[.tmp 13,.tmp 22]) rfl ?_);at_builtin;refine Kd.R_append k39 (w0:=w) w.heap.size rfl (.tmp 13) (.tmp 22) 23 39 (.agg #[(.bool false),(.int .u64 0),(.string ⟨#[]⟩),(.string ⟨#[]⟩)]) 48 rfl Tryz.underlying23 Qke rfl (by decide) (by omega) u3 j (⟨false,IntKind.u64.wrap ((IntKind.u64.wrap (x8_1))+1),(Qkx l0 x8_1).f0,(Qkx l0 x8_1).f1⟩:S39) [.bool false,.int .u64 (IntKind.u64.wrap ((IntKind.u64.wrap (x8_1))+1)),.string ((Qkx l0 x8_1).f0),.string ((Qkx l0 x8_1).f1)] (fun _=>True) (fun _=>False) rfl qq_13 ?aP (fun _ hk=>hk.elim) ?aF ?aO ?aB ?aS ?aL ?_;(case aP=>exact Qkh _ _ _ (⟨false,IntKind.u64.wrap ((IntKind.u64.wrap (x8_1))+1),(Qkx l0 x8_1).f0,(Qkx l0 x8_1).f1⟩:S39));(case aB=>exact qq_b);(case aF=>exact(fun _ _=>trivial));(case aO=>exact(by(with_reducible repeat(first|apply Kd.R_alloc|apply Kd.R_drewN|apply Kd.R_drew));exact Kd.R_mono (Kd.R_far (p:=⟨d,1,none⟩) (Kd.R_far (p:=⟨d,0,none⟩) (Kd.R_types HO_3.out a.out (by decide)) (fun _ hk=>hk.2) (.string ((Qkx l0 x8_1).f0))) (fun _ hk=>hk.2) (.string ((Qkx l0 x8_1).f1))) (fun _ hk=>trivial)));(case aS=>exact(Qgh qq_b));(case aL=>have:=z.out;omega);intro O w8 ho hb hg hat;rw[← u.out]at ho;have n_:=qn3 (Qeq (g:=d) (o:=.cells #[.string ((Qkx l0 x8_1).f0),.string ((Qkx l0 x8_1).f1)] 207 (0,0)) qq_x hg (Kd.R_ne HO_3.out a.out (by decide))) (hb) (ho);clear a HB HO_3;obtain⟨a,HB,v⟩:=n_;clear ho hb hg hat))
       go_roundg k1
       case measure=>have:=HK1.out;omega
       case rel=>exact⟨(s),(wrap64 (x8_1+1)),qq_8,H',⟨by have:=HK1.out;omega⟩,⟨by(with_reducible repeat(first|apply Kd.R_alloc|apply Kd.R_drewN|apply Kd.R_drew));exact v.out⟩,⟨qq_b⟩⟩
      ·rw[if_neg c5]at H;exact absurd H (by simp)
     ·rw[if_neg c4]at H;exact absurd H (by simp)
    ·rw[if_neg c3]at H;exact absurd H (by simp)
   ·rw[if_neg c2]at H;have y:decide (x8_1<(l0.length:Int))=false:=decide_eq_false c2;clear c2;obtain rfl:=Option.some.inj H;go_wp2;go_ret
    exact⟨_,by first|rfl |(simp[Qjz,Qka]<;>rfl) |(simp[*,Qjz,Qka]<;>rfl),by(with_reducible repeat(first|apply Kd.R_alloc|apply Kd.R_drewN|apply Kd.R_drew));exact HO_3.out,qq_b⟩
def Qak.f(a0:Int):Option (Int):=if a0≤0 then(some 1)else(some (wrap64 ((wrap64 (a0+1))+(wrap64 (Int.tdiv (wrap64 (a0-1)) 254)))))
theorem Qak.calls(a0:Int)(r:Int)(w:World)(h:Qak.f a0=some r) :
  Calls Tryz.prog 197 #[.int .i64 a0] w fun e w'=>e=.returned (.int .i64 r)∧Drawn0 w w':=by
 have H:(if a0≤0 then(some 1)else(some (wrap64 ((wrap64 (a0+1))+(wrap64 (Int.tdiv (wrap64 (a0-1)) 254))))))=some r:=h;clear h
 by_cases c2:a0≤0
 ·rw[if_pos c2]at H;have c2b0:decide (a0≤0)=true:=decide_eq_true c2;clear c2;obtain rfl:=Option.some.inj H
  go_enter Tryz.func197,Tryz.ntmps197
  go_wp2;go_ret
  exact⟨by first|rfl |(simp;done) |(simp[*];done),by repeat(first|exact Drawn0.refl _|apply Drawn0.step)⟩
 ·rw[if_neg c2]at H;have c2b0:decide (a0≤0)=false:=decide_eq_false c2;clear c2;obtain rfl:=Option.some.inj H
  go_enter Tryz.func197,Tryz.ntmps197
  go_wp2;go_ret
  exact⟨by first|rfl |(simp;done) |(simp[*];done),by repeat(first|exact Drawn0.refl _|apply Drawn0.step)⟩
def Qad.f(a0:Int)(a1:Int):Option (Int):=if 0≤(Go.bits .and .u64 (IntKind.u64.wrap (a1)) 63)then(if 0≤(IntKind.u64.wrap (64-(Go.bits .and .u64 (IntKind.u64.wrap (a1)) 63)))then(some (Go.bits .or .u64 (shl .u64 a0 (Go.bits .and .u64 (IntKind.u64.wrap (a1)) 63)) (shr .u64 a0 (IntKind.u64.wrap (64-(Go.bits .and .u64 (IntKind.u64.wrap (a1)) 63))))))else(none))else(none)
theorem Qad.calls(a0:Int)(a1:Int)(r:Int)(w:World)(h:Qad.f a0 a1=some r) :
  Calls Tryz.prog 202 #[.int .u64 a0,.int .i64 a1] w fun e w'=>e=.returned (.int .u64 r)∧Drawn0 w w':=by
 have H:(if 0≤(Go.bits .and .u64 (IntKind.u64.wrap (a1)) 63)then(if 0≤(IntKind.u64.wrap (64-(Go.bits .and .u64 (IntKind.u64.wrap (a1)) 63)))then(some (Go.bits .or .u64 (shl .u64 a0 (Go.bits .and .u64 (IntKind.u64.wrap (a1)) 63)) (shr .u64 a0 (IntKind.u64.wrap (64-(Go.bits .and .u64 (IntKind.u64.wrap (a1)) 63))))))else(none))else(none))=some r:=h;clear h;obtain⟨a,j⟩:∃j_:Int,(Go.bits .and .u64 (IntKind.u64.wrap (a1)) 63)=j_:=⟨_,rfl⟩;replace H:(if 0≤(a)then(if 0≤(IntKind.u64.wrap (64-(a)))then(some (Go.bits .or .u64 (shl .u64 a0 (a)) (shr .u64 a0 (IntKind.u64.wrap (64-(a))))))else(none))else(none))=some r:=by first |(rw[j]at H;exact H) |(simp only[j]at H ⊢;exact H)
 by_cases c4:0≤(a)
 ·rw[if_pos c4]at H;have q:=eq_true c4;have s:decide (0≤(a))=true:=decide_eq_true c4;clear c4;obtain⟨g,c⟩:∃j_:Int,(shl .u64 a0 (a))=j_:=⟨_,rfl⟩;replace H:(if 0≤(IntKind.u64.wrap (64-(a)))then(some (Go.bits .or .u64 (g) (shr .u64 a0 (IntKind.u64.wrap (64-(a))))))else(none))=some r:=by first |(rw[c]at H;exact H) |(simp only[c]at H ⊢;exact H)
  have m:(IntKind.u64.wrap (a0*2^min (a).toNat 64))=g:=c;have n:(a)≤64→(IntKind.u64.wrap (a0*2^(a).toNat))=g:=Qju c;obtain⟨b,k⟩:∃j_:Int,(IntKind.u64.wrap (64-(a)))=j_:=⟨_,rfl⟩;replace H:(if 0≤(b)then(some (Go.bits .or .u64 (g) (shr .u64 a0 (b))))else(none))=some r:=by first |(rw[k]at H;exact H) |(simp only[k]at H ⊢;exact H)
  by_cases c7:0≤(b)
  ·rw[if_pos c7]at H;have t:=eq_true c7;have u:decide (0≤(b))=true:=decide_eq_true c7;clear c7;obtain⟨l,d⟩:∃j_:Int,(shr .u64 a0 (b))=j_:=⟨_,rfl⟩;replace H:(some (Go.bits .or .u64 (g) (l)))=some r:=by first |(rw[d]at H;exact H) |(simp only[d]at H ⊢;exact H)
   have o:(a0/2^min (b).toNat 64)=l:=d;have p:(b)≤64→(a0/2^(b).toNat)=l:=Qjv d;obtain rfl:=Option.some.inj H
   go_enter Tryz.func202,Tryz.ntmps202
   go_wp2;go_ret
   exact⟨by first|rfl |(simp;done) |(simp only[← j,← c,← k,← d]<;>(first|rfl|simp)) |(simp[*];done),by repeat(first|exact Drawn0.refl _|apply Drawn0.step)⟩
  ·rw[if_neg c7]at H;exact absurd H (by simp)
 ·rw[if_neg c4]at H;exact absurd H (by simp)
def Qdn.f(a0:Int)(a1:Int):Option (Int):=(Qad.f (IntKind.u64.wrap (a0+(IntKind.u64.wrap (a1*14029467366897019727)))) 31).bind fun t566=>(some (IntKind.u64.wrap (t566*11400714785074694791)))
theorem Qdn.calls(a0:Int)(a1:Int)(r:Int)(w:World)(h:Qdn.f a0 a1=some r) :
  Calls Tryz.prog 199 #[.int .u64 a0,.int .u64 a1] w fun e w'=>e=.returned (.int .u64 r)∧Drawn0 w w':=by
 have H:((Qad.f (IntKind.u64.wrap (a0+(IntKind.u64.wrap (a1*14029467366897019727)))) 31).bind fun t566=>(some (IntKind.u64.wrap (t566*11400714785074694791))))=some r:=h;clear h;replace H:=Option.bind_eq_some_iff.mp H;obtain⟨t566,A30,H⟩:=H;replace H:(some (IntKind.u64.wrap (t566*11400714785074694791)))=some r:=H;have A3:=QA A30;clear A30;obtain rfl:=Option.some.inj H
 go_enter Tryz.func199,Tryz.ntmps199
 go_wp2_with (first |((with_reducible refine Qjs (f:=202) rfl ?_);refine Qhs (some 9) rfl rfl Tryz.func202 qq_7 rfl #[.int .u64 (IntKind.u64.wrap (a0+(IntKind.u64.wrap (a1*14029467366897019727)))),.int .i64 31] rfl qq_1 ?_;(with_reducible refine(Qad.calls (IntKind.u64.wrap (a0+(IntKind.u64.wrap (a1*14029467366897019727)))) 31 t566 _ A3.out).mono ?_);rintro e w' ⟨rfl,⟨nd,rfl⟩⟩;refine⟨_,rfl,?_⟩))
 go_ret
 exact⟨by first|rfl |(simp;done) |(simp[*];done),by repeat(first|exact Drawn0.refl _|apply Drawn0.step)⟩
end Go.Proofs.YtnnofopfbeklbaaGreat.C
end
