/- Merged texts. -/
import Derived.OrdersHeld
import Derived.Deep.RegionHeld3
import Derived.Laws.BitsLemmas
import Derived.RowKit
import Derived.Test.YtnnofopfbeklbaaGreatML00
import Derived.Test.YtnnofopfbeklbaaGreatProg
import Derived.Below
import Derived.Deep.Draws
import Derived.Deep.AppendLies
import Derived.Maps.AppendAt
import Derived.OwnWalk
import Derived.Laws.BytesArg
import Derived.Laws.MakeOwn
import Derived.Laws.OwnMore
import Derived.Deep.OwnRows
import Derived.Tactics
import Derived.Lib.ConvBytes
import Derived.Laws.Slices
import Derived.WalkKit
import Derived.KernelRfl
import Derived.RowKit3
import Derived.Deep.LoopGhost
import Derived.Deep.QuietTactic
import Derived.BigQuiet
import Derived.WideLaws
import Derived.Deep.DeepCutAuto
import Derived.Deep.CutBlock
import Derived.Laws.Rows
import Derived.Lib.AppendStr
import Derived.ArgAppend
import Derived.Laws.IdiomCopy
set_option linter.unusedVariables false
set_option linter.unusedSimpArgs false
set_option maxHeartbeats 8000000
set_option maxRecDepth 100000
section
namespace Go.Proofs.YtnnofopfbeklbaaGreatW.PrintLast
section
variable {P:Program} {ops:Array Oper} {Q:Exit→Act→World→Prop} {md:Region.Mode} {S:World→Prop} {ds:List Nat}
def Region.reachB (md:Region.Mode) (ops:Array Oper) (i:Nat):Nat→Nat→Bool
  | 0,_=>false
  | fuel+1,d=>match ops[d]? with
    | some o=>o.after.any fun e=>Region.binds md e && (e.on == i || Region.reachB md ops i fuel e.on)
    | none=>false
def Region.closedB (md:Region.Mode) (ops:Array Oper) (listed:Array Bool):Bool :=
  (List.range ops.size).all fun j=>!listed.getD j false || match ops[j]? with
    | some o=>o.after.all fun e=>!Region.binds md e || listed.getD e.on false
    | none=>true
def Region.lastB(md:Region.Mode)(ops:Array Oper)(listed:Array Bool)(ds:List Nat)(i:Nat):Bool :=
  ds.all fun d=>listed.getD d true || Region.reachB md ops i ops.size d
def ListedClosed(md:Region.Mode)(ops:Array Oper)(listed:Array Bool):Prop :=
  ∀j oj,ops[j]? = some oj→listed.getD j false=true→∀e∈oj.after,Region.binds md e=true→listed.getD e.on false=true
theorem Region.closedB_spec{listed:Array Bool}(h:Region.closedB md ops listed=true):ListedClosed md ops listed:=by
  intro j oj hj hl e he hb
  have hlt:j<ops.size:=(Array.getElem?_eq_some_iff.1 hj).1
  have h1:=List.all_eq_true.1 h j (List.mem_range.2 hlt)
  simp only[hl,hj,Bool.not_true,Bool.false_or]at h1
  have h2:=Array.all_eq_true_iff_forall_mem.1 h1 e he
  simpa [hb]using h2
theorem ListedClosed.set{listed:Array Bool}{i:Nat}(h:ListedClosed md ops listed)(hi:i∈Region.ready md ops listed):ListedClosed md ops (listed.setIfInBounds i true):=by
  obtain⟨_,oi,hoi,hall⟩:=mem_ready.1 hi
  intro j oj hj hl e he hb
  by_cases hij:i=j
  · subst hij
    have:oj=oi:=Option.some.inj (hj.symm.trans hoi)
    subst this
    exact getD_set_true (hall e he hb)
  · rw[getD_set_ne false hij]at hl
    exact getD_set_true (h j oj hj hl e he hb)
theorem Region.reach_listed{listed:Array Bool}{i:Nat}(hc:ListedClosed md ops listed):∀(fuel d:Nat),Region.reachB md ops i fuel d=true→listed.getD d false=true→listed.getD i false=true
  | 0,_,h,_=>by simp[Region.reachB]at h
  | fuel+1,d,h,hl=>by
    unfold Region.reachB at h
    cases ho:ops[d]? with
    | none=>rw[ho]at h;simp at h
    | some o =>
      rw[ho]at h
      obtain⟨e,he,h1⟩:=Array.any_eq_true'.1 h
      simp only[Bool.and_eq_true,Bool.or_eq_true,beq_iff_eq]at h1
      have hle:=hc d o ho hl e he h1.1
      rcases h1.2 with h2|h2
      · rw[← h2];exact hle
      · exact Region.reach_listed hc fuel e.on h2 hle
theorem Region.reach_not_ready{listed:Array Bool}{i d fuel:Nat}(hc:ListedClosed md ops listed)(hr:Region.reachB md ops i fuel d=true)(hun:listed.getD i true=false):d∉Region.ready md ops listed:=by
  intro hd
  obtain⟨_,o,ho,hall⟩:=mem_ready.1 hd
  have hi:listed.getD i false=true:=by
    cases fuel with
    | zero=>simp[Region.reachB]at hr
    | succ n =>
      unfold Region.reachB at hr
      rw[ho]at hr
      obtain⟨e,he,h1⟩:=Array.any_eq_true'.1 hr
      simp only[Bool.and_eq_true,Bool.or_eq_true,beq_iff_eq]at h1
      have hle:=hall e he h1.1
      rcases h1.2 with h2|h2
      · rw[← h2];exact hle
      · exact Region.reach_listed hc n e.on h2 hle
  rcases Nat.lt_or_ge i listed.size with h' | h'
  · simp[h']at hun hi
    rw[hun]at hi
    cases hi
  · simp[Array.getElem?_eq_none h']at hun
def Qfv (P:Program) (md:Region.Mode) (ops:Array Oper) (Q:Exit→Act→World→Prop) (S:World→Prop) (ds:List Nat):Nat→Array Bool→Act→World→Prop
  | 0,listed,a,w=>Region.ready md ops listed=[]∧Q .normal a w
  | fuel+1,listed,a,w =>
    (Region.ready md ops listed=[]→Q .normal a w) ∧
    ∀i∈Region.ready md ops listed,wpOp P ops Q i (fun a' w'=>(i∉ds→S w→S w')∧Qfv P md ops Q S ds fuel (listed.setIfInBounds i true) a' w') a w
theorem Qfw:∀(fuel:Nat) (listed:Array Bool) (a:Act) (w:World),Qfv P md ops Q S ds fuel listed a w→wpAny P md ops Q fuel listed a w
  | 0,_,_,_,h=>h
  | fuel+1,_,_,_,h=>⟨h.1,fun i hi=>wpOp_mono (fun a' w' h'=>Qfw fuel _ a' w' h'.2) (h.2 i hi)⟩
theorem Qfx {i:Nat} {oi:Oper} {v:Value} (hi:ops[i]? = some oi) (hsel:∀(j:Nat) (o:Oper) cs b,ops[j]? = some o→o.op≠.select cs b)
    (hQ:∀c a w,Q (.panic c) (a.put oi.dst v) w→Q (.panic c) a w) (n:Nat) :
    ∀ (fuel:Nat) (listed:Array Bool) (a:Act) (w:World),
      (∀j oj,ops[j]? = some oj→j≠i→listed.getD j true=false→(∀e∈oj.after,Region.binds md e=true→e.on≠i)→oi.apart ops oj=true) →
      ListedClosed md ops listed→(∀d∈ds,listed.getD d true=false→Region.reachB md ops i n d=true) →
      i∈Region.ready md ops listed→YieldsIf P ops S oi v a→S w →
      Qfv P md ops Q S ds fuel (listed.setIfInBounds i true) (a.put oi.dst v) w→Qfv P md ops Q S ds (fuel+1) listed a w:=by
  intro fuel
  induction fuel with
  | zero =>
    intro listed a w _ _ _ hr hy hS H
    refine⟨fun h=>(by rw[h]at hr;cases hr),fun j hj=>?_⟩
    by_cases hji:j=i
    · subst hji;exact hy.wpOp hi hS ⟨fun _ h=>h,H⟩
    · have:=ready_mono hj hji
      rw[H.1]at this
      cases this
  | succ fuel ih =>
    intro listed a w hfree hc hd hr hy hS H
    refine⟨fun h=>(by rw[h]at hr;cases hr),fun j hj=>?_⟩
    by_cases hji:j=i
    · subst hji;exact hy.wpOp hi hS ⟨fun _ h=>h,H⟩
    · have h1:=H.2 j (ready_mono hj hji)
      obtain⟨hjun,oj,hoj,hall⟩:=mem_ready.1 hj
      have hiun:=(mem_ready.1 hr).1
      have hnot:∀e∈oj.after,Region.binds md e=true→e.on≠i:=fun e he hb heq=>by
        have h1:=hall e he hb
        rw[heq]at h1
        rcases Nat.lt_or_ge i listed.size with h' | h'
        · simp[h']at hiun h1;rw[hiun]at h1;cases h1
        · simp[Array.getElem?_eq_none h']at h1
      have hjd:j∉ds:=fun hm=>Region.reach_not_ready hc (hd j hm hjun) hiun hj
      have h2:=wpOp_putIf hoj (hfree j oj hoj hji hjun hnot) (fun cs b=>hsel i oi cs b hi) (fun cs b=>hsel j oj cs b hoj) hQ hy h1
      have hfree':∀k ok,ops[k]? = some ok→k≠i→(listed.setIfInBounds j true).getD k true=false →
          (∀e∈ok.after,Region.binds md e=true→e.on≠i)→oi.apart ops ok=true:=fun k ok hk hki hun hno=>by
        refine hfree k ok hk hki ?_ hno
        by_cases hjk:j=k
        · subst hjk;exact hjun
        · rw[getD_set_ne true hjk]at hun;exact hun
      have hd':∀d∈ds,(listed.setIfInBounds j true).getD d true=false→Region.reachB md ops i n d=true:=fun d hm hun=>by
        refine hd d hm ?_
        by_cases hjk:j=d
        · subst hjk;exact hjun
        · rw[getD_set_ne true hjk]at hun;exact hun
      refine wpOp_mono (fun a' w' h3=>⟨h3.2.1,ih (listed.setIfInBounds j true) a' w' hfree' (hc.set hj) hd' (ready_mono hr (Ne.symm hji)) h3.1 (h3.2.1 hjd hS) ?_⟩) h2
      rw[Array.setIfInBounds_comm _ _ hji]
      exact h3.2.2
theorem Qfy {i:Nat} {oi:Oper} {v:Value} (hi:ops[i]? = some oi) (hsel:∀(j:Nat) (o:Oper) cs b,ops[j]? = some o→o.op≠.select cs b)
    (hQ:∀c a w,Q (.panic c) (a.put oi.dst v) w→Q (.panic c) a w) :
    ∀ (fuel:Nat) (listed:Array Bool) (a:Act) (w:World),
      (∀j oj,ops[j]? = some oj→j≠i→listed.getD j true=false→(∀e∈oj.after,Region.binds md e=true→e.on≠i)→oi.apart ops oj=true) →
      i∈Region.ready md ops listed→Yields P ops oi v a →
      Qfv P md ops Q S ds fuel (listed.setIfInBounds i true) (a.put oi.dst v) w→Qfv P md ops Q S ds (fuel+1) listed a w:=by
  intro fuel
  induction fuel with
  | zero =>
    intro listed a w _ hr hy H
    refine⟨fun h=>(by rw[h]at hr;cases hr),fun j hj=>?_⟩
    by_cases hji:j=i
    · subst hji;exact(hy.yieldsIf (S:=fun _=>True)).wpOp hi trivial ⟨fun _ h=>h,H⟩
    · have:=ready_mono hj hji
      rw[H.1]at this
      cases this
  | succ fuel ih =>
    intro listed a w hfree hr hy H
    refine⟨fun h=>(by rw[h]at hr;cases hr),fun j hj=>?_⟩
    by_cases hji:j=i
    · subst hji;exact(hy.yieldsIf (S:=fun _=>True)).wpOp hi trivial ⟨fun _ h=>h,H⟩
    · have h1:=H.2 j (ready_mono hj hji)
      obtain⟨hjun,oj,hoj,hall⟩:=mem_ready.1 hj
      have hiun:=(mem_ready.1 hr).1
      have hnot:∀e∈oj.after,Region.binds md e=true→e.on≠i:=fun e he hb heq=>by
        have h1:=hall e he hb
        rw[heq]at h1
        rcases Nat.lt_or_ge i listed.size with h' | h'
        · simp[h']at hiun h1;rw[hiun]at h1;cases h1
        · simp[Array.getElem?_eq_none h']at h1
      have h2:=wpOp_put hoj (hfree j oj hoj hji hjun hnot) (fun cs b=>hsel i oi cs b hi) (fun cs b=>hsel j oj cs b hoj) hQ hy h1
      have hfree':∀k ok,ops[k]? = some ok→k≠i→(listed.setIfInBounds j true).getD k true=false →
          (∀e∈ok.after,Region.binds md e=true→e.on≠i)→oi.apart ops ok=true:=fun k ok hk hki hun hno=>by
        refine hfree k ok hk hki ?_ hno
        by_cases hjk:j=k
        · subst hjk;exact hjun
        · rw[getD_set_ne true hjk]at hun;exact hun
      refine wpOp_mono (fun a' w' h3=>⟨h3.2.1,ih (listed.setIfInBounds j true) a' w' hfree' (ready_mono hr (Ne.symm hji)) h3.1 ?_⟩) h2
      rw[Array.setIfInBounds_comm _ _ hji]
      exact h3.2.2
theorem Qfz{i:Nat}{oi:Oper}{v:Value}{fuel:Nat}{listed:Array Bool}{a:Act}{w:World}(hi:ops[i]? = some oi)
    (hs:Region.noSelect ops=true) (hf:Region.free md ops listed i=true) (hr:(Region.ready md ops listed).contains i=true)
    (hc:Region.closedB md ops listed=true) (hl:Region.lastB md ops listed ds i=true)
    (hQ:∀c a w,Q (.panic c) (a.put oi.dst v) w→Q (.panic c) a w) (hy:YieldsIf P ops S oi v a) (hS:S w)
    (h:Qfv P md ops Q S ds fuel (listed.setIfInBounds i true) (a.put oi.dst v) w):Qfv P md ops Q S ds (fuel+1) listed a w :=
  Qfx hi (Region.noSelect_spec hs) hQ ops.size fuel listed a w (Region.free_spec hi hf) (Region.closedB_spec hc)
    (fun d hm hun=>by have:=List.all_eq_true.1 hl d hm;rw[hun]at this;simpa using this) (by simpa using hr) hy hS h
theorem Qga{rs:List Nat}{fuel:Nat}{listed:Array Bool}{a:Act}{w:World}(hr:Region.ready md ops listed=rs)(hne:rs≠[])
    (h:∀i∈rs,wpOp P ops Q i (fun a' w'=>(i∉ds→S w→S w')∧Qfv P md ops Q S ds fuel (listed.setIfInBounds i true) a' w') a w):Qfv P md ops Q S ds (fuel+1) listed a w :=
  ⟨fun h0=>absurd (hr ▸ h0) hne,hr ▸ h⟩
theorem Qgb{listed:Array Bool}{a:Act}{w:World}(hr:Region.ready md ops listed=[])(h:Q .normal a w) :
    ∀fuel,Qfv P md ops Q S ds fuel listed a w
  | 0=>⟨hr,h⟩
  | _+1=>⟨fun _=>h,by rw[hr];simp⟩
theorem Qgc{id:Nat}{a:Act}{w:World}(hm:P.follows .mixedOrders=true)
    (h:Qfv P .any ops Q S ds ops.size (Array.replicate ops.size false) a { w with drawn:=w.drawn+1 }):(Code.region id ops true).wp P Q a w :=
  wp_region_any hm (Qfw _ _ _ _ h)
end
section
variable {P:Program} {ops:Array Oper} {Q:Exit→Act→World→Prop} {md:Region.Mode} {S:World→Prop} {ds:List Nat}
def AllReadyL(P:Program)(md:Region.Mode)(ops:Array Oper)(Q:Exit→Act→World→Prop)(S:World→Prop)(ds:List Nat)(fuel:Nat)(listed:Array Bool)(a:Act)(w:World)(rs:List Nat):Prop :=
  ∀i∈rs,wpOp P ops Q i (fun a' w'=>(i∉ds→S w→S w')∧Qfv P md ops Q S ds fuel (listed.setIfInBounds i true) a' w') a w
theorem AllReadyL.nil{fuel:Nat}{listed:Array Bool}{a:Act}{w:World}:AllReadyL P md ops Q S ds fuel listed a w []:=fun _ h=>by cases h
theorem AllReadyL.cons{fuel:Nat}{listed:Array Bool}{a:Act}{w:World}{i:Nat}{o:Oper}{rs:List Nat}(ho:ops[i]? = some o)(hd:i∉ds)
    (h:∀K':Act→World→Prop,Shut (∀a w,S w→(S w→Qfv P md ops Q S ds fuel (listed.setIfInBounds i true) a w)→K' a w)→if Region.wanted o (yielded ops a.tmps)=true then Oper.wp P o a w K' Q else K' (a.put o.dst undef) w)
    (hs:AllReadyL P md ops Q S ds fuel listed a w rs):AllReadyL P md ops Q S ds fuel listed a w (i :: rs):=fun j hj=>by
  rcases List.mem_cons.1 hj with rfl|hj
  · exact wpOp_step ho (fun K' hK=>h K' (fun a w hS hW=>hK a w ⟨fun _ _=>hS,hW hS⟩))
  · exact hs j hj
theorem Qgd{rs:List Nat}{fuel:Nat}{listed:Array Bool}{a:Act}{w:World}(hr:Region.ready md ops listed=rs)(hne:rs≠[])
    (h:AllReadyL P md ops Q S ds fuel listed a w rs):Qfv P md ops Q S ds (fuel+1) listed a w:=Qga hr hne h
theorem Qge{id n:Nat}{a:Act}{w:World}(l:Array Bool)(hm:P.follows .mixedOrders=true)(hn:ops.size=n)(hl:Array.replicate n false=l)(hS:S w.drew)
    (h:S w.drew→Qfv P .any ops Q S ds n l a w.drew):(Code.region id ops true).wp P Q a w:=by
  subst hn
  subst hl
  exact Qgc hm (h hS)
def Qgf(md:Region.Mode)(ops:Array Oper)(ds:List Nat)(l l':Array Bool)(i:Nat):Bool :=
  Region.noSelect ops && Region.free md ops l i && (Region.ready md ops l).contains i && Region.closedB md ops l && Region.lastB md ops l ds i && (l.setIfInBounds i true == l')
theorem take_{i:Nat}{N:Option Tmp}{oi:Oper}{v:Value}{fuel:Nat}{l:Array Bool}{a:Act}{w:World}(l':Array Bool)(hi:ops[i]? = some oi)(hN:oi.dst=N)(hc:Qgf md ops ds l l' i=true)
    (hQ:∀c a w,Q (.panic c) (a.put oi.dst v) w→Q (.panic c) a w) (hy:YieldsIf P ops S oi v a) (hS:S w) {a':Act} (ha:a.put N v=a')
    (h:Qfv P md ops Q S ds fuel l' a' w):Qfv P md ops Q S ds (fuel+1) l a w:=by
  subst ha
  subst hN
  simp only[Qgf,Bool.and_eq_true,beq_iff_eq]at hc
  obtain⟨⟨⟨⟨⟨h1,h2⟩,h3⟩,h4⟩,h5⟩,h6⟩:=hc
  subst h6
  exact Qfz hi h1 h2 h3 h4 h5 hQ hy hS h
def anyB(md:Region.Mode)(ops:Array Oper)(l l':Array Bool)(i:Nat):Bool :=
  Region.noSelect ops && Region.free md ops l i && (Region.ready md ops l).contains i && (l.setIfInBounds i true == l')
theorem pure_{i:Nat}{N:Option Tmp}{oi:Oper}{v:Value}{fuel:Nat}{l:Array Bool}{a:Act}{w:World}(l':Array Bool)(hi:ops[i]? = some oi)(hN:oi.dst=N)(hc:anyB md ops l l' i=true)
    (hQ:∀c a w,Q (.panic c) (a.put oi.dst v) w→Q (.panic c) a w) (hy:Yields P ops oi v a) {a':Act} (ha:a.put N v=a')
    (h:Qfv P md ops Q S ds fuel l' a' w):Qfv P md ops Q S ds (fuel+1) l a w:=by
  subst ha
  subst hN
  simp only[anyB,Bool.and_eq_true,beq_iff_eq]at hc
  obtain⟨⟨⟨h1,h2⟩,h3⟩,h6⟩:=hc
  subst h6
  exact Qfy hi (Region.noSelect_spec h1) hQ fuel l a w (Region.free_spec hi h2) (by simpa using h3) hy h
def Qgg(md:Region.Mode)(ops:Array Oper)(l l':Array Bool)(i:Nat):Bool:=(Region.ready md ops l == [i]) && (l.setIfInBounds i true == l')
theorem one_{i:Nat}{N:Option Tmp}{oi:Oper}{fuel:Nat}{l:Array Bool}{a:Act}{w:World}(l':Array Bool)(hi:ops[i]? = some oi)(hN:oi.dst=N)(hc:Qgg md ops l l' i=true)(hd:i∉ds)
    (h:∀K:Act→World→Prop,Shut (∀a' w',S w'→(S w'→Qfv P md ops Q S ds fuel l' a' w')→K a' w')→if Region.wanted oi (yielded ops a.tmps)=true then Oper.wp P oi a w K Q else K (a.put N undef) w) :
    Qfv P md ops Q S ds (fuel+1) l a w:=by
  subst hN
  simp only[Qgg,Bool.and_eq_true,beq_iff_eq]at hc
  obtain⟨h1,h2⟩:=hc
  subst h2
  exact Qgd h1 (by simp) (AllReadyL.cons hi hd (fun K hK=>h K hK) AllReadyL.nil)
theorem Qgh{l:Array Bool}{a:Act}{w:World}{n:Nat}(hr:(Region.ready md ops l == [])=true)(h:Q .normal a w):Qfv P md ops Q S ds n l a w:=Qgb (by simpa using hr) h n
theorem two_{i j:Nat}{Ni Nj:Option Tmp}{oi oj:Oper}{fuel:Nat}{l:Array Bool}{a:Act}{w:World}(li lj:Array Bool)(hi:ops[i]? = some oi)(hj:ops[j]? = some oj)(hNi:oi.dst=Ni)(hNj:oj.dst=Nj)
    (hc:(Region.ready md ops l == [i,j] && l.setIfInBounds i true == li && l.setIfInBounds j true == lj)=true) (hdi:i∉ds) (hdj:j∉ds)
    (h1:∀K:Act→World→Prop,Shut (∀a' w',S w'→(S w'→Qfv P md ops Q S ds fuel li a' w')→K a' w')→if Region.wanted oi (yielded ops a.tmps)=true then Oper.wp P oi a w K Q else K (a.put Ni undef) w)
    (h2:∀K:Act→World→Prop,Shut (∀a' w',S w'→(S w'→Qfv P md ops Q S ds fuel lj a' w')→K a' w')→if Region.wanted oj (yielded ops a.tmps)=true then Oper.wp P oj a w K Q else K (a.put Nj undef) w) :
    Qfv P md ops Q S ds (fuel+1) l a w:=by
  subst hNi
  subst hNj
  simp only[Bool.and_eq_true,beq_iff_eq]at hc
  obtain⟨⟨h3,h4⟩,h5⟩:=hc
  subst h4
  subst h5
  exact Qgd h3 (by simp) (AllReadyL.cons hi hdi (fun K hK=>h1 K hK) (AllReadyL.cons hj hdj (fun K hK=>h2 K hK) AllReadyL.nil))
def Qgi:Act→List (Tmp × Value)→Act
  | a,[]=>a
  | a,(n,v) :: r=>Qgi (a.put (some n) v) r
theorem join_{σ:Type}{fuel:Nat}{l:Array Bool}{a:Act}{w:World}(fuel':Nat)(l':Array Bool)(ns:σ→List (Tmp × Value))(F:σ→World→Prop)
    (hcont:∀s w',F s w'→Qfv P md ops Q S ds fuel' l' (Qgi a (ns s)) w')
    (h:(∀s w',F s w'→Qfv P md ops Q S ds fuel' l' (Qgi a (ns s)) w')→Qfv P md ops Q S ds fuel l a w):Qfv P md ops Q S ds fuel l a w:=h hcont
theorem Qgj{fuel:Nat}{l:Array Bool}{a a':Act}{w:World}(ha:a=a')(h:Qfv P md ops Q S ds fuel l a' w):Qfv P md ops Q S ds fuel l a w:=by
  subst ha
  exact h
theorem call_{oi:Oper}{N:Option Tmp}{a:Act}{w:World}{K:Act→World→Prop}(f:FuncId)(args:Array Value)(hw:Region.wanted oi (yielded ops a.tmps)=true)(hN:oi.dst=N)(hrun:(execOp a.eval oi).run P w=.ok (.enter f args) w)
    (h:Calls P f args w fun e w'=>∃v,e=.returned v∧K (a.put N v) w'):if Region.wanted oi (yielded ops a.tmps)=true then Oper.wp P oi a w K Q else K (a.put N undef) w:=by
  rw[if_pos hw]
  subst hN
  unfold Oper.wp
  rw[hrun,Oper.upon_enter]
  refine h.mono fun e w'' hh=>?_
  obtain⟨v,rfl,hk⟩:=hh
  exact hk
theorem Qgk{f:FuncId}{fn:Func}(hf:P.funcs[f]? = some fn)(hname:(fn.name == "runtime.NumGoroutine")=false)(hb:fn.body.isSome=true)(args:Array Value)(w:World):(callFunc f args).run P w=.ok (.enter f args) w:=by
  have h1:fn.name ≠ "runtime.NumGoroutine" := by simpa using hname
  obtain⟨c,hc⟩:=Option.isSome_iff_exists.1 hb
  simp[callFunc,hf,h1,hc]
theorem Qgl{oi:Oper}{N:Option Tmp}{a:Act}{w:World}{K:Act→World→Prop}{f:FuncId}{fn:Func}{as_:Array Operand}{ts:Array TypeId}(hf:P.funcs[f]? = some fn)(hname:(fn.name == "runtime.NumGoroutine")=false)(hb:fn.body.isSome=true)(args:Array Value)
    (hw:Region.wanted oi (yielded ops a.tmps)=true) (hN:oi.dst=N) (hop:oi.op=.call { callee:=.value (.func f),args:=as_,argTypes:=ts }) (hargs:as_.map a.eval=args)
    (h:Calls P f args w fun e w'=>∃v,e=.returned v∧K (a.put N v) w'):if Region.wanted oi (yielded ops a.tmps)=true then Oper.wp P oi a w K Q else K (a.put N undef) w:=by
  refine call_ f args hw hN ?_ h
  have he:=Qgk hf hname hb args w
  unfold execOp
  simp[hop,resolve,Deferred.ofValue,invoke,Act.eval,hargs,he]
theorem Qgm{rest:List Oper}{oi:Oper}{a:Act}{w:World}(N:Option Tmp)(hd:oi.dst=N)(hg:oi.guard=none){f:FuncId}{fn:Func}{as_:Array Operand}{ts:Array TypeId}(hf:P.funcs[f]? = some fn)(hname:(fn.name == "runtime.NumGoroutine")=false)(hb:fn.body.isSome=true)(args:Array Value)
    (hop:oi.op=.call { callee:=.value (.func f),args:=as_,argTypes:=ts }) (hargs:as_.map a.eval=args)
    (h:Calls P f args w fun e w'=>∃v,e=.returned v∧wpList P ops Q rest (a.put N v) w'):wpList P ops Q (oi :: rest) a w:=by
  refine wpList_plain hg fun K hK=>?_
  have he:=Qgk hf hname hb args w
  have hrun:(execOp a.eval oi).run P w=.ok (.enter f args) w:=by
    unfold execOp
    simp[hop,resolve,Deferred.ofValue,invoke,Act.eval,hargs,he]
  unfold Oper.wp
  rw[hrun,Oper.upon_enter]
  refine h.mono fun e w'' hh=>?_
  obtain⟨v,rfl,hk⟩:=hh
  subst hd
  exact hK _ _ hk
theorem Qgn{oi:Oper}{N:Option Tmp}{a:Act}{w w1:World}{v:Value}{K:Act→World→Prop}(hw:Region.wanted oi (yielded ops a.tmps)=true)(hN:oi.dst=N)(hrun:(execOp a.eval oi).run P w=.ok (.value v) w1)
    (h:K (a.put N v) w1):if Region.wanted oi (yielded ops a.tmps)=true then Oper.wp P oi a w K Q else K (a.put N undef) w:=by
  rw[if_pos hw]
  subst hN
  unfold Oper.wp
  rw[hrun]
  exact h
theorem skip_{oi:Oper}{a:Act}{w w1:World}{K:Act→World→Prop}(hw:Region.wanted oi (yielded ops a.tmps)=true)(hN:oi.dst=none)(hrun:(execOp a.eval oi).run P w=.ok .skip w1)
    (h:K a w1):if Region.wanted oi (yielded ops a.tmps)=true then Oper.wp P oi a w K Q else K (a.put none undef) w:=by
  rw[if_pos hw]
  unfold Oper.wp
  rw[hrun]
  show K (a.put oi.dst undef) w1
  rw[hN]
  exact h
theorem Qgo(n:Int):IntKind.i64.wrap n=Go.RowKit.wrap64 n:=by unfold Go.RowKit.wrap64;exact IntKind.wrap_i64 n
theorem Qgp(n:Int):IntKind.i32.wrap n=Go.RowKit.wrap32 n:=by unfold Go.RowKit.wrap32;exact IntKind.wrap_i32 n
section
variable {P:Program} {md:Region.Mode} {ops:Array Oper} {Q:Exit→Act→World→Prop} {S:World→Prop} {ds:List Nat}
theorem pz_{i:Nat}{N:Option Tmp}{oi:Oper}{v:Value}{fuel:Nat}{l:Array Bool}{a a':Act}{w:World}(l':Array Bool)(hc:anyB md ops l l' i=true)(h:Qfv P md ops Q S ds fuel l' a' w)(hi:ops[i]? = some oi:=by exact rfl)(hN:oi.dst=N:=by exact rfl)(hQ:∀c a w,Q (.panic c) (a.put oi.dst v) w→Q (.panic c) a w:=by exact fun _ _ _ h=>h)(hy:Yields P ops oi v a:=by(refine Or.inl ⟨by rfl,?_⟩;intro w';go_simp;with_reducible rfl))(ha:a.put N v=a':=by(simp only[Act.put,List.setIfInBounds_toArray,List.set_cons_zero,List.set_cons_succ,Qgo,Qgp];rfl)):Qfv P md ops Q S ds (fuel+1) l a w:=pure_ l' hi hN hc hQ hy ha h
theorem tz_{i:Nat}{N:Option Tmp}{oi:Oper}{v:Value}{fuel:Nat}{l:Array Bool}{a a':Act}{w:World}(l':Array Bool)(hc:Qgf md ops ds l l' i=true)(hS:S w)(h:Qfv P md ops Q S ds fuel l' a' w)(hi:ops[i]? = some oi:=by exact rfl)(hN:oi.dst=N:=by exact rfl)(hQ:∀c a w,Q (.panic c) (a.put oi.dst v) w→Q (.panic c) a w:=by exact fun _ _ _ h=>h)(hy:YieldsIf P ops S oi v a:=by(refine Or.inl ⟨by rfl,?_⟩;intro w';(try simp only[and_imp]);intros;go_simp;with_reducible rfl))(ha:a.put N v=a':=by(simp only[Act.put,List.setIfInBounds_toArray,List.set_cons_zero,List.set_cons_succ,Qgo,Qgp];rfl)):Qfv P md ops Q S ds (fuel+1) l a w:=take_ l' hi hN hc hQ hy hS ha h
theorem nzp_{fuel:Nat}{l:Array Bool}{a a':Act}{v:Value}{w:World}(N:Nat)(h:Qfv P md ops Q S ds fuel l a' w)(ha:Act.put a (some N) v=a':=by(simp only[Act.put,List.setIfInBounds_toArray,List.set_cons_zero,List.set_cons_succ,Qgo,Qgp];rfl)):Qfv P md ops Q S ds fuel l (Act.put a (some N) v) w:=Qgj ha h
theorem nza_{fuel:Nat}{l:Array Bool}{a a':Act}{w:World}(h:Qfv P md ops Q S ds fuel l a' w)(ha:a=a':=by(simp only[Qgi,Act.put,List.setIfInBounds_toArray,List.set_cons_zero,List.set_cons_succ];rfl)):Qfv P md ops Q S ds fuel l a w:=Qgj ha h
end
end
end Go.Proofs.YtnnofopfbeklbaaGreatW.PrintLast
end
section
namespace Go.Proofs.YtnnofopfbeklbaaGreatW.PrintLast
open Go.Proofs.YtnnofopfbeklbaaGreatW.PrintWords (Aside0)
def Qgq(md:Region.Mode)(o:Oper):List Nat:=(o.after.toList.filter (fun e=>Region.binds md e)).map (fun e=>e.on)
def Qgr(md:Region.Mode)(ops:Array Oper)(i:Nat)(oi:Oper):List Nat:=(List.range ops.size).filter fun j=>!(j == i) && match ops[j]? with
  | some oj=>!(oj.after.any (fun e=>Region.binds md e && e.on == i) || oi.apart ops oj)
  | none=>false
def rtab(md:Region.Mode)(ops:Array Oper):Bool × List (List Nat × List Nat):=(Region.noSelect ops,(List.range ops.size).map fun i=>match ops[i]? with
  | some o=>(Qgq md o,Qgr md ops i o)
  | none=>([],[]))
def Qgs(T:List (List Nat × List Nat))(l:List Bool)(i:Nat):Bool:=!l.getD i true && match T[i]? with
  | some r=>r.1.all (fun j=>l.getD j false)
  | none=>false
def Qgt(T:List (List Nat × List Nat))(l:List Bool):List Nat:=(List.range T.length).filter (Qgs T l)
def Qgu(T:List (List Nat × List Nat))(l:List Bool)(i:Nat):Bool:=match T[i]? with
  | some r=>r.2.all (fun j=>l.getD j true)
  | none=>false
def Qgv(T:List (List Nat × List Nat))(l:List Bool):Bool:=(List.range T.length).all fun j=>!l.getD j false || match T[j]? with
  | some r=>r.1.all (fun k=>l.getD k false)
  | none=>true
def Qgw (T:List (List Nat × List Nat)) (i:Nat):Nat→Nat→Bool
  | 0,_=>false
  | fuel+1,d=>match T[d]? with
    | some r=>r.1.any fun j=>j == i || Qgw T i fuel j
    | none=>false
def Qgx(T:List (List Nat × List Nat))(l:List Bool)(ds:List Nat)(i:Nat):Bool:=ds.all fun d=>l.getD d true || Qgw T i T.length d
section
variable {md:Region.Mode} {ops:Array Oper} {T:Bool × List (List Nat × List Nat)} {l l' li lj lk:Array Bool} {ds:List Nat} {i j k:Nat}
theorem gd(l:Array Bool)(j:Nat)(b:Bool):l.getD j b=l.toList.getD j b:=by simp[Array.getD_eq_getD_getElem?,List.getD_eq_getElem?_getD]
theorem Qgy(o:Oper)(p:Nat→Bool):o.after.all (fun e=>!Region.binds md e || p e.on)=(Qgq md o).all p:=by
  unfold Qgq
  rw[← Array.all_toList]
  induction o.after.toList with
  | nil=>rfl
  | cons e r ih =>
    rw[List.all_cons,ih,List.filter_cons]
    cases h:Region.binds md e<;>simp
theorem Qgz(o:Oper)(p:Nat→Bool):o.after.any (fun e=>Region.binds md e && p e.on)=(Qgq md o).any p:=by
  unfold Qgq
  rw[← Array.any_toList]
  induction o.after.toList with
  | nil=>rfl
  | cons e r ih =>
    rw[List.any_cons,ih,List.filter_cons]
    cases h:Region.binds md e<;>simp
theorem Qha:(rtab md ops).2.length=ops.size:=by simp[rtab]
theorem Qhb{o:Oper}(h:ops[i]? = some o):(rtab md ops).2[i]? = some (Qgq md o,Qgr md ops i o):=by
  have hi:=(Array.getElem?_eq_some_iff.1 h).1
  unfold rtab
  rw[List.getElem?_map,List.getElem?_range hi,Option.map_some,h]
theorem Qhc(h:ops[i]? = none):(rtab md ops).2[i]? = none:=by
  have hi:ops.size≤i:=Array.getElem?_eq_none_iff.1 h
  exact List.getElem?_eq_none (by rw[Qha];exact hi)
theorem Qhd:Qgs (rtab md ops).2 l.toList i=(!l.getD i true && ((ops[i]?).map (·.after.all fun e=>!Region.binds md e || l.getD e.on false)).getD false):=by
  unfold Qgs
  rw[gd]
  cases h:ops[i]? with
  | none=>rw[Qhc h];rfl
  | some o =>
    rw[Qhb h]
    simp only[Option.map_some,Option.getD_some]
    rw[← Qgy]
    simp only[gd]
theorem Qhe:Region.ready md ops l=Qgt (rtab md ops).2 l.toList:=by
  unfold Region.ready Qgt
  rw[Qha]
  refine List.filter_congr (fun i _=>?_)
  rw[Qhd]
theorem Qhf:Region.free md ops l i=Qgu (rtab md ops).2 l.toList i:=by
  unfold Region.free Qgu
  cases h:ops[i]? with
  | none=>rw[Qhc h]
  | some oi =>
    rw[Qhb h]
    simp only[Qgr]
    rw[List.all_filter]
    congr 1
    funext j
    rw[gd]
    cases hj:ops[j]? with
    | none=>cases (j == i)<;>cases (l.toList.getD j true)<;>simp
    | some oj =>
      cases (j == i)<;>cases (l.toList.getD j true)<;>cases (oj.after.any (fun e=>Region.binds md e && e.on == i) || oi.apart ops oj)<;>simp_all
theorem Qhg:Region.closedB md ops l=Qgv (rtab md ops).2 l.toList:=by
  unfold Region.closedB Qgv
  rw[Qha]
  congr 1
  funext j
  rw[gd]
  cases h:ops[j]? with
  | none=>rw[Qhc h]
  | some o =>
    rw[Qhb h]
    simp only
    rw[← Qgy]
    simp only[gd]
theorem Qhh:∀(fuel d:Nat),Region.reachB md ops i fuel d=Qgw (rtab md ops).2 i fuel d
  | 0,_=>rfl
  | fuel+1,d=>by
    unfold Region.reachB Qgw
    cases h:ops[d]? with
    | none=>rw[Qhc h]
    | some o =>
      rw[Qhb h]
      simp only
      rw[← Qgz]
      congr 1
      funext e
      rw[Qhh fuel]
theorem last_eq:Region.lastB md ops l ds i=Qgx (rtab md ops).2 l.toList ds i:=by
  unfold Region.lastB Qgx
  rw[Qha]
  congr 1
  funext d
  rw[gd,Qhh]
theorem Qhi(h:Qgs T.2 l.toList i=true)(hT:rtab md ops=T):(Region.ready md ops l).contains i=true:=by
  subst hT
  rw[Qhe]
  unfold Qgt
  rw[List.contains_iff_mem,List.mem_filter,List.mem_range]
  refine⟨?_,h⟩
  unfold Qgs at h
  rw[Bool.and_eq_true]at h
  cases hq:(rtab md ops).2[i]? with
  | none=>rw[hq]at h;simp at h
  | some r=>exact(List.getElem?_eq_some_iff.1 hq).1
theorem Qhj(h:(l.toList.set i true == l'.toList)=true):(l.setIfInBounds i true == l')=true:=by
  rw[beq_iff_eq]at h ⊢
  apply Array.ext'
  rw[Array.toList_setIfInBounds]
  exact h
def anyT(T:Bool × List (List Nat × List Nat))(l l':List Bool)(i:Nat):Bool:=T.1 && Qgu T.2 l i && Qgs T.2 l i && (l.set i true == l')
theorem Qhk(hT:rtab md ops=T)(h:anyT T l.toList l'.toList i=true):anyB md ops l l' i=true:=by
  simp only[anyT,Bool.and_eq_true]at h
  obtain⟨⟨⟨h1,h2⟩,h3⟩,h4⟩:=h
  have h5:=Qhi h3 hT
  have h6:=Qhj h4
  subst hT
  simp only[anyB,Bool.and_eq_true]
  exact⟨⟨⟨h1,by rw[Qhf];exact h2⟩,h5⟩,h6⟩
def takeT(T:Bool × List (List Nat × List Nat))(ds:List Nat)(l l':List Bool)(i:Nat):Bool:=T.1 && Qgu T.2 l i && Qgs T.2 l i && Qgv T.2 l && Qgx T.2 l ds i && (l.set i true == l')
theorem take_of(hT:rtab md ops=T)(h:takeT T ds l.toList l'.toList i=true):Qgf md ops ds l l' i=true:=by
  simp only[takeT,Bool.and_eq_true]at h
  obtain⟨⟨⟨⟨⟨h1,h2⟩,h3⟩,h4⟩,h5⟩,h6⟩:=h
  have h7:=Qhi h3 hT
  have h8:=Qhj h6
  subst hT
  simp only[Qgf,Bool.and_eq_true]
  exact⟨⟨⟨⟨⟨h1,by rw[Qhf];exact h2⟩,h7⟩,by rw[Qhg];exact h4⟩,by rw[last_eq];exact h5⟩,h8⟩
theorem Qhl(hT:rtab md ops=T)(h:(Qgt T.2 l.toList == [i] && l.toList.set i true == l'.toList)=true):Qgg md ops l l' i=true:=by
  simp only[Bool.and_eq_true]at h
  obtain⟨h1,h2⟩:=h
  subst hT
  simp only[Qgg,Bool.and_eq_true]
  exact⟨by rw[Qhe];exact h1,Qhj h2⟩
theorem Qhm(hT:rtab md ops=T)(h:(Qgt T.2 l.toList == [i,j] && l.toList.set i true == li.toList && l.toList.set j true == lj.toList)=true):(Region.ready md ops l == [i,j] && l.setIfInBounds i true == li && l.setIfInBounds j true == lj)=true:=by
  simp only[Bool.and_eq_true]at h ⊢
  obtain⟨⟨h1,h2⟩,h3⟩:=h
  subst hT
  exact⟨⟨by rw[Qhe];exact h1,Qhj h2⟩,Qhj h3⟩
theorem Qhn(hT:rtab md ops=T)(h:(Qgt T.2 l.toList == [])=true):(Region.ready md ops l == [])=true:=by
  subst hT
  rw[Qhe]
  exact h
def upM(B:List Nat)(d:Nat):List Nat→Nat
  | []=>0
  | n :: r=>(2^n |||(if n<d then B.getD n 0 else 0)) ||| upM B d r
def Qho(T:List (List Nat × List Nat))(B:List Nat):Bool:=(List.range T.length).all fun d=>match T[d]? with
  | some r=>(B.getD d 0 ||| upM B d r.1) == upM B d r.1
  | none=>false
theorem Qhp {B:List Nat} {d i:Nat}:∀ {ns:List Nat},(upM B d ns).testBit i=true→∃n∈ns,n=i∨(n<d∧(B.getD n 0).testBit i=true)
  | [],h=>by simp[upM]at h
  | n :: r,h=>by
    unfold upM at h
    rw[Nat.testBit_or,Nat.testBit_or,Bool.or_eq_true,Bool.or_eq_true]at h
    rcases h with(h|h)|h
    · rw[Nat.testBit_two_pow]at h
      exact⟨n,List.mem_cons_self,.inl (by simpa using h)⟩
    · by_cases hn:n<d
      · rw[if_pos hn]at h
        exact⟨n,List.mem_cons_self,.inr ⟨hn,h⟩⟩
      · rw[if_neg hn]at h
        simp at h
    · obtain⟨m,hm,h2⟩:=Qhp h
      exact⟨m,List.mem_cons_of_mem _ hm,h2⟩
theorem Qhq{T:List (List Nat × List Nat)}{B:List Nat}(hB:Qho T B=true):∀(fuel d:Nat),d<fuel→d<T.length→(B.getD d 0).testBit i=true→Qgw T i fuel d=true
  | 0,d,h,_,_=>by omega
  | fuel+1,d,h,hd,hb=>by
    have h1:=List.all_eq_true.1 hB d (List.mem_range.2 hd)
    cases hr:T[d]? with
    | none=>rw[hr]at h1;simp at h1
    | some r =>
      rw[hr]at h1
      simp only[beq_iff_eq]at h1
      have h2:(upM B d r.1).testBit i=true:=by rw[← h1,Nat.testBit_or,hb,Bool.true_or]
      obtain⟨n,hn,h3⟩:=Qhp h2
      unfold Qgw
      rw[hr]
      simp only
      rw[List.any_eq_true]
      refine⟨n,hn,?_⟩
      rcases h3 with rfl |⟨h4,h5⟩
      · simp
      · rw[Qhq hB fuel n (by omega) (by omega) h5,Bool.or_true]
def lastW(T:List (List Nat × List Nat))(B:List Nat)(l:List Bool)(ds:List Nat)(i:Nat):Bool:=ds.all fun d=>l.getD d true ||(decide (d<T.length) && (B.getD d 0).testBit i)
def takeW(T:Bool × List (List Nat × List Nat))(B:List Nat)(ds:List Nat)(l l':List Bool)(i:Nat):Bool:=T.1 && Qgu T.2 l i && Qgs T.2 l i && Qgv T.2 l && lastW T.2 B l ds i && (l.set i true == l')
theorem Qhr{B:List Nat}(hT:rtab md ops=T)(hB:Qho T.2 B=true)(h:takeW T B ds l.toList l'.toList i=true):Qgf md ops ds l l' i=true:=by
  refine take_of hT ?_
  simp only[takeW,takeT,Bool.and_eq_true]at h ⊢
  obtain⟨⟨⟨⟨⟨h1,h2⟩,h3⟩,h4⟩,h5⟩,h6⟩:=h
  refine⟨⟨⟨⟨⟨h1,h2⟩,h3⟩,h4⟩,?_⟩,h6⟩
  unfold lastW at h5
  unfold Qgx
  rw[List.all_eq_true]at h5 ⊢
  intro d hd
  have h7:=h5 d hd
  rw[Bool.or_eq_true,Bool.and_eq_true,decide_eq_true_eq]at h7
  rcases h7 with h7 |⟨h8,h9⟩
  · rw[h7,Bool.true_or]
  · rw[Qhq hB _ d h8 h8 h9,Bool.or_true]
theorem Qhs{P:Program}{Q:Exit→Act→World→Prop}{S:World→Prop}{n:Nat}{a:Act}{w:World}{B:List Nat}(hT:rtab md ops=T)(hB:Qho T.2 B=true)(h:Aside0 (rtab md ops=T)→Aside0 (Qho T.2 B=true)→Qfv P md ops Q S ds n l a w):Qfv P md ops Q S ds n l a w:=h ⟨hT⟩ ⟨hB⟩
end
def Qht:Code→Nat→Option (Array Oper)
  | .region id ops _,k=>if id == k then some ops else none
  | .seq a b,k=>match Qht a k with
    | some o=>some o
    | none=>Qht b k
  | .cond _ a b,k=>match Qht a k with
    | some o=>some o
    | none=>Qht b k
  | .block _ c,k=>Qht c k
  | .loop c,k=>Qht c k
  | .scope c,k=>Qht c k
  | .rangeFunc _ _ a b,k=>match Qht a k with
    | some o=>some o
    | none=>Qht b k
  | _,_=>none
def Qhu(f:Func)(k:Nat):Array Oper:=((f.body.bind fun c=>Qht c k)).getD #[]
end Go.Proofs.YtnnofopfbeklbaaGreatW.PrintLast
end
section
namespace Go.Proofs.YtnnofopfbeklbaaGreatW.PrintLast
section
variable {P:Program} {ops:Array Oper} {Q:Exit→Act→World→Prop} {md:Region.Mode} {S:World→Prop} {ds:List Nat} {T:Bool × List (List Nat × List Nat)}
end
section
variable {P:Program} {ops:Array Oper} {Q:Exit→Act→World→Prop} {md:Region.Mode} {T:Bool × List (List Nat × List Nat)} {B:List Nat} {O:List Nat} {b:Nat→Bool} {i j n:Nat}
end
end Go.Proofs.YtnnofopfbeklbaaGreatW.PrintLast
end
section
namespace Go.Proofs.YtnnofopfbeklbaaGreatW.PrintWords
open Go.RowKit
namespace Kd
section
variable {α:Type} {d:Kd α} {e base g o n cap:Nat} {ok okp:Nat→Prop} {w W:World} {v:Value} {xs:List α}
end
section
variable {α:Type} {enc:α→Value} {h1:∀x,(enc x).oneCell'=true} {e base g o n cap:Nat} {ok:Nat→Prop} {W:World} {xs:List α}
end
def tag{α:Type}(f:Nat→Nat)(d:Kd α):Kd (α × Nat) where
  sz:=d.sz
  E:=d.E
  K:=fun w x cs=>d.K w x.1 cs
  M:=fun w base ok x cs=>d.M w base (fun k=>ok k∧f k=x.2) x.1 cs
  K_len:=fun h=>d.K_len h
  K_one:=fun h=>d.K_one h
  K_below:=fun hb h=>d.K_below hb h
  K_of_M:=fun h=>d.K_of_M h
  M_mono:=fun hok h=>d.M_mono (fun k hk=>⟨hok k hk.1,hk.2⟩) h
  M_bound:=fun h=>d.M_mono (fun _ hk=>⟨⟨hk.1.1,hk.2⟩,hk.1.2⟩) (d.M_bound h)
  M_move:=fun hm h=>d.M_move (fun k hk=>hm k hk.1) h
  M_lower:=fun hb h=>d.M_lower hb h
def raw(sz:Nat):Kd (List Value) where
  sz:=sz
  E:=[]
  K:=fun _ x cs=>cs=x∧cs.length=sz∧∀u∈cs,u.oneCell'=true
  M:=fun _ _ _ x cs=>cs=x∧cs.length=sz∧∀u∈cs,u.oneCell'=true
  K_len:=fun h=>h.2.1
  K_one:=fun h=>h.2.2
  K_below:=fun _ h=>h
  K_of_M:=fun h=>h
  M_mono:=fun _ h=>h
  M_bound:=fun h=>h
  M_move:=fun _ h=>h
  M_lower:=fun _ h=>h
def S{α:Type}(d:Kd α)(e:Nat)(w:World)(base:Nat)(ok:Nat→Prop)(v:Value)(xs:List α):Prop:=∃f,(tag f d).R e w base ok v xs.zipIdx
section
variable {α β:Type} {d:Kd α} {d':Kd β} {e e':Nat} {w w1 W:World} {base b:Nat} {ok ok' okv oku:Nat→Prop} {u v:Value} {xs:List α} {ys:List β}
theorem R_tight(hE:d.E=[])(h:d.R e w base ok v xs):d.R e w base (fun k=>some k=v.ownBlock) v xs:=by
  obtain⟨h0,inner,ho,hr⟩:=h
  refine⟨fun k hk=>hk.symm,inner,ho,hr.imp_ (fun p c hp=>d.M_mono (fun k hk=>?_) (d.M_bound hp))⟩
  obtain⟨_,_,_,q,hq,_⟩:=hk
  rw[hE]at hq
  cases hq
end
section
variable {α β:Type} {d:Kd α} {d':Kd β} {e e' g:Nat} {w w1 W:World} {base b:Nat} {ok ok' okv oku:Nat→Prop} {u v:Value} {xs:List α} {ys:List β}
end
section
open Classical in
variable {P:Program} {ops:Array Oper} {rest:List Oper} {o:Oper} {a:Act} {Q:Exit→Act→World→Prop} {Kc:Act→World→Prop} {α:Type}
end
def gap {α:Type} (f:Nat→Nat) (d:Kd α) (i:Nat) (c:List Value):Kd (α × Nat) where
  sz:=d.sz
  E:=d.E
  K:=fun w x cs=>(x.2=i→cs=c∧cs.length=d.sz∧∀u∈cs,u.oneCell'=true)∧(x.2≠i→d.K w x.1 cs)
  M:=fun w base ok x cs=>(x.2=i→cs=c∧cs.length=d.sz∧∀u∈cs,u.oneCell'=true)∧(x.2≠i→d.M w base (fun k=>ok k∧f k=x.2) x.1 cs)
  K_len:=fun {w x cs} h=>by
    by_cases hx:x.2=i
    · exact(h.1 hx).2.1
    · exact d.K_len (h.2 hx)
  K_one:=fun {w x cs} h=>by
    by_cases hx:x.2=i
    · exact(h.1 hx).2.2
    · exact d.K_one (h.2 hx)
  K_below:=fun hb h=>⟨h.1,fun hx=>d.K_below hb (h.2 hx)⟩
  K_of_M:=fun h=>⟨h.1,fun hx=>d.K_of_M (h.2 hx)⟩
  M_mono:=fun hok h=>⟨h.1,fun hx=>d.M_mono (fun k hk=>⟨hok k hk.1,hk.2⟩) (h.2 hx)⟩
  M_bound:=fun h=>⟨h.1,fun hx=>d.M_mono (fun _ hk=>⟨⟨hk.1.1,hk.2⟩,hk.1.2⟩) (d.M_bound (h.2 hx))⟩
  M_move:=fun hm h=>⟨h.1,fun hx=>d.M_move (fun k hk=>hm k hk.1) (h.2 hx)⟩
  M_lower:=fun hb h=>⟨h.1,fun hx=>d.M_lower hb (h.2 hx)⟩
def H{α:Type}(d:Kd α)(e:Nat)(w:World)(base:Nat)(ok:Nat→Prop)(v:Value)(xs:List α)(i:Int)(oki:Nat→Prop)(c:List Value):Prop :=
  (∀k,oki k→ok k)∧∃f,(gap f d i.toNat c).R e w base (fun k=>ok k∧¬oki k) v xs.zipIdx
section
variable {α β:Type} {d:Kd α} {e e' g n cap:Nat} {w w1 W:World} {base:Nat} {ok ok' oki okp:Nat→Prop} {u v:Value} {xs:List α} {i:Int} {c:List Value}
open Classical in
end
section
variable {P:Program} {ops:Array Oper} {rest:List Oper} {o:Oper} {a:Act} {Q:Exit→Act→World→Prop} {α:Type}
end
section
variable {α:Type} {n:Nat} {d:Kd α} {hs:0<d.sz} {w:World} {base:Nat} {ok:Nat→Prop} {xs:List α} {cs:List Value}
end
section
variable {α:Type} {n:Nat} {enc:α→Value} {h1:∀x,(enc x).oneCell'=true} {hs:0<(scalar enc h1).sz} {w:World} {base:Nat} {ok:Nat→Prop} {xs:List α} {cs:List Value}
end
structure Heap {α:Type} (d:Kd α):Prop where
  K:∀ {w w1:World} {x:α} {cs:List Value},(∀k,k<w.heap.size→w1.heap[k]? = w.heap[k]?)→d.K w x cs→d.K w1 x cs
section
variable {α:Type} {d:Kd α} {e base g n c:Nat} {ok:Nat→Prop} {w w0 W:World} {A:Option Addr} {xs:List α}
end
end Kd
end Go.Proofs.YtnnofopfbeklbaaGreatW.PrintWords
end
section
namespace Go.Proofs.YtnnofopfbeklbaaGreatW.PrintWords
open Go.RowKit
section
variable {P:Program}
end
namespace Kd
section
variable {P:Program} {ops:Array Oper} {rest:List Oper} {o:Oper} {a:Act} {Q:Exit→Act→World→Prop} {Kc:Act→World→Prop} {α:Type}
end
section
variable {α:Type} {d:Kd α} {e:Nat} {w:World} {base:Nat} {ok:Nat→Prop} {v:Value} {xs:List α}
end
section
variable {P:Program} {ops:Array Oper} {rest:List Oper} {o:Oper} {a:Act} {Q:Exit→Act→World→Prop} {Kc:Act→World→Prop} {α:Type}
end
end Kd
section
variable {w W W2:World} {S S2 S':Nat→Prop}
end
namespace Kd
section
variable {α:Type} {d:Kd α} {e base n c:Nat} {ok oki S S2:Nat→Prop} {w w0 W W1 W2:World} {v:Value} {A:Option Addr} {xs:List α} {i:Int} {cs:List Value}
end
end Kd
def Foot(P:World→Prop)(W:World)(ok:Nat→Prop):Prop:=∀W':World,(∀k,ok k→k<W.heap.size→W'.heap[k]? = W.heap[k]?)→P W'
theorem Qhv{W W1:World}{k:Nat}(h:W1.heap[k]? = W.heap[k]?)(hlt:k<W.heap.size):k<W1.heap.size:=by
  rw[Array.getElem?_eq_getElem hlt]at h
  exact(Array.getElem?_eq_some_iff.1 h).1
namespace Foot
variable {P Q:World→Prop} {W W1:World} {ok ok':Nat→Prop}
theorem now(h:Foot P W ok):P W:=h W (fun _ _ _=>rfl)
theorem mono(h:Foot P W ok)(hok:∀k,ok k→ok' k):Foot P W ok':=fun W' hW=>h W' (fun k hk hlt=>hW k (hok k hk) hlt)
theorem bound(h:Foot P W ok):Foot P W (fun k=>ok k∧k<W.heap.size):=fun W' hW=>h W' (fun k hk hlt=>hW k ⟨hk,hlt⟩ hlt)
theorem step(h:Foot P W ok)(hm:∀k,ok k→k<W.heap.size→W1.heap[k]? = W.heap[k]?):Foot P W1 ok:=fun W' hW=>h W' (fun k hk hlt=>(hW k hk (Qhv (hm k hk hlt) hlt)).trans (hm k hk hlt))
theorem imp(h:Foot P W ok)(hi:∀W',P W'→Q W'):Foot Q W ok:=fun W' hW=>hi W' (h W' hW)
theorem old(h:Foot P W ok)(hb:Below W.heap.size W W1):Foot P W1 (fun k=>ok k∧k<W.heap.size):=(h.bound).step (fun k _ hlt=>hb.block k hlt)
end Foot
namespace Kd
def F{α:Type}(d:Kd α)(W:World)(ok:Nat→Prop)(A:Option Addr)(n:Nat)(xs:List α):Prop:=Foot (fun W=>d.C W A n xs) W ok
def FK{α:Type}(d:Kd α)(W:World)(ok:Nat→Prop)(x:α)(c:List Value):Prop:=Foot (fun W=>d.K W x c) W ok
section
variable {α β:Type} {d:Kd α} {e base n n' cc g N:Nat} {ok ok' okp S:Nat→Prop} {w w0 w1 W W1:World} {A A':Option Addr} {u v v1:Value} {xs:List α} {xs':List β} {d':Kd β} {x:α} {c:List Value}
theorem F_now(h:F d W ok A n xs):d.C W A n xs:=Foot.now h
theorem Qhw(h:F d W ok A n xs)(hok:∀k,ok k→ok' k):F d W ok' A n xs:=Foot.mono h hok
theorem F_bound(h:F d W ok A n xs):F d W (fun k=>ok k∧k<W.heap.size) A n xs:=Foot.bound h
theorem F_step(h:F d W ok A n xs)(hm:∀k,ok k→k<W.heap.size→W1.heap[k]? = W.heap[k]?):F d W1 ok A n xs:=Foot.step h hm
theorem F_imp(h:F d W ok A n xs)(hi:∀W',d.C W' A n xs→d'.C W' A' n' xs'):F d' W ok A' n' xs':=Foot.imp h hi
theorem F_below(h:F d W ok A n xs)(hb:Below W.heap.size W W1):F d W1 ok A n xs:=F_step h (fun k _ hlt=>hb.block k hlt)
theorem F_drewN(h:F d W ok A n xs)(m:Nat):F d (W.drewN m) ok A n xs:=F_below h (Qcy (Below.refl _ _) m)
theorem Qhx(h:F d W ok A n xs)(hbase:∀k,v.ownBlock=some k→W.heap.size≤k)(hb:Below W.heap.size W W1):F d W1 (fun k=>ok k∧some k≠v.ownBlock) A n xs :=
  Qhw (Foot.old h hb) (fun k hk=>⟨hk.1,fun he=>by have:=hbase k he.symm;have:=hk.2;omega⟩)
theorem F_after(h:F d W (fun k=>ok k∧some k≠v.ownBlock) A n xs)(hg:W.grownBy W1 v.ownBlock)(hat:v1.ownBlock=v.ownBlock∨∃b,v1.ownBlock=some b∧W.heap.size≤b):F d W1 (fun k=>ok k∧some k≠v1.ownBlock) A n xs:=by
  refine Qhw (Foot.step (F_bound h) (fun k hk hlt=>hg.block k hlt hk.1.2)) (fun k hk=>⟨hk.1.1,?_⟩)
  rcases hat with hat |⟨b,hb,hle⟩
  · rw[hat];exact hk.1.2
  · rw[hb]
    intro he
    injection he with he
    have:=hk.2
    omega
end
end Kd
end Go.Proofs.YtnnofopfbeklbaaGreatW.PrintWords
end
section
namespace Go.Proofs.YtnnofopfbeklbaaGreatW.PrintWords
open Go.RowKit
namespace Kd
section
variable {α:Type} {d:Kd α} {e base n cc g:Nat} {ok ok' okp S:Nat→Prop} {w w1 W W1:World} {A:Option Addr} {u v v1:Value} {xs:List α} {x:α} {c:List Value}
def N{α:Type}(d:Kd α)(e:Nat)(w:World)(base:Nat)(ok:Nat→Prop)(v:Value)(xs:List α):Prop :=
  (∀k,v.ownBlock=some k→ok k)∧∃rows:List (List Value),rows.length=xs.length∧(raw d.sz).R e w base (fun k=>some k=v.ownBlock) v rows∧∀(j:Nat) (x:α) (c:List Value),xs[j]? = some x→rows[j]? = some c→FK d w (fun k=>ok k∧some k≠v.ownBlock) x c
end
section
variable {α:Type} {d:Kd α} {W:World} {g n:Nat} {S ok:Nat→Prop} {A:Option Addr} {ad:Addr} {xs:List α}
end
section
variable {α:Type} {d:Kd α} {e base n cap g:Nat} {ok ok' okp:Nat→Prop} {w w1 W:World} {v v1:Value} {xs ys:List α}
end
section
variable {P:Program} {ops:Array Oper} {rest:List Oper} {o:Oper} {a:Act} {Q:Exit→Act→World→Prop} {Kc:Act→World→Prop} {α:Type}
end
end Kd
end Go.Proofs.YtnnofopfbeklbaaGreatW.PrintWords
end
section
namespace Go.Proofs.YtnnofopfbeklbaaGreatW.PrintWords
open Go.RowKit
section
variable {w w' u:World} {m B g:Nat} {o:Obj} {row:Option Nat} {S:Nat→Prop} {a:Addr} {v:Value}
end
namespace Kd
section
variable {α:Type} {d:Kd α} {e base n m:Nat} {ok:Nat→Prop} {w w':World} {v:Value} {A:Option Addr} {xs:List α}
end
end Kd
end Go.Proofs.YtnnofopfbeklbaaGreatW.PrintWords
end
section
namespace Go.Proofs.YtnnofopfbeklbaaGreatW.PrintWords
theorem Reps.one{α:Type}{R:α→List Value→Prop}{ps:List α}{cs:List Value}{p:α}{v:Value}(hp:R p [v])(h:Reps R 1 ps cs):Reps R 1 (p :: ps) (v :: cs):=by
  refine⟨by simp[h.1],fun j q hq=>?_⟩
  cases j with
  | zero =>
    simp only[List.getElem?_cons_zero,Option.some.injEq]at hq
    subst hq
    simpa using hp
  | succ j =>
    simp only[List.getElem?_cons_succ]at hq
    have h1:=h.2 j q hq
    simpa [Nat.mul_one]using h1
end Go.Proofs.YtnnofopfbeklbaaGreatW.PrintWords
end
section
namespace Go.Proofs.YtnnofopfbeklbaaGreatW.PrintWords
open Go.RowKit
end Go.Proofs.YtnnofopfbeklbaaGreatW.PrintWords
namespace Go.Proofs.YtnnofopfbeklbaaGreatW.PrintLast
section
variable {ops:Array Oper} {a:Act} {o og:Oper} {g:Nat} {t:Tmp} {u:Bool}
end
end Go.Proofs.YtnnofopfbeklbaaGreatW.PrintLast
end
section
namespace Go.Proofs.YtnnofopfbeklbaaGreatW.PrintMore
open Go.RowKit Go.Proofs.YtnnofopfbeklbaaGreatW.PrintWords
namespace Kd
open Go.Proofs.YtnnofopfbeklbaaGreatW.PrintWords.Kd
end Kd
namespace Kd
open Go.Proofs.YtnnofopfbeklbaaGreatW.PrintWords.Kd
section
variable {α:Type} {d:Kd α} {e base g N:Nat} {ok:Nat→Prop} {W w1:World} {u v:Value} {xs:List α}
end
end Kd
theorem Qib(k k':IntKind)(x y:Int):Builtin.max2 (.int k x) (.int k' y)=pure (.int k (if x<y then y else x)):=by simp only[Builtin.max2,gt_iff_lt]
theorem Qic(k k':IntKind)(x y:Int):Builtin.min2 (.int k x) (.int k' y)=pure (.int k (if y<x then y else x)):=by simp only[Builtin.min2]
theorem Qid(ats:Array TypeId)(ty:TypeId)(a b:Value):Builtin.max_ ats ty #[a,b]=(Builtin.max2 a b >>= fun s=>pure s):=by simp only[Builtin.max_,List.foldlM_cons,List.foldlM_nil]
theorem Qie(ats:Array TypeId)(ty:TypeId)(a b:Value):Builtin.min_ ats ty #[a,b]=(Builtin.min2 a b >>= fun s=>pure s):=by simp only[Builtin.min_,List.foldlM_cons,List.foldlM_nil]
theorem Qif(ats:Array TypeId)(ty:TypeId)(a b c:Value):Builtin.max_ ats ty #[a,b,c]=(Builtin.max2 a b >>= fun s=>Builtin.max2 s c >>= fun s=>pure s):=by simp only[Builtin.max_,List.foldlM_cons,List.foldlM_nil]
theorem Qig(ats:Array TypeId)(ty:TypeId)(a b c:Value):Builtin.min_ ats ty #[a,b,c]=(Builtin.min2 a b >>= fun s=>Builtin.min2 s c >>= fun s=>pure s):=by simp only[Builtin.min_,List.foldlM_cons,List.foldlM_nil]
theorem Qih(ats:Array TypeId)(ty:TypeId)(a b c d:Value):Builtin.max_ ats ty #[a,b,c,d]=(Builtin.max2 a b >>= fun s=>Builtin.max2 s c >>= fun s=>Builtin.max2 s d >>= fun s=>pure s):=by simp only[Builtin.max_,List.foldlM_cons,List.foldlM_nil]
theorem Qii(ats:Array TypeId)(ty:TypeId)(a b c d:Value):Builtin.min_ ats ty #[a,b,c,d]=(Builtin.min2 a b >>= fun s=>Builtin.min2 s c >>= fun s=>Builtin.min2 s d >>= fun s=>pure s):=by simp only[Builtin.min_,List.foldlM_cons,List.foldlM_nil]
end Go.Proofs.YtnnofopfbeklbaaGreatW.PrintMore
namespace Go.Proofs.YtnnofopfbeklbaaGreatW.PrintWords
open Go.RowKit
section
variable {P:Program} {ops:Array Oper} {rest:List Oper} {o:Oper} {a:Act} {Q:Exit→Act→World→Prop} {W:World}
theorem Qij{f:FuncId}{as_:Array Operand}{ts:Array TypeId}(_ho:o.op=.call { callee:=.value (.func f),args:=as_,argTypes:=ts })(h:wpList P ops Q (o :: rest) a W):wpList P ops Q (o :: rest) a W:=h
theorem Qik{b:Builtin}{xs:Array Operand}{ts:Array TypeId}(_ho:o.op=.call { callee:=.builtin b,args:=xs,argTypes:=ts })(h:wpList P ops Q (o :: rest) a W):wpList P ops Q (o :: rest) a W:=h
end
def mx(a b:Int):Int:=if a<b then b else a
def shl(k:IntKind)(x y:Int):Int:=k.wrap (x*2^min y.toNat k.bits)
def shr(k:IntKind)(x y:Int):Int:=x/2^min y.toNat k.bits
theorem Qil{k:IntKind}{x y j:Int}(h:shl k x y=j)(hy:y≤k.bits):k.wrap (x*2^y.toNat)=j:=by rw[← h];unfold shl;rw[Nat.min_eq_left (by omega)]
theorem Qim{k:IntKind}{x y j:Int}(h:shr k x y=j)(hy:y≤k.bits):x/2^y.toNat=j:=by rw[← h];unfold shr;rw[Nat.min_eq_left (by omega)]
namespace Kd
section
variable {α:Type} {d:Kd α} {e base:Nat} {ok:Nat→Prop} {W w1:World} {v:Value} {xs:List α}
end
section
variable {α:Type} {d:Kd α} {e base g n cap:Nat} {ok oki okp:Nat→Prop} {W:World} {xs:List α} {i:Int} {c:List Value}
end
section
variable {α:Type} {d:Kd α} {e base b b' g N:Nat} {ok ok1:Nat→Prop} {W W2 w1:World} {u v:Value} {xs ys:List α} {S:Nat→Prop}
end
end Kd
end Go.Proofs.YtnnofopfbeklbaaGreatW.PrintWords
namespace Go.Proofs.YtnnofopfbeklbaaGreatW.PrintWords
open Go.RowKit
namespace Kd
def V{α:Type}(d:Kd α)(_e:Nat)(W:World)(_base:Nat)(ok:Nat→Prop)(v:Value)(xs:List α):Prop:=∃A c,v=.slice A xs.length c∧xs.length≤c∧F d W ok A xs.length xs
section
variable {α β:Type} {d:Kd α} {e base base' n m c g N' lo hi:Nat} {ok ok' S:Nat→Prop} {w W w1:World} {A:Option Addr} {ad:Addr} {u v v1:Value} {xs:List α}
theorem Qin(h:V d e W base ok v xs)(hF:∀A,F d W ok A xs.length xs→F d w1 ok' A xs.length xs):V d e w1 base' ok' v xs:=by
  obtain⟨A,c,hv,hl,hf⟩:=h
  exact⟨A,c,hv,hl,hF A hf⟩
theorem V_mk(hl:xs.length≤c)(hf:F d W ok A xs.length xs):V d e W base ok (.slice A xs.length c) xs:=⟨A,c,rfl,hl,hf⟩
theorem V_slice(h:V d e W base ok v xs):∃A c,v=.slice A xs.length c:=by
  obtain⟨A,c,hv,_⟩:=h
  exact⟨A,c,hv⟩
theorem V_at(h:V d e W base ok (.slice A n c) xs):n=xs.length∧n≤c∧F d W ok A xs.length xs:=by
  obtain⟨A',c',hv,hl,hf⟩:=h
  injection hv with ha hn hc
  subst ha;subst hc
  exact⟨hn,by rw[hn];exact hl,hf⟩
theorem V_reads'(h:V d e W base ok (.slice A n c) xs):n=xs.length∧n≤c∧d.C W A xs.length xs:=⟨(V_at h).1,(V_at h).2.1,F_now (V_at h).2.2⟩
theorem V_mono(h:V d e W base ok v xs)(hok:∀k,ok k→ok' k):V d e W base ok' v xs:=Qin h (fun _ hf=>Qhw hf hok)
theorem V_drewN(h:V d e W base ok v xs)(m:Nat):V d e (W.drewN m) base ok v xs:=Qin h (fun _ hf=>F_drewN hf m)
theorem V_after(h:V d e W base (fun k=>ok k∧some k≠u.ownBlock) v xs)(hg:W.grownBy w1 u.ownBlock)(hat:v1.ownBlock=u.ownBlock∨∃b,v1.ownBlock=some b∧W.heap.size≤b):V d e w1 base (fun k=>ok k∧some k≠v1.ownBlock) v xs:=Qin h (fun _ hf=>F_after hf hg hat)
theorem V_afterv(h:V d e W base (fun k=>ok k∧some k≠v.ownBlock) u xs)(hg:W.grownBy w1 v.ownBlock)(hat:v1.ownBlock=v.ownBlock∨∃b,v1.ownBlock=some b∧W.heap.size≤b):V d e w1 base (fun k=>ok k∧some k≠v1.ownBlock) u xs:=V_after h hg hat
theorem V_elder'(h:V d e W base ok v xs)(hbase:∀k,u.ownBlock=some k→W.heap.size≤k)(hb:Below W.heap.size W w1):V d e w1 base (fun k=>ok k∧some k≠u.ownBlock) v xs:=Qin h (fun _ hf=>Qhx hf hbase hb)
theorem F_cut(h:F d W ok A xs.length xs)(hm:m≤xs.length)(hc:xs.length≤c):F d W ok (if c=m then A else A.map (·.add (m*d.sz))) (xs.drop m).length (xs.drop m):=F_imp h (fun _ hC=>C_drop hC hm hc)
theorem F_mid(h:F d W ok A xs.length xs)(h1:lo≤hi)(h2:hi≤xs.length)(hc:xs.length≤c):F d W ok (if c=lo then A else A.map (·.add (lo*d.sz))) ((xs.take hi).drop lo).length ((xs.take hi).drop lo):=F_imp h (fun _ hC=>C_mid hC h1 h2 hc)
theorem R_newM{M:Nat→Prop}(h:d.R e w1 W.heap.size ok v xs)(hle:w.heap.size≤W.heap.size)(hM:∀k,w.heap.size≤k→M k):d.R e w1 W.heap.size (fun k=>M k∧ok k) v xs:=R_mono (R_bound h) (fun k hk=>⟨hM k (Nat.le_trans hle hk.2.1),hk.1⟩)
end
end Kd
end Go.Proofs.YtnnofopfbeklbaaGreatW.PrintWords
end
section
namespace Go.Proofs.YtnnofopfbeklbaaGreat.C
open Go.RowKit Go.Proofs.YtnnofopfbeklbaaGreatW.PrintWords Go.Proofs.YtnnofopfbeklbaaGreatW.PrintLast Go.Proofs.YtnnofopfbeklbaaGreatW.PrintMore
attribute [local go_sem] Qib Qic Qid Qie Qif Qig Qih Qii
def errW:Option Int→Value
 | none=>.nilIface
 | some c=>.iface 0 (.int .i64 c)
theorem Qio:errW none=.nilIface:=rfl
theorem Qip(c:Int):errW (some c)=.iface 0 (.int .i64 c):=rfl
theorem info3:(Tryz.prog.info? 3).map (fun i=>(i.zero,i.size,i.bytes))=some (some (.int .i64 0),1,8):=by kernel_rfl
theorem Qiq:(Tryz.prog.info? 5).map (fun i=>(i.zero,i.size,i.bytes))=some (some (.int .u8 0),1,1):=by kernel_rfl
theorem Qir:(Tryz.prog.info? 22).map (fun i=>(i.zero,i.size,i.bytes))=some (some (.int .u32 0),1,4):=by kernel_rfl
theorem info34:(Tryz.prog.info? 34).map (fun i=>(i.zero,i.size,i.bytes))=some (some (.int .u64 0),1,8):=by kernel_rfl
theorem info39:(Tryz.prog.info? 39).map (fun i=>(i.zero,i.size,i.bytes))=some (some (.agg #[(.bool false),(.int .u64 0),(.string ⟨#[]⟩),(.string ⟨#[]⟩)]),4,48):=by kernel_rfl
theorem info160:(Tryz.prog.info? 160).map (fun i=>(i.zero,i.size,i.bytes))=some (some (.agg #[(.bool false),(.int .u64 0),(.string ⟨#[]⟩),(.string ⟨#[]⟩),(.int .u64 0),(.int .i64 0),(.int .i64 0)]),7,72):=by kernel_rfl
theorem info164:(Tryz.prog.info? 164).map (fun i=>(i.zero,i.size,i.bytes))=some (some (.agg #[(.int .u64 0),(.int .i64 0),(.int .i64 0)]),3,24):=by kernel_rfl
structure S39 where
  f0:Bool
  f1:Int
  f2:ByteArray
  f3:ByteArray
def z39:S39:=⟨false,(0:Int),(⟨#[]⟩:ByteArray),(⟨#[]⟩:ByteArray)⟩
def k39:Kd S39:=Kd.iso (Kd.pair Kd.bool (Kd.pair (Kd.int .u64) (Kd.pair Kd.string Kd.string))) (fun x:S39=>(x.f0,x.f1,x.f2,x.f3))
theorem Qis{w:World}{x:S39}{cs:List Value}(h:k39.K w x cs):cs=[.bool x.f0,.int .u64 x.f1,.string x.f2,.string x.f3]:=by
 obtain⟨_,_,rfl,rfl,⟨_,_,rfl,rfl,⟨_,_,rfl,rfl,rfl⟩⟩⟩:=h
 exact rfl
theorem Qit(w:World)(base:Nat)(ok:Nat→Prop)(x:S39)  : k39.M w base ok x [.bool x.f0,.int .u64 x.f1,.string x.f2,.string x.f3]:=⟨[.bool x.f0],[.int .u64 x.f1,.string x.f2,.string x.f3],rfl,rfl,⟨[.int .u64 x.f1],[.string x.f2,.string x.f3],rfl,rfl,⟨[.string x.f2],[.string x.f3],rfl,rfl,rfl⟩⟩⟩
def Qiu(xs:List S39)(i:Int):S39:=xs.getD i.toNat z39
theorem Qiv{w:World}{A:Option Addr}{n:Nat}{xs:List S39}(h:Kd.C k39 w A n xs)(i:Int)(h0:0≤i)(h1:i<n):∃ad , A=some ad∧w.cell? (ad.add (i.toNat*4))=some (.bool (Qiu xs i).f0)∧w.cell? ⟨(ad.add (i.toNat*4)).block,(ad.add (i.toNat*4)).off+1,none⟩=some (.int .u64 (Qiu xs i).f1)∧w.cell? ⟨(ad.add (i.toNat*4)).block,(ad.add (i.toNat*4)).off+2,none⟩=some (.string (Qiu xs i).f2)∧w.cell? ⟨(ad.add (i.toNat*4)).block,(ad.add (i.toNat*4)).off+3,none⟩=some (.string (Qiu xs i).f3):=by
 obtain⟨ad,c,e,_,hK,hc0⟩:=Kd.C_get h z39 i h0 h1
 have hc:∀j u,c[j]? = some u→w.cell? (ad.add (i.toNat*4+j))=some u:=hc0
 obtain rfl:=Qis hK
 exact⟨ad,e,hc 0 _ rfl,by rw[← Qdq _ _ 1 (by omega)];exact hc 1 _ rfl,by rw[← Qdq _ _ 2 (by omega)];exact hc 2 _ rfl,by rw[← Qdq _ _ 3 (by omega)];exact hc 3 _ rfl⟩
structure S27 where
  f0:Int
  f1:Int
structure S117 where
  f0:Int
  f1:Int
def z117:S117:=⟨(0:Int),(0:Int)⟩
def k117:Kd S117:=Kd.iso (Kd.pair (Kd.int .u64) (Kd.int .u32)) (fun x:S117=>(x.f0,x.f1))
theorem Qiw{w:World}{x:S117}{cs:List Value}(h:k117.K w x cs):cs=[.int .u64 x.f0,.int .u32 x.f1]:=by
 obtain⟨_,_,rfl,rfl,rfl⟩:=h
 exact rfl
theorem Qix{w:World}{base:Nat}{ok:Nat→Prop}{x:S117}{cs:List Value}(h:k117.M w base ok x cs):cs=[.int .u64 x.f0,.int .u32 x.f1]:=by
 obtain⟨_,_,rfl,rfl,rfl⟩:=h
 exact rfl
theorem Qiy(w:World)(base:Nat)(ok:Nat→Prop)(x:S117)  : k117.M w base ok x [.int .u64 x.f0,.int .u32 x.f1]:=⟨[.int .u64 x.f0],[.int .u32 x.f1],rfl,rfl,rfl⟩
def Qiz(xs:List S117)(i:Int):S117:=xs.getD i.toNat z117
theorem Qja{w:World}{A:Option Addr}{n:Nat}{xs:List S117}(h:Kd.C k117 w A n xs)(i:Int)(h0:0≤i)(h1:i<n):∃ad , A=some ad∧w.cell? (ad.add (i.toNat*2))=some (.int .u64 (Qiz xs i).f0)∧w.cell? ⟨(ad.add (i.toNat*2)).block,(ad.add (i.toNat*2)).off+1,none⟩=some (.int .u32 (Qiz xs i).f1):=by
 obtain⟨ad,c,e,_,hK,hc0⟩:=Kd.C_get h z117 i h0 h1
 have hc:∀j u,c[j]? = some u→w.cell? (ad.add (i.toNat*2+j))=some u:=hc0
 obtain rfl:=Qiw hK
 exact⟨ad,e,hc 0 _ rfl,by rw[← Qdq _ _ 1 (by omega)];exact hc 1 _ rfl⟩
structure S69 where
  f0:Int
  f1:Int
structure S122 where
  f0:Int
  f1:Int
structure S207 where
  f0:ByteArray
  f1:ByteArray
structure S210 where
  f0:ByteArray
  f1:ByteArray
structure S97 where
  f0:S39
  f1:Int
  f2:Int
  f3:Int
def z97:S97:=⟨z39,(0:Int),(0:Int),(0:Int)⟩
def k97:Kd S97:=Kd.iso (Kd.pair k39 (Kd.pair (Kd.int .u64) (Kd.pair (Kd.int .i64) (Kd.int .i64)))) (fun x:S97=>(x.f0,x.f1,x.f2,x.f3))
theorem Qjb{w:World}{x:S97}{cs:List Value}(h:k97.K w x cs):cs=[.bool x.f0.f0,.int .u64 x.f0.f1,.string x.f0.f2,.string x.f0.f3,.int .u64 x.f1,.int .i64 x.f2,.int .i64 x.f3]:=by
 obtain⟨_,_,rfl,s0,⟨_,_,rfl,rfl,⟨_,_,rfl,rfl,rfl⟩⟩⟩:=h
 obtain rfl:=Qis s0
 exact rfl
theorem k97_mkM(w:World)(base:Nat)(ok:Nat→Prop)(x:S97)  : k97.M w base ok x [.bool x.f0.f0,.int .u64 x.f0.f1,.string x.f0.f2,.string x.f0.f3,.int .u64 x.f1,.int .i64 x.f2,.int .i64 x.f3]:=⟨[.bool x.f0.f0,.int .u64 x.f0.f1,.string x.f0.f2,.string x.f0.f3],[.int .u64 x.f1,.int .i64 x.f2,.int .i64 x.f3],rfl,(Qit w base ok x.f0 ),⟨[.int .u64 x.f1],[.int .i64 x.f2,.int .i64 x.f3],rfl,rfl,⟨[.int .i64 x.f2],[.int .i64 x.f3],rfl,rfl,rfl⟩⟩⟩
def Qjc(xs:List S97)(i:Int):S97:=xs.getD i.toNat z97
theorem Qjd{w:World}{A:Option Addr}{n:Nat}{xs:List S97}(h:Kd.C k97 w A n xs)(i:Int)(h0:0≤i)(h1:i<n):∃ad , A=some ad∧w.cell? (ad.add (i.toNat*7))=some (.bool (Qjc xs i).f0.f0)∧w.cell? ⟨(ad.add (i.toNat*7)).block,(ad.add (i.toNat*7)).off+1,none⟩=some (.int .u64 (Qjc xs i).f0.f1)∧w.cell? ⟨(ad.add (i.toNat*7)).block,(ad.add (i.toNat*7)).off+2,none⟩=some (.string (Qjc xs i).f0.f2)∧w.cell? ⟨(ad.add (i.toNat*7)).block,(ad.add (i.toNat*7)).off+3,none⟩=some (.string (Qjc xs i).f0.f3)∧w.cell? ⟨(ad.add (i.toNat*7)).block,(ad.add (i.toNat*7)).off+4,none⟩=some (.int .u64 (Qjc xs i).f1)∧w.cell? ⟨(ad.add (i.toNat*7)).block,(ad.add (i.toNat*7)).off+5,none⟩=some (.int .i64 (Qjc xs i).f2)∧w.cell? ⟨(ad.add (i.toNat*7)).block,(ad.add (i.toNat*7)).off+6,none⟩=some (.int .i64 (Qjc xs i).f3):=by
 obtain⟨ad,c,e,_,hK,hc0⟩:=Kd.C_get h z97 i h0 h1
 have hc:∀j u,c[j]? = some u→w.cell? (ad.add (i.toNat*7+j))=some u:=hc0
 obtain rfl:=Qjb hK
 exact⟨ad,e,hc 0 _ rfl,by rw[← Qdq _ _ 1 (by omega)];exact hc 1 _ rfl,by rw[← Qdq _ _ 2 (by omega)];exact hc 2 _ rfl,by rw[← Qdq _ _ 3 (by omega)];exact hc 3 _ rfl,by rw[← Qdq _ _ 4 (by omega)];exact hc 4 _ rfl,by rw[← Qdq _ _ 5 (by omega)];exact hc 5 _ rfl,by rw[← Qdq _ _ 6 (by omega)];exact hc 6 _ rfl⟩
structure S160 where
  f0:S39
  f1:Int
  f2:Int
  f3:Int
def z160:S160:=⟨z39,(0:Int),(0:Int),(0:Int)⟩
def k160:Kd S160:=Kd.iso (Kd.pair k39 (Kd.pair (Kd.int .u64) (Kd.pair (Kd.int .i64) (Kd.int .i64)))) (fun x:S160=>(x.f0,x.f1,x.f2,x.f3))
theorem Qje{w:World}{x:S160}{cs:List Value}(h:k160.K w x cs):cs=[.bool x.f0.f0,.int .u64 x.f0.f1,.string x.f0.f2,.string x.f0.f3,.int .u64 x.f1,.int .i64 x.f2,.int .i64 x.f3]:=by
 obtain⟨_,_,rfl,s0,⟨_,_,rfl,rfl,⟨_,_,rfl,rfl,rfl⟩⟩⟩:=h
 obtain rfl:=Qis s0
 exact rfl
theorem Qjf(w:World)(base:Nat)(ok:Nat→Prop)(x:S160)  : k160.M w base ok x [.bool x.f0.f0,.int .u64 x.f0.f1,.string x.f0.f2,.string x.f0.f3,.int .u64 x.f1,.int .i64 x.f2,.int .i64 x.f3]:=⟨[.bool x.f0.f0,.int .u64 x.f0.f1,.string x.f0.f2,.string x.f0.f3],[.int .u64 x.f1,.int .i64 x.f2,.int .i64 x.f3],rfl,(Qit w base ok x.f0 ),⟨[.int .u64 x.f1],[.int .i64 x.f2,.int .i64 x.f3],rfl,rfl,⟨[.int .i64 x.f2],[.int .i64 x.f3],rfl,rfl,rfl⟩⟩⟩
def Qjg(xs:List S160)(i:Int):S160:=xs.getD i.toNat z160
theorem Qjh{w:World}{A:Option Addr}{n:Nat}{xs:List S160}(h:Kd.C k160 w A n xs)(i:Int)(h0:0≤i)(h1:i<n):∃ad , A=some ad∧w.cell? (ad.add (i.toNat*7))=some (.bool (Qjg xs i).f0.f0)∧w.cell? ⟨(ad.add (i.toNat*7)).block,(ad.add (i.toNat*7)).off+1,none⟩=some (.int .u64 (Qjg xs i).f0.f1)∧w.cell? ⟨(ad.add (i.toNat*7)).block,(ad.add (i.toNat*7)).off+2,none⟩=some (.string (Qjg xs i).f0.f2)∧w.cell? ⟨(ad.add (i.toNat*7)).block,(ad.add (i.toNat*7)).off+3,none⟩=some (.string (Qjg xs i).f0.f3)∧w.cell? ⟨(ad.add (i.toNat*7)).block,(ad.add (i.toNat*7)).off+4,none⟩=some (.int .u64 (Qjg xs i).f1)∧w.cell? ⟨(ad.add (i.toNat*7)).block,(ad.add (i.toNat*7)).off+5,none⟩=some (.int .i64 (Qjg xs i).f2)∧w.cell? ⟨(ad.add (i.toNat*7)).block,(ad.add (i.toNat*7)).off+6,none⟩=some (.int .i64 (Qjg xs i).f3):=by
 obtain⟨ad,c,e,_,hK,hc0⟩:=Kd.C_get h z160 i h0 h1
 have hc:∀j u,c[j]? = some u→w.cell? (ad.add (i.toNat*7+j))=some u:=hc0
 obtain rfl:=Qje hK
 exact⟨ad,e,hc 0 _ rfl,by rw[← Qdq _ _ 1 (by omega)];exact hc 1 _ rfl,by rw[← Qdq _ _ 2 (by omega)];exact hc 2 _ rfl,by rw[← Qdq _ _ 3 (by omega)];exact hc 3 _ rfl,by rw[← Qdq _ _ 4 (by omega)];exact hc 4 _ rfl,by rw[← Qdq _ _ 5 (by omega)];exact hc 5 _ rfl,by rw[← Qdq _ _ 6 (by omega)];exact hc 6 _ rfl⟩
structure S164 where
  f0:Int
  f1:Int
  f2:Int
def z164:S164:=⟨(0:Int),(0:Int),(0:Int)⟩
def k164:Kd S164:=Kd.iso (Kd.pair (Kd.int .u64) (Kd.pair (Kd.int .i64) (Kd.int .i64))) (fun x:S164=>(x.f0,x.f1,x.f2))
theorem Qji{w:World}{x:S164}{cs:List Value}(h:k164.K w x cs):cs=[.int .u64 x.f0,.int .i64 x.f1,.int .i64 x.f2]:=by
 obtain⟨_,_,rfl,rfl,⟨_,_,rfl,rfl,rfl⟩⟩:=h
 exact rfl
theorem Qjj(w:World)(base:Nat)(ok:Nat→Prop)(x:S164)  : k164.M w base ok x [.int .u64 x.f0,.int .i64 x.f1,.int .i64 x.f2]:=⟨[.int .u64 x.f0],[.int .i64 x.f1,.int .i64 x.f2],rfl,rfl,⟨[.int .i64 x.f1],[.int .i64 x.f2],rfl,rfl,rfl⟩⟩
def Qjk(xs:List S164)(i:Int):S164:=xs.getD i.toNat z164
theorem Qjl{w:World}{A:Option Addr}{n:Nat}{xs:List S164}(h:Kd.C k164 w A n xs)(i:Int)(h0:0≤i)(h1:i<n):∃ad , A=some ad∧w.cell? (ad.add (i.toNat*3))=some (.int .u64 (Qjk xs i).f0)∧w.cell? ⟨(ad.add (i.toNat*3)).block,(ad.add (i.toNat*3)).off+1,none⟩=some (.int .i64 (Qjk xs i).f1)∧w.cell? ⟨(ad.add (i.toNat*3)).block,(ad.add (i.toNat*3)).off+2,none⟩=some (.int .i64 (Qjk xs i).f2):=by
 obtain⟨ad,c,e,_,hK,hc0⟩:=Kd.C_get h z164 i h0 h1
 have hc:∀j u,c[j]? = some u→w.cell? (ad.add (i.toNat*3+j))=some u:=hc0
 obtain rfl:=Qji hK
 exact⟨ad,e,hc 0 _ rfl,by rw[← Qdq _ _ 1 (by omega)];exact hc 1 _ rfl,by rw[← Qdq _ _ 2 (by omega)];exact hc 2 _ rfl⟩
theorem qq_x{W:World}{g:Nat}{t:TypeId}{cs cs':Array Value}(h:W.heap[g]? = some (.cells cs' t (0,0)):=by((with_reducible repeat(first|apply Qeh|apply Qeg|apply Qef|apply Qds));exact Aside0.out (by assumption)))(e:cs'=cs:=by rfl):W.heap[g]? = some (.cells cs t (0,0)):=e ▸ h
theorem qc2{W:World}{g:Nat}{t:TypeId}{v0 v1:Value}(h:W.heap[g]? = some (.cells #[v0,v1] t (0,0))):W.cell? ⟨g,0,none⟩=some v0∧W.cell? ⟨g,1,none⟩=some v1:=⟨(Qdv h 0).trans rfl,(Qdv h 1).trans rfl⟩
theorem qc3{W:World}{g:Nat}{t:TypeId}{v0 v1 v2:Value}(h:W.heap[g]? = some (.cells #[v0,v1,v2] t (0,0))):W.cell? ⟨g,0,none⟩=some v0∧W.cell? ⟨g,1,none⟩=some v1∧W.cell? ⟨g,2,none⟩=some v2:=⟨(Qdv h 0).trans rfl,(Qdv h 1).trans rfl,(Qdv h 2).trans rfl⟩
theorem qc4{W:World}{g:Nat}{t:TypeId}{v0 v1 v2 v3:Value}(h:W.heap[g]? = some (.cells #[v0,v1,v2,v3] t (0,0))):W.cell? ⟨g,0,none⟩=some v0∧W.cell? ⟨g,1,none⟩=some v1∧W.cell? ⟨g,2,none⟩=some v2∧W.cell? ⟨g,3,none⟩=some v3:=⟨(Qdv h 0).trans rfl,(Qdv h 1).trans rfl,(Qdv h 2).trans rfl,(Qdv h 3).trans rfl⟩
theorem qc5{W:World}{g:Nat}{t:TypeId}{v0 v1 v2 v3 v4:Value}(h:W.heap[g]? = some (.cells #[v0,v1,v2,v3,v4] t (0,0))):W.cell? ⟨g,0,none⟩=some v0∧W.cell? ⟨g,1,none⟩=some v1∧W.cell? ⟨g,2,none⟩=some v2∧W.cell? ⟨g,3,none⟩=some v3∧W.cell? ⟨g,4,none⟩=some v4:=⟨(Qdv h 0).trans rfl,(Qdv h 1).trans rfl,(Qdv h 2).trans rfl,(Qdv h 3).trans rfl,(Qdv h 4).trans rfl⟩
theorem qc7{W:World}{g:Nat}{t:TypeId}{v0 v1 v2 v3 v4 v5 v6:Value}(h:W.heap[g]? = some (.cells #[v0,v1,v2,v3,v4,v5,v6] t (0,0))):W.cell? ⟨g,0,none⟩=some v0∧W.cell? ⟨g,1,none⟩=some v1∧W.cell? ⟨g,2,none⟩=some v2∧W.cell? ⟨g,3,none⟩=some v3∧W.cell? ⟨g,4,none⟩=some v4∧W.cell? ⟨g,5,none⟩=some v5∧W.cell? ⟨g,6,none⟩=some v6:=⟨(Qdv h 0).trans rfl,(Qdv h 1).trans rfl,(Qdv h 2).trans rfl,(Qdv h 3).trans rfl,(Qdv h 4).trans rfl,(Qdv h 5).trans rfl,(Qdv h 6).trans rfl⟩
theorem qq_b{b:Nat}{w w':World}(h:Below b w w':=by repeat(first |(with_reducible first|exact HB.out|apply Qcw|apply Qcy|apply Qfq|refine Qfl ?_ (Aside0.out (by assumption)))|exact HB.out)):Below b w w':=h
theorem qq_h{w w':World}(hb:Below w.heap.size w w'){p:Addr}{v:Value}(h:w.cell? p=some v):w'.cell? p=some v:=(hb.cell (World.block_lt_of_cell? w _ h)).trans h
theorem qq_s{w W:World}{g:Nat}(hg:g=W.heap.size)(h:Below w.heap.size w W:=by exact qq_b):w.heap.size≤g:=hg ▸ Qfi h
theorem qq_e{P:Program}{ops:Array Oper}{o:Oper}{rest:List Oper}{a:Act}{Q:Exit→Act→World→Prop}{W:World}(N:Tmp)(cs:Array Value)(t:TypeId)(h:∀g,g=W.heap.size→∀w1,w1.heap[g]? = some (.cells cs t (0,0))→Below W.heap.size W w1→wpList P ops Q rest (a.put o.dst (.pointer (some ⟨g,0,none⟩))) w1)(hgd:o.guard=none:=by rfl)(hd:o.dst=some N:=by rfl)(hrun:(execOp a.eval o).run P W=.ok (.value (.pointer (some ⟨W.heap.size,0,none⟩))) (W.alloc (.cells cs t (0,0))):=by first |(go_simp;done) |(go_simp;rfl)):wpList P ops Q (o :: rest) a W:=Qfs hgd hd hrun h
theorem qq_0{p:Prop}(h:p:=by(with_reducible repeat(first|apply Qeh|apply Qeg|apply Qef));exact Aside0.out (by assumption)):p:=h
theorem qq_1{p:Prop}(h:p:=by(try simp only[List.map_toArray,List.map_cons,List.map_nil]);first|done|rfl |(simp only[List.length_drop,List.length_take];rfl)):p:=h
theorem qq_2{p:Prop}(h:p:=by first|rfl |(simp[Qio,Qip]<;>rfl) |(simp[*,Qio,Qip]<;>rfl)):p:=h
theorem qq_3{p:Prop}(h:p:=by first |(with_reducible assumption)|assumption):p:=h
theorem qq_4{p:Prop}(h:p:=by first|rfl |(simp;done) |(simp[*];done)):p:=h
theorem qq_5{p:Prop}(h:p:=by(with_reducible repeat(first|apply Kd.R_alloc|apply Kd.R_drewN|apply Kd.R_drew));exact(Kd.R_mono (Kd.R_far (p:=⟨gb918,6,none⟩) (Kd.R_far (p:=⟨gb918,5,none⟩) (Kd.R_far (p:=⟨gb918,4,none⟩) (Kd.R_far (p:=⟨gb918,3,none⟩) (Kd.R_far (p:=⟨gb918,2,none⟩) (Kd.R_far (p:=⟨gb918,1,none⟩) (Kd.R_far (p:=⟨gb918,0,none⟩) (Kd.R_mono HO_40.out (fun k_ hk=>(⟨hk,hk.2⟩:_∧k_≠gb918))) (fun _ hk=>hk.2) (.bool ((Qjc t914 x42_3).f0.f0))) (fun _ hk=>hk.2) (.int .u64 ((Qjc t914 x42_3).f0.f1))) (fun _ hk=>hk.2) (.string ((Qjc t914 x42_3).f0.f2))) (fun _ hk=>hk.2) (.string ((Qjc t914 x42_3).f0.f3))) (fun _ hk=>hk.2) (.int .u64 ((Qjc t914 x42_3).f1))) (fun _ hk=>hk.2) (.int .i64 ((Qjc t914 x42_3).f2))) (fun _ hk=>hk.2) (.int .i64 ((Qjc t914 x42_3).f3))) (fun _ h_=>h_.1))):p:=h
theorem qq_6{p:Prop}(h:p:=by(with_reducible repeat(first|apply Kd.R_alloc|apply Kd.R_drewN|apply Kd.R_drew));exact(Kd.R_mono (Kd.R_far (p:=⟨gb918,6,none⟩) (Kd.R_far (p:=⟨gb918,5,none⟩) (Kd.R_far (p:=⟨gb918,4,none⟩) (Kd.R_far (p:=⟨gb918,3,none⟩) (Kd.R_far (p:=⟨gb918,2,none⟩) (Kd.R_far (p:=⟨gb918,1,none⟩) (Kd.R_far (p:=⟨gb918,0,none⟩) (Kd.R_mono HO_11.out (fun k_ hk=>(⟨hk,hk.2⟩:_∧k_≠gb918))) (fun _ hk=>hk.2) (.bool ((Qjc t914 x42_3).f0.f0))) (fun _ hk=>hk.2) (.int .u64 ((Qjc t914 x42_3).f0.f1))) (fun _ hk=>hk.2) (.string ((Qjc t914 x42_3).f0.f2))) (fun _ hk=>hk.2) (.string ((Qjc t914 x42_3).f0.f3))) (fun _ hk=>hk.2) (.int .u64 ((Qjc t914 x42_3).f1))) (fun _ hk=>hk.2) (.int .i64 ((Qjc t914 x42_3).f2))) (fun _ hk=>hk.2) (.int .i64 ((Qjc t914 x42_3).f3))) (fun _ h_=>h_.1))):p:=h
theorem qq_7{p:Prop}(h:p:=by kernel_rfl):p:=h
theorem qq_8{p:Prop}(h:p:=by(with_reducible repeat(first|apply Kd.R_alloc|apply Kd.R_drewN|apply Kd.R_drew));exact Aside0.out (by assumption)):p:=h
theorem qq_9{p:Prop}(h:p:=by(repeat(first |(with_reducible first|apply Qeh|apply Qeg|apply Qef)|refine Qdt ?_ (Aside0.out (by assumption)) _));exact Aside0.out (by assumption)):p:=h
theorem qq_10{p:Prop}(h:p:=by(with_reducible repeat(first|apply Kd.R_alloc|apply Kd.R_drewN|apply Kd.R_drew));exact HO900.out):p:=h
theorem qq_11{p:Prop}(h:p:=by(with_reducible repeat(first|apply Kd.R_alloc|apply Kd.R_drewN|apply Kd.R_drew));exact HO_5.out):p:=h
theorem qq_12{p:Prop}(h:p:=by(with_reducible repeat(first|apply Kd.R_alloc|apply Kd.R_drewN|apply Kd.R_drew));exact HO_40.out):p:=h
theorem qq_13{p:Prop}(h:p:=by(with_reducible repeat(first|apply Kd.R_alloc|apply Kd.R_drewN|apply Kd.R_drew));exact HO_11.out):p:=h
theorem qq_14{p:Prop}(h:p:=by(with_reducible repeat(first|apply Kd.V_alloc|apply Kd.V_drewN|apply Kd.V_drew));exact HO_5.out):p:=h
theorem qq_15{p:Prop}(h:p:=by(with_reducible repeat(first|apply Kd.V_alloc|apply Kd.V_drewN|apply Kd.V_drew));exact HO_0.out):p:=h
theorem qq_16{p:Prop}(h:p:=by(try simp only[List.map_toArray,List.map_cons,List.map_nil]);first|done |(simp only[hji6];rfl)|rfl |(simp only[List.length_drop,List.length_take];rfl)):p:=h
theorem qq_17{p:Prop}(h:p:=by first|rfl |(simp;done) |(simp only[← hji18]<;>(first|rfl|simp)) |(simp[*];done)):p:=h
theorem qq_18{p:Prop}(h:p:=by first |(go_simp;done) |(go_simp;rfl)):p:=h
theorem qq_19{p:Prop}(h:p:=by(with_reducible repeat(first|apply Kd.R_alloc|apply Kd.R_drewN|apply Kd.R_drew));exact HO903.out):p:=h
theorem qq_20{p:Prop}(h:p:=by simp;omega):p:=h
theorem qq_21{p:Prop}(h:p:=by(try simp only[List.map_toArray,List.map_cons,List.map_nil]);first|done |(simp only[hji2];rfl)|rfl |(simp only[List.length_drop,List.length_take];rfl)):p:=h
theorem qq_22{p:Prop}(h:p:=by have:=HN.out;omega):p:=h
theorem qq_23{p:Prop}(h:p:=by(with_reducible repeat(first|apply Kd.V_alloc|apply Kd.V_drewN|apply Kd.V_drew));exact HO574.out):p:=h
theorem qq_24{p:Prop}(h:p:=by(with_reducible repeat(first|apply Kd.R_alloc|apply Kd.R_drewN|apply Kd.R_drew));exact HO_13.out):p:=h
def Qau.l0:Nat→List (S97)→List (S160)→Int→Int→Option (Bool)
 | 0,_,_,_,_=>none
 | k+1,x0,x1,x12,x13=>if x13<x12 then(if 0≤x13 then(if x13<(x0.length:Int)then(if x13<(x1.length:Int)then(if((!(((Qjc x0 x13).f0.f0) == ((Qjg x1 x13).f0.f0)) ||(!(((Qjc x0 x13).f0.f1) == ((Qjg x1 x13).f0.f1)) ||(!((((Qjc x0 x13).f0.f2).toList) == (((Qjg x1 x13).f0.f2).toList)) ||(!((((Qjc x0 x13).f0.f3).toList) == (((Qjg x1 x13).f0.f3).toList)))))) ||(!(((Qjc x0 x13).f1) == ((Qjg x1 x13).f1)) ||(!(((Qjc x0 x13).f2) == ((Qjg x1 x13).f2)) ||(!(((Qjc x0 x13).f3) == ((Qjg x1 x13).f3))))))=true then(some false)else(Qau.l0 k x0 x1 x12 (wrap64 (x13+1))))else(none))else(none))else(none))else(some true)
def Qau.f(k:Nat)(l0:List (S97))(l1:List (S160)):Option (Bool):=if(l0.length:Int)=(l1.length:Int)then(Qau.l0 k l0 l1 (l0.length:Int) 0)else(some false)
theorem Qjm(a a':Bool)(b b' s s' f f' t t':Int)(c c' d d':ByteArray)(W:World):(binOp .neq 160 (.agg #[.bool a,.int .u64 b,.string c,.string d,.int .u64 s,.int .i64 f,.int .i64 t]) (.agg #[.bool a',.int .u64 b',.string c',.string d',.int .u64 s',.int .i64 f',.int .i64 t'])).run Tryz.prog W=.ok (.bool ((!(a == a') ||(!(b == b') ||(!(c.toList == c'.toList) ||(!(d.toList == d'.toList))))) ||(!(s == s') ||(!(f == f') ||(!(t == t')))))) W:=by
 have hu160:=Tryz.underlying160;go_simp
 by_cases h1:a=a' <;> by_cases h2:b=b' <;> by_cases h3:c.toList=c'.toList<;>by_cases h4:d.toList=d'.toList<;>by_cases h5:s=s' <;> by_cases h6:f=f' <;> by_cases h7:t=t' <;> simp[h1,h2,h3,h4,h5,h6,h7]
theorem Qau.calls (k:Nat) (A0:Option Addr) (c0:Nat) (l0:List (S97)) (A1:Option Addr) (c1:Nat) (l1:List (S160)) (r:Bool) (w:World) (hr0:Kd.C k97 w A0 l0.length l0) (hc0:l0.length≤c0) (hr1:Kd.C k160 w A1 l1.length l1) (hc1:l1.length≤c1) (h:Qau.f k l0 l1=some r) :
  Calls Tryz.prog 49 #[.slice A0 l0.length c0,.slice A1 l1.length c1] w fun e w'=>e=.returned (.bool r)∧Drawn0 w w':=by
 have hu97:=Tryz.underlying97;have hu160:=Tryz.underlying160;have L:=QA hr0;have Y:=QA hc0;clear hr0 hc0;have M:=QA hr1;have Z:=QA hc1;clear hr1 hc1;have H:(if(l0.length:Int)=(l1.length:Int)then(Qau.l0 k l0 l1 (l0.length:Int) 0)else(some false))=some r:=h;clear h
 by_cases c3:(l0.length:Int)=(l1.length:Int)
 ·rw [if_pos c3]at H;have E:((l0.length:Int) == (l1.length:Int))=true:=beq_iff_eq.mpr c3;have G:((l0.length:Int) != (l1.length:Int))=false:=bne_eq_false_iff_eq.mpr c3;have I:(l0.length == l1.length)=true:=by first|simpa using c3 |(simp at c3 ⊢;omega)
  clear c3;have H':=QA H;clear H
  go_enter Tryz.func49,Tryz.ntmps49
  go_wp2
  repeat(go_quiet (fail);try go_wp2)
  go_loopg [13] k (fun kq P w'=>∃(a:Int),P=.int .i64 a∧Aside0 (Qau.l0 kq l0 l1 (l0.length:Int) a=some r)∧Aside0 (kq≤k)∧Drawn0 w w')
  case atStart=>exact⟨(0),qq_4,H',⟨Nat.le_refl _⟩,by repeat(first|exact Drawn0.refl _|apply Drawn0.step)⟩
  case round =>
   clear H'
   try clear c1
   try clear c3
   try clear E
   try clear G
   try clear I
   obtain⟨a,rfl,HA,HK1,⟨m1,rfl⟩⟩:=hrel
   cases gk with
   | zero=>exact absurd HA.out (by simp[Qau.l0])
   | succ k1 =>
    have H:=HA.out;clear HA;simp only[Qau.l0]at H
    by_cases c4:a<(l0.length:Int)
    ·rw [if_pos c4]at H;have O:=decide_eq_true c4;clear c4
     by_cases c5:0≤a
     ·rw [if_pos c5]at H;have T:=decide_eq_true c5;clear c5
      by_cases c6:a<(l0.length:Int)
      ·rw[if_pos c6]at H;have U:=decide_eq_true c6;clear c6
       by_cases c7:a<(l1.length:Int)
       ·rw[if_pos c7]at H;have X:=decide_eq_true c7;clear c7
        by_cases c8:((!(((Qjc l0 a).f0.f0) == ((Qjg l1 a).f0.f0)) ||(!(((Qjc l0 a).f0.f1) == ((Qjg l1 a).f0.f1)) ||(!((((Qjc l0 a).f0.f2).toList) == (((Qjg l1 a).f0.f2).toList)) ||(!((((Qjc l0 a).f0.f3).toList) == (((Qjg l1 a).f0.f3).toList)))))) ||(!(((Qjc l0 a).f1) == ((Qjg l1 a).f1)) ||(!(((Qjc l0 a).f2) == ((Qjg l1 a).f2)) ||(!(((Qjc l0 a).f3) == ((Qjg l1 a).f3))))))=true
        ·rw[if_pos c8]at H;have j:((!(((Qjc l0 a).f0.f0) == ((Qjg l1 a).f0.f0)) ||(!(((Qjc l0 a).f0.f1) == ((Qjg l1 a).f0.f1)) ||(!((((Qjc l0 a).f0.f2).toList) == (((Qjg l1 a).f0.f2).toList)) ||(!((((Qjc l0 a).f0.f3).toList) == (((Qjg l1 a).f0.f3).toList)))))) ||(!(((Qjc l0 a).f1) == ((Qjg l1 a).f1)) ||(!(((Qjc l0 a).f2) == ((Qjg l1 a).f2)) ||(!(((Qjc l0 a).f3) == ((Qjg l1 a).f3))))))=true:=c8;have hq8:∀W,(binOp .neq 160 (.agg #[.bool ((Qjc l0 a).f0.f0),.int .u64 ((Qjc l0 a).f0.f1),.string ((Qjc l0 a).f0.f2),.string ((Qjc l0 a).f0.f3),.int .u64 ((Qjc l0 a).f1),.int .i64 ((Qjc l0 a).f2),.int .i64 ((Qjc l0 a).f3)]) (.agg #[.bool ((Qjg l1 a).f0.f0),.int .u64 ((Qjg l1 a).f0.f1),.string ((Qjg l1 a).f0.f2),.string ((Qjg l1 a).f0.f3),.int .u64 ((Qjg l1 a).f1),.int .i64 ((Qjg l1 a).f2),.int .i64 ((Qjg l1 a).f3)])).run Tryz.prog W=.ok (.bool true) W:=fun W=>by rw[Qjm,j]
         clear c8;obtain rfl:=Option.some.inj H;have b:0≤(a:Int):=of_decide_eq_true qq_3;have c:a<(l0.length:Int):=of_decide_eq_true qq_3;obtain⟨J,l,n,o,p,q,s,t,u⟩:=Qjd L.out a b c
         cases l
         replace b:=eq_true b;replace c:=eq_true c;have d:0≤(a:Int):=of_decide_eq_true qq_3;have g:a<(l1.length:Int):=of_decide_eq_true qq_3;obtain⟨K,m,v,x,y,z,A,B,D⟩:=Qjh M.out a d g
         cases m
         replace d:=eq_true d;replace g:=eq_true g;go_wp2
         repeat(go_quiet (fail);try go_wp2)
         go_ret
         exact⟨by first|rfl |(simp;done) |(simp[*];done),by repeat(first|exact Drawn0.refl _|apply Drawn0.step)⟩
        ·rw[if_neg c8]at H;have j:((!(((Qjc l0 a).f0.f0) == ((Qjg l1 a).f0.f0)) ||(!(((Qjc l0 a).f0.f1) == ((Qjg l1 a).f0.f1)) ||(!((((Qjc l0 a).f0.f2).toList) == (((Qjg l1 a).f0.f2).toList)) ||(!((((Qjc l0 a).f0.f3).toList) == (((Qjg l1 a).f0.f3).toList)))))) ||(!(((Qjc l0 a).f1) == ((Qjg l1 a).f1)) ||(!(((Qjc l0 a).f2) == ((Qjg l1 a).f2)) ||(!(((Qjc l0 a).f3) == ((Qjg l1 a).f3))))))=false:=by simpa using c8
         have hq8:∀W,(binOp .neq 160 (.agg #[.bool ((Qjc l0 a).f0.f0),.int .u64 ((Qjc l0 a).f0.f1),.string ((Qjc l0 a).f0.f2),.string ((Qjc l0 a).f0.f3),.int .u64 ((Qjc l0 a).f1),.int .i64 ((Qjc l0 a).f2),.int .i64 ((Qjc l0 a).f3)]) (.agg #[.bool ((Qjg l1 a).f0.f0),.int .u64 ((Qjg l1 a).f0.f1),.string ((Qjg l1 a).f0.f2),.string ((Qjg l1 a).f0.f3),.int .u64 ((Qjg l1 a).f1),.int .i64 ((Qjg l1 a).f2),.int .i64 ((Qjg l1 a).f3)])).run Tryz.prog W=.ok (.bool false) W:=fun W=>by rw[Qjm,j]
         clear c8;have H':=QA H;clear H;have b:0≤(a:Int):=of_decide_eq_true qq_3;have c:a<(l0.length:Int):=of_decide_eq_true qq_3;obtain⟨J,l,n,o,p,q,s,t,u⟩:=Qjd L.out a b c
         cases l
         replace b:=eq_true b;replace c:=eq_true c;have d:0≤(a:Int):=of_decide_eq_true qq_3;have g:a<(l1.length:Int):=of_decide_eq_true qq_3;obtain⟨K,m,v,x,y,z,A,B,D⟩:=Qjh M.out a d g
         cases m
         replace d:=eq_true d;replace g:=eq_true g;go_wp2
         repeat(go_quiet (fail);try go_wp2)
         go_roundg k1
         case measure=>have:=HK1.out;omega
         case rel=>exact⟨(wrap64 (a+1)),qq_4,H',⟨by have:=HK1.out;omega⟩,by repeat(first|exact Drawn0.refl _|apply Drawn0.step)⟩
       ·rw[if_neg c7]at H;exact absurd H (by simp)
      ·rw[if_neg c6]at H;exact absurd H (by simp)
     ·rw[if_neg c5]at H;exact absurd H (by simp)
    ·rw[if_neg c4]at H;have O:=decide_eq_false c4;clear c4;obtain rfl:=Option.some.inj H;go_wp2
     repeat(go_quiet (fail);try go_wp2)
     go_ret
     exact⟨by first|rfl |(simp;done) |(simp[*];done),by repeat(first|exact Drawn0.refl _|apply Drawn0.step)⟩
 ·rw[if_neg c3]at H;have E:((l0.length:Int) == (l1.length:Int))=false:=beq_eq_false_iff_ne.mpr c3;have G:((l0.length:Int) != (l1.length:Int))=true:=bne_iff_ne.mpr c3;have I:(l0.length == l1.length)=false:=by first|simpa using c3 |(simp at c3 ⊢;omega)
  obtain rfl:=Option.some.inj H
  go_enter Tryz.func49,Tryz.ntmps49
  go_wp2
  repeat(go_quiet (fail);try go_wp2)
  go_ret
  exact⟨by first|rfl |(simp;done) |(simp[*];done),by repeat(first|exact Drawn0.refl _|apply Drawn0.step)⟩
def Qba.l0:Nat→ByteArray→Int→Int→Option (Int)
 | 0,_,_,_=>none
 | k+1,x0,x3,x4=>if x4≥0 then(if 0≤x4 then(if x4<(x0.size:Int)then(Qba.l0 k x0 (IntKind.u64.wrap ((IntKind.u64.wrap (x3*256))+(IntKind.u64.wrap (bt x0 x4)))) (wrap64 (x4-1)))else(none))else(none))else(some x3)
def Qba.f(k:Nat)(a0:ByteArray):Option (Int):=Qba.l0 k a0 0 (wrap64 ((a0.size:Int)-1))
theorem Qba.mono_l:∀k,(∀y0 y1 y2,LeO (Qba.l0 k y0 y1 y2) (Qba.l0 (k+1) y0 y1 y2))
 | 0=>fun _ _ _ r h=>by simp[Qba.l0]at h
 | k+1=>by
  have ih0:=Qba.mono_l k
  ·intro y0 y1 y2;unfold Qba.l0
   repeat' first
   |(with_reducible exact ih0 _ _ _)
   |(with_reducible exact LeO.refl _)
   |(with_reducible exact LeO.none _)
   |(with_reducible refine LeO.ite ?_ ?_)
   |(with_reducible refine LeO.bind ?_ (fun _=>?_))
   | exact ih0 _ _ _
   | exact LeO.none _
   | refine LeO.ite ?_ ?_
   | refine LeO.bind ?_ (fun _=>?_)
theorem Qba.mono:∀a0 k,LeO (Qba.f k a0) (Qba.f (k+1) a0):=by
 intro a0 k;have ih0:=Qba.mono_l k;unfold Qba.f
 repeat' first
   |(with_reducible exact ih0 _ _ _)
   |(with_reducible exact LeO.refl _)
   |(with_reducible exact LeO.none _)
   |(with_reducible refine LeO.ite ?_ ?_)
   |(with_reducible refine LeO.bind ?_ (fun _=>?_))
   | exact ih0 _ _ _
   | exact LeO.none _
   | refine LeO.ite ?_ ?_
   | refine LeO.bind ?_ (fun _=>?_)
theorem Qba.calls(k:Nat)(a0:ByteArray)(r:Int)(w:World)(h:Qba.f k a0=some r) :
  Calls Tryz.prog 107 #[.string a0] w fun e w'=>e=.returned (.int .u64 r)∧Drawn0 w w':=by
 have H:(Qba.l0 k a0 0 (wrap64 ((a0.size:Int)-1)))=some r:=h;clear h;have H':=QA H;clear H
 go_enter Tryz.func107,Tryz.ntmps107
 go_wp2
 go_loopg [3,4] k (fun kq v3 v4 w'=>∃(b:Int) (a:Int),v3=.int .u64 b∧v4=.int .i64 a∧Aside0 (Qba.l0 kq a0 b a=some r)∧Aside0 (kq≤k)∧Drawn0 w w')
 case atStart=>exact⟨(0),(wrap64 ((a0.size:Int)-1)),qq_4,qq_4,H',⟨Nat.le_refl _⟩,by repeat(first|exact Drawn0.refl _|apply Drawn0.step)⟩
 case round =>
  clear H';obtain⟨b,a,rfl,rfl,HA,HK1,⟨m1,rfl⟩⟩:=hrel
  cases gk with
  | zero=>exact absurd HA.out (by simp[Qba.l0])
  | succ k1 =>
   have H:=HA.out;clear HA;simp only[Qba.l0]at H
   by_cases c2:a≥0
   ·rw[if_pos c2]at H;have c:decide (0≤a)=true:=decide_eq_true c2;clear c2
    by_cases c3:0≤a
    ·rw[if_pos c3]at H;have d:=decide_eq_true c3;clear c3
     by_cases c4:a<(a0.size:Int)
     ·rw[if_pos c4]at H;have g:=decide_eq_true c4;clear c4;have H':=QA H;clear H;have p5:0≤(a:Int):=of_decide_eq_true qq_3;have q5:a<(a0.size:Int):=of_decide_eq_true qq_3;have j:=Qcv a0 a;replace p5:=eq_true p5;replace q5:=eq_true q5;go_wp2
      go_roundg k1
      case measure=>have:=HK1.out;omega
      case rel=>exact⟨(IntKind.u64.wrap ((IntKind.u64.wrap (b*256))+(IntKind.u64.wrap (bt a0 a)))),(wrap64 (a-1)),qq_4,qq_4,H',⟨by have:=HK1.out;omega⟩,by repeat(first|exact Drawn0.refl _|apply Drawn0.step)⟩
     ·rw[if_neg c4]at H;exact absurd H (by simp)
    ·rw[if_neg c3]at H;exact absurd H (by simp)
   ·rw[if_neg c2]at H;have c:decide (0≤a)=false:=decide_eq_false c2;clear c2;obtain rfl:=Option.some.inj H;go_wp2;go_ret
    exact⟨by first|rfl |(simp;done) |(simp[*];done),by repeat(first|exact Drawn0.refl _|apply Drawn0.step)⟩
def Qbj.l0:Nat→Int→Int→Int→Option (Int)
 | 0,_,_,_=>none
 | k+1,x0,x6,x7=>if x7<x6 then(Qbj.l0 k (IntKind.u64.wrap ((IntKind.u64.wrap (2*x0))+(IntKind.u64.wrap (Int.tdiv x0 9223372036854775808)))) x6 (wrap64 (x7+1)))else(some x0)
def Qbj.f(k:Nat)(a0:Int)(a1:Int):Option (Int):=Qbj.l0 k a0 a1 0
theorem Qbj.mono_l:∀k,(∀y0 y1 y2,LeO (Qbj.l0 k y0 y1 y2) (Qbj.l0 (k+1) y0 y1 y2))
 | 0=>fun _ _ _ r h=>by simp[Qbj.l0]at h
 | k+1=>by
  have ih0:=Qbj.mono_l k
  ·intro y0 y1 y2;unfold Qbj.l0
   repeat' first
   |(with_reducible exact ih0 _ _ _)
   |(with_reducible exact LeO.refl _)
   |(with_reducible exact LeO.none _)
   |(with_reducible refine LeO.ite ?_ ?_)
   |(with_reducible refine LeO.bind ?_ (fun _=>?_))
   | exact ih0 _ _ _
   | exact LeO.none _
   | refine LeO.ite ?_ ?_
   | refine LeO.bind ?_ (fun _=>?_)
theorem Qbj.mono:∀a0 a1 k,LeO (Qbj.f k a0 a1) (Qbj.f (k+1) a0 a1):=by
 intro a0 a1 k;have ih0:=Qbj.mono_l k;unfold Qbj.f
 repeat' first
   |(with_reducible exact ih0 _ _ _)
   |(with_reducible exact LeO.refl _)
   |(with_reducible exact LeO.none _)
   |(with_reducible refine LeO.ite ?_ ?_)
   |(with_reducible refine LeO.bind ?_ (fun _=>?_))
   | exact ih0 _ _ _
   | exact LeO.none _
   | refine LeO.ite ?_ ?_
   | refine LeO.bind ?_ (fun _=>?_)
theorem Qbj.calls(k:Nat)(a0:Int)(a1:Int)(r:Int)(w:World)(h:Qbj.f k a0 a1=some r) :
  Calls Tryz.prog 108 #[.int .u64 a0,.int .i64 a1] w fun e w'=>e=.returned (.int .u64 r)∧Drawn0 w w':=by
 have H:(Qbj.l0 k a0 a1 0)=some r:=h;clear h;have H':=QA H;clear H
 go_enter Tryz.func108,Tryz.ntmps108
 go_wp2
 go_loopg [0,7] k (fun kq v0 v7 w'=>∃(a:Int) (b:Int),v0=.int .u64 a∧v7=.int .i64 b∧Aside0 (Qbj.l0 kq a a1 b=some r)∧Aside0 (kq≤k)∧Drawn0 w w')
 case atStart=>exact⟨(a0),(0),qq_4,qq_4,H',⟨Nat.le_refl _⟩,by repeat(first|exact Drawn0.refl _|apply Drawn0.step)⟩
 case round =>
  clear H';obtain⟨a,b,rfl,rfl,HA,HK1,⟨m1,rfl⟩⟩:=hrel
  cases gk with
  | zero=>exact absurd HA.out (by simp[Qbj.l0])
  | succ k1 =>
   have H:=HA.out;clear HA;simp only[Qbj.l0]at H
   by_cases c3:b<a1
   ·rw[if_pos c3]at H;have c:=decide_eq_true c3;clear c3;have H':=QA H;clear H;go_wp2
    go_roundg k1
    case measure=>have:=HK1.out;omega
    case rel=>exact⟨(IntKind.u64.wrap ((IntKind.u64.wrap (2*a))+(IntKind.u64.wrap (Int.tdiv a 9223372036854775808)))),(wrap64 (b+1)),qq_4,qq_4,H',⟨by have:=HK1.out;omega⟩,by repeat(first|exact Drawn0.refl _|apply Drawn0.step)⟩
   ·rw[if_neg c3]at H;have c:=decide_eq_false c3;clear c3;obtain rfl:=Option.some.inj H;go_wp2;go_ret
    exact⟨by first|rfl |(simp;done) |(simp[*];done),by repeat(first|exact Drawn0.refl _|apply Drawn0.step)⟩
def Qbh.f(k:Nat)(a0:Int)(a1:Int):Option (Int):=(Qbj.f k (IntKind.u64.wrap (a0+(IntKind.u64.wrap (a1*14029467366897019727)))) 31).bind fun t271=>(some (IntKind.u64.wrap (t271*11400714785074694791)))
theorem Qbh.mono:∀a0 a1 k,LeO (Qbh.f k a0 a1) (Qbh.f (k+1) a0 a1):=by
 intro a0 a1 k;unfold Qbh.f
 repeat' first
   |(with_reducible exact Qbj.mono _ _ _)
   |(with_reducible exact LeO.refl _)
   |(with_reducible exact LeO.none _)
   |(with_reducible refine LeO.ite ?_ ?_)
   |(with_reducible refine LeO.bind ?_ (fun _=>?_))
   | exact Qbj.mono _ _ _
   | exact LeO.none _
   | refine LeO.ite ?_ ?_
   | refine LeO.bind ?_ (fun _=>?_)
theorem Qbh.calls(k:Nat)(a0:Int)(a1:Int)(r:Int)(w:World)(h:Qbh.f k a0 a1=some r) :
  Calls Tryz.prog 106 #[.int .u64 a0,.int .u64 a1] w fun e w'=>e=.returned (.int .u64 r)∧Drawn0 w w':=by
 have H:((Qbj.f k (IntKind.u64.wrap (a0+(IntKind.u64.wrap (a1*14029467366897019727)))) 31).bind fun t271=>(some (IntKind.u64.wrap (t271*11400714785074694791))))=some r:=h;clear h;obtain⟨t271,A30,H⟩:=Option.bind_eq_some_iff.mp H;have A3:=QA A30;clear A30;obtain rfl:=Option.some.inj H
 go_enter Tryz.func106,Tryz.ntmps106
 go_wp2_with (first |((with_reducible refine Qij (f:=108) rfl ?_);refine Qgm (some 9) rfl rfl Tryz.func108 qq_7 rfl #[.int .u64 (IntKind.u64.wrap (a0+(IntKind.u64.wrap (a1*14029467366897019727)))),.int .i64 31] rfl qq_1 ?_;(with_reducible refine(Qbj.calls k (IntKind.u64.wrap (a0+(IntKind.u64.wrap (a1*14029467366897019727)))) 31 t271 _ A3.out).mono ?_);rintro e w' ⟨rfl,⟨nd,rfl⟩⟩;refine⟨_,rfl,?_⟩))
 go_ret
 exact⟨by first|rfl |(simp;done) |(simp[*];done),by repeat(first|exact Drawn0.refl _|apply Drawn0.step)⟩
def Qbi.l0:Nat→Int→Int→Int→Int→Option (Int)
 | 0,_,_,_,_=>none
 | k+1,x0,x5,x7,x8=>if x8<x7 then(Qbi.l0 k x0 (IntKind.u64.wrap (Int.tdiv x5 2)) x7 (wrap64 (x8+1)))else(some (Go.bits .xor .u64 x0 x5))
def Qbi.f(k:Nat)(a0:Int)(a1:Int):Option (Int):=Qbi.l0 k a0 a0 a1 0
theorem Qbi.mono_l:∀k,(∀y0 y1 y2 y3,LeO (Qbi.l0 k y0 y1 y2 y3) (Qbi.l0 (k+1) y0 y1 y2 y3))
 | 0=>fun _ _ _ _ r h=>by simp[Qbi.l0]at h
 | k+1=>by
  have ih0:=Qbi.mono_l k
  ·intro y0 y1 y2 y3;unfold Qbi.l0
   repeat' first
   |(with_reducible exact ih0 _ _ _ _)
   |(with_reducible exact LeO.refl _)
   |(with_reducible exact LeO.none _)
   |(with_reducible refine LeO.ite ?_ ?_)
   |(with_reducible refine LeO.bind ?_ (fun _=>?_))
   | exact ih0 _ _ _ _
   | exact LeO.none _
   | refine LeO.ite ?_ ?_
   | refine LeO.bind ?_ (fun _=>?_)
theorem Qbi.mono:∀a0 a1 k,LeO (Qbi.f k a0 a1) (Qbi.f (k+1) a0 a1):=by
 intro a0 a1 k;have ih0:=Qbi.mono_l k;unfold Qbi.f
 repeat' first
   |(with_reducible exact ih0 _ _ _ _)
   |(with_reducible exact LeO.refl _)
   |(with_reducible exact LeO.none _)
   |(with_reducible refine LeO.ite ?_ ?_)
   |(with_reducible refine LeO.bind ?_ (fun _=>?_))
   | exact ih0 _ _ _ _
   | exact LeO.none _
   | refine LeO.ite ?_ ?_
   | refine LeO.bind ?_ (fun _=>?_)
theorem Qbi.calls(k:Nat)(a0:Int)(a1:Int)(r:Int)(w:World)(h:Qbi.f k a0 a1=some r) :
  Calls Tryz.prog 109 #[.int .u64 a0,.int .i64 a1] w fun e w'=>e=.returned (.int .u64 r)∧Drawn0 w w':=by
 have H:(Qbi.l0 k a0 a0 a1 0)=some r:=h;clear h;have H':=QA H;clear H
 go_enter Tryz.func109,Tryz.ntmps109
 go_wp2
 go_loopg [5,8] k (fun kq v5 v8 w'=>∃(b:Int) (a:Int),v5=.int .u64 b∧v8=.int .i64 a∧Aside0 (Qbi.l0 kq a0 b a1 a=some r)∧Aside0 (kq≤k)∧Drawn0 w w')
 case atStart=>exact⟨(a0),(0),qq_4,qq_4,H',⟨Nat.le_refl _⟩,by repeat(first|exact Drawn0.refl _|apply Drawn0.step)⟩
 case round =>
  clear H';obtain⟨b,a,rfl,rfl,HA,HK1,⟨m1,rfl⟩⟩:=hrel
  cases gk with
  | zero=>exact absurd HA.out (by simp[Qbi.l0])
  | succ k1 =>
   have H:=HA.out;clear HA;simp only[Qbi.l0]at H
   by_cases c3:a<a1
   ·rw[if_pos c3]at H;have c:=decide_eq_true c3;clear c3;have H':=QA H;clear H;go_wp2
    go_roundg k1
    case measure=>have:=HK1.out;omega
    case rel=>exact⟨(IntKind.u64.wrap (Int.tdiv b 2)),(wrap64 (a+1)),qq_4,qq_4,H',⟨by have:=HK1.out;omega⟩,by repeat(first|exact Drawn0.refl _|apply Drawn0.step)⟩
   ·rw[if_neg c3]at H;have c:=decide_eq_false c3;clear c3;obtain rfl:=Option.some.inj H;go_wp2;go_ret
    exact⟨by first|rfl |(simp;done) |(simp[*];done),by repeat(first|exact Drawn0.refl _|apply Drawn0.step)⟩
def Qac.f(a0:Int)(a1:Int):Option (Int):=if 0≤(Go.bits .and .u64 (IntKind.u64.wrap (a1)) 63)then(if 0≤(IntKind.u64.wrap (64-(Go.bits .and .u64 (IntKind.u64.wrap (a1)) 63)))then(some (Go.bits .or .u64 (shl .u64 a0 (Go.bits .and .u64 (IntKind.u64.wrap (a1)) 63)) (shr .u64 a0 (IntKind.u64.wrap (64-(Go.bits .and .u64 (IntKind.u64.wrap (a1)) 63))))))else(none))else(none)
theorem Qac.calls(a0:Int)(a1:Int)(r:Int)(w:World)(h:Qac.f a0 a1=some r) :
  Calls Tryz.prog 202 #[.int .u64 a0,.int .i64 a1] w fun e w'=>e=.returned (.int .u64 r)∧Drawn0 w w':=by
 have H:(if 0≤(Go.bits .and .u64 (IntKind.u64.wrap (a1)) 63)then(if 0≤(IntKind.u64.wrap (64-(Go.bits .and .u64 (IntKind.u64.wrap (a1)) 63)))then(some (Go.bits .or .u64 (shl .u64 a0 (Go.bits .and .u64 (IntKind.u64.wrap (a1)) 63)) (shr .u64 a0 (IntKind.u64.wrap (64-(Go.bits .and .u64 (IntKind.u64.wrap (a1)) 63))))))else(none))else(none))=some r:=h;clear h;obtain⟨a,j⟩:∃j_:Int,(Go.bits .and .u64 (IntKind.u64.wrap (a1)) 63)=j_:=⟨_,rfl⟩;replace H:(if 0≤(a)then(if 0≤(IntKind.u64.wrap (64-(a)))then(some (Go.bits .or .u64 (shl .u64 a0 (a)) (shr .u64 a0 (IntKind.u64.wrap (64-(a))))))else(none))else(none))=some r:=by first |(rw[j]at H;exact H) |(simp only[j]at H ⊢;exact H)
 by_cases c4:0≤(a)
 ·rw[if_pos c4]at H;have p:=eq_true c4;have q:=decide_eq_true c4;clear c4;obtain⟨g,b⟩:∃j_:Int,(shl .u64 a0 (a))=j_:=⟨_,rfl⟩;replace H:(if 0≤(IntKind.u64.wrap (64-(a)))then(some (Go.bits .or .u64 (g) (shr .u64 a0 (IntKind.u64.wrap (64-(a))))))else(none))=some r:=by first |(rw[b]at H;exact H) |(simp only[b]at H ⊢;exact H)
  have l:(IntKind.u64.wrap (a0*2^min (a).toNat 64))=g:=b;have m:(a)≤64→(IntKind.u64.wrap (a0*2^(a).toNat))=g:=Qil b;obtain⟨c,hji6⟩:∃j_:Int,(IntKind.u64.wrap (64-(a)))=j_:=⟨_,rfl⟩;replace H:(if 0≤(c)then(some (Go.bits .or .u64 (g) (shr .u64 a0 (c))))else(none))=some r:=by first |(rw[hji6]at H;exact H) |(simp only[hji6]at H ⊢;exact H)
  by_cases c7:0≤(c)
  ·rw[if_pos c7]at H;have s:=eq_true c7;have t:=decide_eq_true c7;clear c7;obtain⟨k,d⟩:∃j_:Int,(shr .u64 a0 (c))=j_:=⟨_,rfl⟩;replace H:(some (Go.bits .or .u64 (g) (k)))=some r:=by first |(rw[d]at H;exact H) |(simp only[d]at H ⊢;exact H)
   have n:(a0/2^min (c).toNat 64)=k:=d;have o:(c)≤64→(a0/2^(c).toNat)=k:=Qim d;obtain rfl:=Option.some.inj H
   go_enter Tryz.func202,Tryz.ntmps202
   go_wp2;go_ret
   exact⟨by first|rfl |(simp;done) |(simp only[← j,← b,← hji6,← d]<;>(first|rfl|simp)) |(simp[*];done),by repeat(first|exact Drawn0.refl _|apply Drawn0.step)⟩
  ·rw[if_neg c7]at H;exact absurd H (by simp)
 ·rw[if_neg c4]at H;exact absurd H (by simp)
def Qct.f(a0:Int)(a1:Int):Option (Int):=(Qac.f (IntKind.u64.wrap (a0+(IntKind.u64.wrap (a1*14029467366897019727)))) 31).bind fun t566=>(some (IntKind.u64.wrap (t566*11400714785074694791)))
theorem Qct.calls(a0:Int)(a1:Int)(r:Int)(w:World)(h:Qct.f a0 a1=some r) :
  Calls Tryz.prog 199 #[.int .u64 a0,.int .u64 a1] w fun e w'=>e=.returned (.int .u64 r)∧Drawn0 w w':=by
 have H:((Qac.f (IntKind.u64.wrap (a0+(IntKind.u64.wrap (a1*14029467366897019727)))) 31).bind fun t566=>(some (IntKind.u64.wrap (t566*11400714785074694791))))=some r:=h;clear h;obtain⟨t566,A30,H⟩:=Option.bind_eq_some_iff.mp H;have A3:=QA A30;clear A30;obtain rfl:=Option.some.inj H
 go_enter Tryz.func199,Tryz.ntmps199
 go_wp2_with (first |((with_reducible refine Qij (f:=202) rfl ?_);refine Qgm (some 9) rfl rfl Tryz.func202 qq_7 rfl #[.int .u64 (IntKind.u64.wrap (a0+(IntKind.u64.wrap (a1*14029467366897019727)))),.int .i64 31] rfl qq_1 ?_;(with_reducible refine(Qac.calls (IntKind.u64.wrap (a0+(IntKind.u64.wrap (a1*14029467366897019727)))) 31 t566 _ A3.out).mono ?_);rintro e w' ⟨rfl,⟨nd,rfl⟩⟩;refine⟨_,rfl,?_⟩))
 go_ret
 exact⟨by first|rfl |(simp;done) |(simp[*];done),by repeat(first|exact Drawn0.refl _|apply Drawn0.step)⟩
def Qcu.l0:Nat→List Int→Int→Int→Int→Option (Int)
 | 0,_,_,_,_=>none
 | k+1,x0,x5,x7,x8=>if x8<x7 then(if 0≤x8 then(if x8<(x0.length:Int)then(if 0≤(wrap64 (8*x8))then(Qcu.l0 k x0 (Go.bits .or .u64 x5 (shl .u64 (IntKind.u64.wrap (rd x0 x8)) (wrap64 (8*x8)))) x7 (wrap64 (x8+1)))else(none))else(none))else(none))else(some x5)
def Qcu.f(k:Nat)(l0:List Int)(a1:Int):Option (Int):=Qcu.l0 k l0 0 a1 0
theorem Qcu.calls(k:Nat)(A0:Option Addr)(c0:Nat)(l0:List Int)(a1:Int)(r:Int)(w:World)(hr0:Kd.C (Kd.int .u8) w A0 l0.length l0)(hc0:l0.length≤c0)(h:Qcu.f k l0 a1=some r) :
  Calls Tryz.prog 200 #[.slice A0 l0.length c0,.int .i64 a1] w fun e w'=>e=.returned (.int .u64 r)∧Drawn0 w w':=by
 have p:=QA hr0;have A:=QA hc0;clear hr0 hc0;have H:(Qcu.l0 k l0 0 a1 0)=some r:=h;clear h;have H':=QA H;clear H
 go_enter Tryz.func200,Tryz.ntmps200
 go_wp2
 go_loopg [5,8] k (fun kq v5 v8 w'=>∃(b:Int) (a:Int),v5=.int .u64 b∧v8=.int .i64 a∧Aside0 (Qcu.l0 kq l0 b a1 a=some r)∧Aside0 (kq≤k)∧Drawn0 w w')
 case atStart=>exact⟨(0),(0),qq_4,qq_4,H',⟨Nat.le_refl _⟩,by repeat(first|exact Drawn0.refl _|apply Drawn0.step)⟩
 case round =>
  clear H';obtain⟨b,a,rfl,rfl,HA,HK1,⟨m1,rfl⟩⟩:=hrel
  cases gk with
  | zero=>exact absurd HA.out (by simp[Qcu.l0])
  | succ k1 =>
   have H:=HA.out;clear HA;simp only[Qcu.l0]at H
   by_cases c3:a<a1
   ·rw [if_pos c3]at H;have m:=decide_eq_true c3;clear c3
    by_cases c4:0≤a
    ·rw[if_pos c4]at H;have v:=decide_eq_true c4;clear c4
     by_cases c5:a<(l0.length:Int)
     ·rw[if_pos c5]at H;have x:=decide_eq_true c5;clear c5;obtain⟨c,hji6⟩:∃j_:Int,(wrap64 (8*a))=j_:=⟨_,rfl⟩;replace H:(if 0≤(c)then(Qcu.l0 k1 l0 (Go.bits .or .u64 b (shl .u64 (IntKind.u64.wrap (rd l0 a)) (c))) a1 (wrap64 (a+1)))else(none))=some r:=by first |(rw[hji6]at H;exact H) |(simp only[hji6]at H ⊢;exact H)
      have q:(IntKind.i64.wrap (8*a))=c:=(Qgo _).trans hji6
      by_cases c7:0≤(c)
      ·rw[if_pos c7]at H;have y:=eq_true c7;have z:=decide_eq_true c7;clear c7;obtain⟨l,d⟩:∃j_:Int,(shl .u64 (IntKind.u64.wrap (rd l0 a)) (c))=j_:=⟨_,rfl⟩;replace H:(Qcu.l0 k1 l0 (Go.bits .or .u64 b (l)) a1 (wrap64 (a+1)))=some r:=by first |(rw[d]at H;exact H) |(simp only[d]at H ⊢;exact H)
       have s:(IntKind.u64.wrap ((IntKind.u64.wrap (rd l0 a))*2^min (c).toNat 64))=l:=d;have t:(c)≤64→(IntKind.u64.wrap ((IntKind.u64.wrap (rd l0 a))*2^(c).toNat))=l:=Qil d;have H':=QA H;clear H;have g:0≤(a:Int):=of_decide_eq_true qq_3;have j:a<(l0.length:Int):=of_decide_eq_true qq_3;obtain⟨u,n,o⟩:=Kd.at_int p.out a g j
       cases n
       replace g:=eq_true g;replace j:=eq_true j;go_wp2
       go_roundg k1
       case measure=>have:=HK1.out;omega
       case rel=>exact⟨(Go.bits .or .u64 b (l)),(wrap64 (a+1)),(by first|rfl |(simp;done) |(simp only[← d]<;>(first|rfl|simp)) |(simp[*];done)),qq_4,H',⟨by have:=HK1.out;omega⟩,by repeat(first|exact Drawn0.refl _|apply Drawn0.step)⟩
      ·rw[if_neg c7]at H;exact absurd H (by simp)
     ·rw[if_neg c5]at H;exact absurd H (by simp)
    ·rw[if_neg c4]at H;exact absurd H (by simp)
   ·rw[if_neg c3]at H;have m:=decide_eq_false c3;clear c3;obtain rfl:=Option.some.inj H;go_wp2;go_ret
    exact⟨by first|rfl |(simp;done) |(simp[*];done),by repeat(first|exact Drawn0.refl _|apply Drawn0.step)⟩
end Go.Proofs.YtnnofopfbeklbaaGreat.C
end
