/- Merged texts. -/
import Derived.Test.YtepkfjmjidjedaaGreatMB00
import Derived.Laws.StructEq
import Derived.OrdersHeld
import Derived.Deep.RegionHeld3
import Derived.Laws.BitsLemmas
import Derived.RowKit
set_option linter.unusedVariables false
set_option linter.unusedSimpArgs false
set_option maxHeartbeats 8000000
set_option maxRecDepth 100000
section
namespace Go.Proofs.YtepkfjmjidjedaaGreatW.PrintWords
open Go.RowKit
section
variable {P:Program} {d:Nat} {xs ys:Array Value} {f:Field} {fs:List Field} {a b:Value} {r s:Bool} {w:World}
theorem Qhg(hn:(f.name == "_")=false)(ha:(part f.type xs f.offset).run P w=.ok a w)(hb:(part f.type ys f.offset).run P w=.ok b w)(he:(Op.equalIn d f.type a b).run P w=.ok r w):(Op.eqFields d xs ys [f]).run P w=.ok r w:=by
  have hn':f.name ≠ "_" := by simpa using hn
  simp only[Op.eqFields,if_pos hn',Sem.run_bind,ha,hb,he,Result.andThen_ok]
  cases r<;>simp
theorem Qhh(hn:(f.name == "_")=false)(ha:(part f.type xs f.offset).run P w=.ok a w)(hb:(part f.type ys f.offset).run P w=.ok b w)(he:(Op.equalIn d f.type a b).run P w=.ok r w)(hr:(Op.eqFields d xs ys fs).run P w=.ok s w):(Op.eqFields d xs ys (f :: fs)).run P w=.ok (r && s) w:=by
  have hn':f.name ≠ "_" := by simpa using hn
  rw[Op.eqFields]
  simp only[if_pos hn',Sem.run_bind,ha,hb,he,Result.andThen_ok]
  cases r
  · simp
  · simpa using hr
theorem eqA_of{t:TypeId}{fs:Array Field}(hu:P.underlying t=some (.struct fs))(hp:P.stoodInHeld t=false)(h:(Op.eqFields d xs ys fs.toList).run P w=.ok r w):(Op.equalIn (d+1) t (.agg xs) (.agg ys)).run P w=.ok r w:=by
  have hf:P.fieldsOf t=fs:=by simp[Program.fieldsOf,hu]
  rw[run_equalIn_struct (P:=P) w d t xs ys (by rw[hf];exact hu) hp,hf]
  exact h
end
section
variable {P:Program} {ops:Array Oper} {rest:List Oper} {o:Oper} {a:Act} {Q:Exit→Act→World→Prop} {W:World}
theorem Qhi(hw:Region.wanted o (yielded ops a.tmps)=true)(h:wpList P ops Q ({ o with guard:=none } :: rest) a W):wpList P ops Q (o :: rest) a W:=by
  have h1:Region.wanted { o with guard:=none } (yielded ops a.tmps)=true:=rfl
  unfold wpList at h ⊢
  rw[if_pos h1]at h
  rw[if_pos hw]
  exact h
end
end Go.Proofs.YtepkfjmjidjedaaGreatW.PrintWords
end
section
namespace Go.Proofs.YtepkfjmjidjedaaGreatW.PrintLast
section
variable {P:Program} {ops:Array Oper} {Q:Exit→Act→World→Prop} {md:Region.Mode} {S:World→Prop} {ds:List Nat}
def Region.reachB (md:Region.Mode) (ops:Array Oper) (i:Nat):Nat→Nat→Bool
  | 0,_=>false
  | fuel+1,d=>match ops[d]? with
    | some o=>o.after.any fun e=>Region.binds md e && (e.on == i || Region.reachB md ops i fuel e.on)
    | none=>false
def Region.closedB (md:Region.Mode) (ops:Array Oper) (listed:Array Bool):Bool :=
  (List.range ops.size).all fun j=>!listed.getD j false || match ops[j]? with
    | some o=>o.after.all fun e=>!Region.binds md e || listed.getD e.on false
    | none=>true
def Region.lastB(md:Region.Mode)(ops:Array Oper)(listed:Array Bool)(ds:List Nat)(i:Nat):Bool :=
  ds.all fun d=>listed.getD d true || Region.reachB md ops i ops.size d
def ListedClosed(md:Region.Mode)(ops:Array Oper)(listed:Array Bool):Prop :=
  ∀j oj,ops[j]? = some oj→listed.getD j false=true→∀e∈oj.after,Region.binds md e=true→listed.getD e.on false=true
theorem Region.closedB_spec{listed:Array Bool}(h:Region.closedB md ops listed=true):ListedClosed md ops listed:=by
  intro j oj hj hl e he hb
  have hlt:j<ops.size:=(Array.getElem?_eq_some_iff.1 hj).1
  have h1:=List.all_eq_true.1 h j (List.mem_range.2 hlt)
  simp only[hl,hj,Bool.not_true,Bool.false_or]at h1
  have h2:=Array.all_eq_true_iff_forall_mem.1 h1 e he
  simpa [hb]using h2
theorem ListedClosed.set{listed:Array Bool}{i:Nat}(h:ListedClosed md ops listed)(hi:i∈Region.ready md ops listed):ListedClosed md ops (listed.setIfInBounds i true):=by
  obtain⟨_,oi,hoi,hall⟩:=mem_ready.1 hi
  intro j oj hj hl e he hb
  by_cases hij:i=j
  · subst hij
    have:oj=oi:=Option.some.inj (hj.symm.trans hoi)
    subst this
    exact getD_set_true (hall e he hb)
  · rw[getD_set_ne false hij]at hl
    exact getD_set_true (h j oj hj hl e he hb)
theorem Region.reach_listed{listed:Array Bool}{i:Nat}(hc:ListedClosed md ops listed):∀(fuel d:Nat),Region.reachB md ops i fuel d=true→listed.getD d false=true→listed.getD i false=true
  | 0,_,h,_=>by simp[Region.reachB]at h
  | fuel+1,d,h,hl=>by
    unfold Region.reachB at h
    cases ho:ops[d]? with
    | none=>rw[ho]at h;simp at h
    | some o =>
      rw[ho]at h
      obtain⟨e,he,h1⟩:=Array.any_eq_true'.1 h
      simp only[Bool.and_eq_true,Bool.or_eq_true,beq_iff_eq]at h1
      have hle:=hc d o ho hl e he h1.1
      rcases h1.2 with h2|h2
      · rw[← h2];exact hle
      · exact Region.reach_listed hc fuel e.on h2 hle
theorem Region.reach_not_ready{listed:Array Bool}{i d fuel:Nat}(hc:ListedClosed md ops listed)(hr:Region.reachB md ops i fuel d=true)(hun:listed.getD i true=false):d∉Region.ready md ops listed:=by
  intro hd
  obtain⟨_,o,ho,hall⟩:=mem_ready.1 hd
  have hi:listed.getD i false=true:=by
    cases fuel with
    | zero=>simp[Region.reachB]at hr
    | succ n =>
      unfold Region.reachB at hr
      rw[ho]at hr
      obtain⟨e,he,h1⟩:=Array.any_eq_true'.1 hr
      simp only[Bool.and_eq_true,Bool.or_eq_true,beq_iff_eq]at h1
      have hle:=hall e he h1.1
      rcases h1.2 with h2|h2
      · rw[← h2];exact hle
      · exact Region.reach_listed hc n e.on h2 hle
  rcases Nat.lt_or_ge i listed.size with h' | h'
  · simp[h']at hun hi
    rw[hun]at hi
    cases hi
  · simp[Array.getElem?_eq_none h']at hun
def Qfg (P:Program) (md:Region.Mode) (ops:Array Oper) (Q:Exit→Act→World→Prop) (S:World→Prop) (ds:List Nat):Nat→Array Bool→Act→World→Prop
  | 0,listed,a,w=>Region.ready md ops listed=[]∧Q .normal a w
  | fuel+1,listed,a,w =>
    (Region.ready md ops listed=[]→Q .normal a w) ∧
    ∀i∈Region.ready md ops listed,wpOp P ops Q i (fun a' w'=>(i∉ds→S w→S w')∧Qfg P md ops Q S ds fuel (listed.setIfInBounds i true) a' w') a w
theorem Qfh:∀(fuel:Nat) (listed:Array Bool) (a:Act) (w:World),Qfg P md ops Q S ds fuel listed a w→wpAny P md ops Q fuel listed a w
  | 0,_,_,_,h=>h
  | fuel+1,_,_,_,h=>⟨h.1,fun i hi=>wpOp_mono (fun a' w' h'=>Qfh fuel _ a' w' h'.2) (h.2 i hi)⟩
theorem Qfi {i:Nat} {oi:Oper} {v:Value} (hi:ops[i]? = some oi) (hsel:∀(j:Nat) (o:Oper) cs b,ops[j]? = some o→o.op≠.select cs b)
    (hQ:∀c a w,Q (.panic c) (a.put oi.dst v) w→Q (.panic c) a w) (n:Nat) :
    ∀ (fuel:Nat) (listed:Array Bool) (a:Act) (w:World),
      (∀j oj,ops[j]? = some oj→j≠i→listed.getD j true=false→(∀e∈oj.after,Region.binds md e=true→e.on≠i)→oi.apart ops oj=true) →
      ListedClosed md ops listed→(∀d∈ds,listed.getD d true=false→Region.reachB md ops i n d=true) →
      i∈Region.ready md ops listed→YieldsIf P ops S oi v a→S w →
      Qfg P md ops Q S ds fuel (listed.setIfInBounds i true) (a.put oi.dst v) w→Qfg P md ops Q S ds (fuel+1) listed a w:=by
  intro fuel
  induction fuel with
  | zero =>
    intro listed a w _ _ _ hr hy hS H
    refine⟨fun h=>(by rw[h]at hr;cases hr),fun j hj=>?_⟩
    by_cases hji:j=i
    · subst hji;exact hy.wpOp hi hS ⟨fun _ h=>h,H⟩
    · have:=ready_mono hj hji
      rw[H.1]at this
      cases this
  | succ fuel ih =>
    intro listed a w hfree hc hd hr hy hS H
    refine⟨fun h=>(by rw[h]at hr;cases hr),fun j hj=>?_⟩
    by_cases hji:j=i
    · subst hji;exact hy.wpOp hi hS ⟨fun _ h=>h,H⟩
    · have h1:=H.2 j (ready_mono hj hji)
      obtain⟨hjun,oj,hoj,hall⟩:=mem_ready.1 hj
      have hiun:=(mem_ready.1 hr).1
      have hnot:∀e∈oj.after,Region.binds md e=true→e.on≠i:=fun e he hb heq=>by
        have h1:=hall e he hb
        rw[heq]at h1
        rcases Nat.lt_or_ge i listed.size with h' | h'
        · simp[h']at hiun h1;rw[hiun]at h1;cases h1
        · simp[Array.getElem?_eq_none h']at h1
      have hjd:j∉ds:=fun hm=>Region.reach_not_ready hc (hd j hm hjun) hiun hj
      have h2:=wpOp_putIf hoj (hfree j oj hoj hji hjun hnot) (fun cs b=>hsel i oi cs b hi) (fun cs b=>hsel j oj cs b hoj) hQ hy h1
      have hfree':∀k ok,ops[k]? = some ok→k≠i→(listed.setIfInBounds j true).getD k true=false →
          (∀e∈ok.after,Region.binds md e=true→e.on≠i)→oi.apart ops ok=true:=fun k ok hk hki hun hno=>by
        refine hfree k ok hk hki ?_ hno
        by_cases hjk:j=k
        · subst hjk;exact hjun
        · rw[getD_set_ne true hjk]at hun;exact hun
      have hd':∀d∈ds,(listed.setIfInBounds j true).getD d true=false→Region.reachB md ops i n d=true:=fun d hm hun=>by
        refine hd d hm ?_
        by_cases hjk:j=d
        · subst hjk;exact hjun
        · rw[getD_set_ne true hjk]at hun;exact hun
      refine wpOp_mono (fun a' w' h3=>⟨h3.2.1,ih (listed.setIfInBounds j true) a' w' hfree' (hc.set hj) hd' (ready_mono hr (Ne.symm hji)) h3.1 (h3.2.1 hjd hS) ?_⟩) h2
      rw[Array.setIfInBounds_comm _ _ hji]
      exact h3.2.2
theorem Qfj {i:Nat} {oi:Oper} {v:Value} (hi:ops[i]? = some oi) (hsel:∀(j:Nat) (o:Oper) cs b,ops[j]? = some o→o.op≠.select cs b)
    (hQ:∀c a w,Q (.panic c) (a.put oi.dst v) w→Q (.panic c) a w) :
    ∀ (fuel:Nat) (listed:Array Bool) (a:Act) (w:World),
      (∀j oj,ops[j]? = some oj→j≠i→listed.getD j true=false→(∀e∈oj.after,Region.binds md e=true→e.on≠i)→oi.apart ops oj=true) →
      i∈Region.ready md ops listed→Yields P ops oi v a →
      Qfg P md ops Q S ds fuel (listed.setIfInBounds i true) (a.put oi.dst v) w→Qfg P md ops Q S ds (fuel+1) listed a w:=by
  intro fuel
  induction fuel with
  | zero =>
    intro listed a w _ hr hy H
    refine⟨fun h=>(by rw[h]at hr;cases hr),fun j hj=>?_⟩
    by_cases hji:j=i
    · subst hji;exact(hy.yieldsIf (S:=fun _=>True)).wpOp hi trivial ⟨fun _ h=>h,H⟩
    · have:=ready_mono hj hji
      rw[H.1]at this
      cases this
  | succ fuel ih =>
    intro listed a w hfree hr hy H
    refine⟨fun h=>(by rw[h]at hr;cases hr),fun j hj=>?_⟩
    by_cases hji:j=i
    · subst hji;exact(hy.yieldsIf (S:=fun _=>True)).wpOp hi trivial ⟨fun _ h=>h,H⟩
    · have h1:=H.2 j (ready_mono hj hji)
      obtain⟨hjun,oj,hoj,hall⟩:=mem_ready.1 hj
      have hiun:=(mem_ready.1 hr).1
      have hnot:∀e∈oj.after,Region.binds md e=true→e.on≠i:=fun e he hb heq=>by
        have h1:=hall e he hb
        rw[heq]at h1
        rcases Nat.lt_or_ge i listed.size with h' | h'
        · simp[h']at hiun h1;rw[hiun]at h1;cases h1
        · simp[Array.getElem?_eq_none h']at h1
      have h2:=wpOp_put hoj (hfree j oj hoj hji hjun hnot) (fun cs b=>hsel i oi cs b hi) (fun cs b=>hsel j oj cs b hoj) hQ hy h1
      have hfree':∀k ok,ops[k]? = some ok→k≠i→(listed.setIfInBounds j true).getD k true=false →
          (∀e∈ok.after,Region.binds md e=true→e.on≠i)→oi.apart ops ok=true:=fun k ok hk hki hun hno=>by
        refine hfree k ok hk hki ?_ hno
        by_cases hjk:j=k
        · subst hjk;exact hjun
        · rw[getD_set_ne true hjk]at hun;exact hun
      refine wpOp_mono (fun a' w' h3=>⟨h3.2.1,ih (listed.setIfInBounds j true) a' w' hfree' (ready_mono hr (Ne.symm hji)) h3.1 ?_⟩) h2
      rw[Array.setIfInBounds_comm _ _ hji]
      exact h3.2.2
theorem Qfk{i:Nat}{oi:Oper}{v:Value}{fuel:Nat}{listed:Array Bool}{a:Act}{w:World}(hi:ops[i]? = some oi)
    (hs:Region.noSelect ops=true) (hf:Region.free md ops listed i=true) (hr:(Region.ready md ops listed).contains i=true)
    (hc:Region.closedB md ops listed=true) (hl:Region.lastB md ops listed ds i=true)
    (hQ:∀c a w,Q (.panic c) (a.put oi.dst v) w→Q (.panic c) a w) (hy:YieldsIf P ops S oi v a) (hS:S w)
    (h:Qfg P md ops Q S ds fuel (listed.setIfInBounds i true) (a.put oi.dst v) w):Qfg P md ops Q S ds (fuel+1) listed a w :=
  Qfi hi (Region.noSelect_spec hs) hQ ops.size fuel listed a w (Region.free_spec hi hf) (Region.closedB_spec hc)
    (fun d hm hun=>by have:=List.all_eq_true.1 hl d hm;rw[hun]at this;simpa using this) (by simpa using hr) hy hS h
theorem Qfl{rs:List Nat}{fuel:Nat}{listed:Array Bool}{a:Act}{w:World}(hr:Region.ready md ops listed=rs)(hne:rs≠[])
    (h:∀i∈rs,wpOp P ops Q i (fun a' w'=>(i∉ds→S w→S w')∧Qfg P md ops Q S ds fuel (listed.setIfInBounds i true) a' w') a w):Qfg P md ops Q S ds (fuel+1) listed a w :=
  ⟨fun h0=>absurd (hr ▸ h0) hne,hr ▸ h⟩
theorem Qfm{listed:Array Bool}{a:Act}{w:World}(hr:Region.ready md ops listed=[])(h:Q .normal a w) :
    ∀fuel,Qfg P md ops Q S ds fuel listed a w
  | 0=>⟨hr,h⟩
  | _+1=>⟨fun _=>h,by rw[hr];simp⟩
theorem Qfn{id:Nat}{a:Act}{w:World}(hm:P.follows .mixedOrders=true)
    (h:Qfg P .any ops Q S ds ops.size (Array.replicate ops.size false) a { w with drawn:=w.drawn+1 }):(Code.region id ops true).wp P Q a w :=
  wp_region_any hm (Qfh _ _ _ _ h)
end
section
variable {P:Program} {ops:Array Oper} {Q:Exit→Act→World→Prop} {md:Region.Mode} {S:World→Prop} {ds:List Nat}
def AllReadyL(P:Program)(md:Region.Mode)(ops:Array Oper)(Q:Exit→Act→World→Prop)(S:World→Prop)(ds:List Nat)(fuel:Nat)(listed:Array Bool)(a:Act)(w:World)(rs:List Nat):Prop :=
  ∀i∈rs,wpOp P ops Q i (fun a' w'=>(i∉ds→S w→S w')∧Qfg P md ops Q S ds fuel (listed.setIfInBounds i true) a' w') a w
theorem AllReadyL.nil{fuel:Nat}{listed:Array Bool}{a:Act}{w:World}:AllReadyL P md ops Q S ds fuel listed a w []:=fun _ h=>by cases h
theorem AllReadyL.cons{fuel:Nat}{listed:Array Bool}{a:Act}{w:World}{i:Nat}{o:Oper}{rs:List Nat}(ho:ops[i]? = some o)(hd:i∉ds)
    (h:∀K':Act→World→Prop,Shut (∀a w,S w→(S w→Qfg P md ops Q S ds fuel (listed.setIfInBounds i true) a w)→K' a w)→if Region.wanted o (yielded ops a.tmps)=true then Oper.wp P o a w K' Q else K' (a.put o.dst undef) w)
    (hs:AllReadyL P md ops Q S ds fuel listed a w rs):AllReadyL P md ops Q S ds fuel listed a w (i :: rs):=fun j hj=>by
  rcases List.mem_cons.1 hj with rfl|hj
  · exact wpOp_step ho (fun K' hK=>h K' (fun a w hS hW=>hK a w ⟨fun _ _=>hS,hW hS⟩))
  · exact hs j hj
theorem Qfo{rs:List Nat}{fuel:Nat}{listed:Array Bool}{a:Act}{w:World}(hr:Region.ready md ops listed=rs)(hne:rs≠[])
    (h:AllReadyL P md ops Q S ds fuel listed a w rs):Qfg P md ops Q S ds (fuel+1) listed a w:=Qfl hr hne h
theorem Qfp{id n:Nat}{a:Act}{w:World}(l:Array Bool)(hm:P.follows .mixedOrders=true)(hn:ops.size=n)(hl:Array.replicate n false=l)(hS:S w.drew)
    (h:S w.drew→Qfg P .any ops Q S ds n l a w.drew):(Code.region id ops true).wp P Q a w:=by
  subst hn
  subst hl
  exact Qfn hm (h hS)
def Qfq(md:Region.Mode)(ops:Array Oper)(ds:List Nat)(l l':Array Bool)(i:Nat):Bool :=
  Region.noSelect ops && Region.free md ops l i && (Region.ready md ops l).contains i && Region.closedB md ops l && Region.lastB md ops l ds i && (l.setIfInBounds i true == l')
theorem take_{i:Nat}{N:Option Tmp}{oi:Oper}{v:Value}{fuel:Nat}{l:Array Bool}{a:Act}{w:World}(l':Array Bool)(hi:ops[i]? = some oi)(hN:oi.dst=N)(hc:Qfq md ops ds l l' i=true)
    (hQ:∀c a w,Q (.panic c) (a.put oi.dst v) w→Q (.panic c) a w) (hy:YieldsIf P ops S oi v a) (hS:S w) {a':Act} (ha:a.put N v=a')
    (h:Qfg P md ops Q S ds fuel l' a' w):Qfg P md ops Q S ds (fuel+1) l a w:=by
  subst ha
  subst hN
  simp only[Qfq,Bool.and_eq_true,beq_iff_eq]at hc
  obtain⟨⟨⟨⟨⟨h1,h2⟩,h3⟩,h4⟩,h5⟩,h6⟩:=hc
  subst h6
  exact Qfk hi h1 h2 h3 h4 h5 hQ hy hS h
def anyB(md:Region.Mode)(ops:Array Oper)(l l':Array Bool)(i:Nat):Bool :=
  Region.noSelect ops && Region.free md ops l i && (Region.ready md ops l).contains i && (l.setIfInBounds i true == l')
theorem pure_{i:Nat}{N:Option Tmp}{oi:Oper}{v:Value}{fuel:Nat}{l:Array Bool}{a:Act}{w:World}(l':Array Bool)(hi:ops[i]? = some oi)(hN:oi.dst=N)(hc:anyB md ops l l' i=true)
    (hQ:∀c a w,Q (.panic c) (a.put oi.dst v) w→Q (.panic c) a w) (hy:Yields P ops oi v a) {a':Act} (ha:a.put N v=a')
    (h:Qfg P md ops Q S ds fuel l' a' w):Qfg P md ops Q S ds (fuel+1) l a w:=by
  subst ha
  subst hN
  simp only[anyB,Bool.and_eq_true,beq_iff_eq]at hc
  obtain⟨⟨⟨h1,h2⟩,h3⟩,h6⟩:=hc
  subst h6
  exact Qfj hi (Region.noSelect_spec h1) hQ fuel l a w (Region.free_spec hi h2) (by simpa using h3) hy h
def Qfr(md:Region.Mode)(ops:Array Oper)(l l':Array Bool)(i:Nat):Bool:=(Region.ready md ops l == [i]) && (l.setIfInBounds i true == l')
theorem one_{i:Nat}{N:Option Tmp}{oi:Oper}{fuel:Nat}{l:Array Bool}{a:Act}{w:World}(l':Array Bool)(hi:ops[i]? = some oi)(hN:oi.dst=N)(hc:Qfr md ops l l' i=true)(hd:i∉ds)
    (h:∀K:Act→World→Prop,Shut (∀a' w',S w'→(S w'→Qfg P md ops Q S ds fuel l' a' w')→K a' w')→if Region.wanted oi (yielded ops a.tmps)=true then Oper.wp P oi a w K Q else K (a.put N undef) w) :
    Qfg P md ops Q S ds (fuel+1) l a w:=by
  subst hN
  simp only[Qfr,Bool.and_eq_true,beq_iff_eq]at hc
  obtain⟨h1,h2⟩:=hc
  subst h2
  exact Qfo h1 (by simp) (AllReadyL.cons hi hd (fun K hK=>h K hK) AllReadyL.nil)
theorem Qfs{l:Array Bool}{a:Act}{w:World}{n:Nat}(hr:(Region.ready md ops l == [])=true)(h:Q .normal a w):Qfg P md ops Q S ds n l a w:=Qfm (by simpa using hr) h n
theorem two_{i j:Nat}{Ni Nj:Option Tmp}{oi oj:Oper}{fuel:Nat}{l:Array Bool}{a:Act}{w:World}(li lj:Array Bool)(hi:ops[i]? = some oi)(hj:ops[j]? = some oj)(hNi:oi.dst=Ni)(hNj:oj.dst=Nj)
    (hc:(Region.ready md ops l == [i,j] && l.setIfInBounds i true == li && l.setIfInBounds j true == lj)=true) (hdi:i∉ds) (hdj:j∉ds)
    (h1:∀K:Act→World→Prop,Shut (∀a' w',S w'→(S w'→Qfg P md ops Q S ds fuel li a' w')→K a' w')→if Region.wanted oi (yielded ops a.tmps)=true then Oper.wp P oi a w K Q else K (a.put Ni undef) w)
    (h2:∀K:Act→World→Prop,Shut (∀a' w',S w'→(S w'→Qfg P md ops Q S ds fuel lj a' w')→K a' w')→if Region.wanted oj (yielded ops a.tmps)=true then Oper.wp P oj a w K Q else K (a.put Nj undef) w) :
    Qfg P md ops Q S ds (fuel+1) l a w:=by
  subst hNi
  subst hNj
  simp only[Bool.and_eq_true,beq_iff_eq]at hc
  obtain⟨⟨h3,h4⟩,h5⟩:=hc
  subst h4
  subst h5
  exact Qfo h3 (by simp) (AllReadyL.cons hi hdi (fun K hK=>h1 K hK) (AllReadyL.cons hj hdj (fun K hK=>h2 K hK) AllReadyL.nil))
theorem Qft{i j k:Nat}{Ni Nj Nk:Option Tmp}{oi oj ok:Oper}{fuel:Nat}{l:Array Bool}{a:Act}{w:World}(li lj lk:Array Bool)(hi:ops[i]? = some oi)(hj:ops[j]? = some oj)(hk:ops[k]? = some ok)(hNi:oi.dst=Ni)(hNj:oj.dst=Nj)(hNk:ok.dst=Nk)
    (hc:(Region.ready md ops l == [i,j,k] && l.setIfInBounds i true == li && l.setIfInBounds j true == lj && l.setIfInBounds k true == lk)=true) (hdi:i∉ds) (hdj:j∉ds) (hdk:k∉ds)
    (h1:∀K:Act→World→Prop,Shut (∀a' w',S w'→(S w'→Qfg P md ops Q S ds fuel li a' w')→K a' w')→if Region.wanted oi (yielded ops a.tmps)=true then Oper.wp P oi a w K Q else K (a.put Ni undef) w)
    (h2:∀K:Act→World→Prop,Shut (∀a' w',S w'→(S w'→Qfg P md ops Q S ds fuel lj a' w')→K a' w')→if Region.wanted oj (yielded ops a.tmps)=true then Oper.wp P oj a w K Q else K (a.put Nj undef) w)
    (h3:∀K:Act→World→Prop,Shut (∀a' w',S w'→(S w'→Qfg P md ops Q S ds fuel lk a' w')→K a' w')→if Region.wanted ok (yielded ops a.tmps)=true then Oper.wp P ok a w K Q else K (a.put Nk undef) w) :
    Qfg P md ops Q S ds (fuel+1) l a w:=by
  subst hNi
  subst hNj
  subst hNk
  simp only[Bool.and_eq_true,beq_iff_eq]at hc
  obtain⟨⟨⟨h4,h5⟩,h6⟩,h7⟩:=hc
  subst h5
  subst h6
  subst h7
  exact Qfo h4 (by simp) (AllReadyL.cons hi hdi (fun K hK=>h1 K hK) (AllReadyL.cons hj hdj (fun K hK=>h2 K hK) (AllReadyL.cons hk hdk (fun K hK=>h3 K hK) AllReadyL.nil)))
def Qfu:Act→List (Tmp × Value)→Act
  | a,[]=>a
  | a,(n,v) :: r=>Qfu (a.put (some n) v) r
theorem Qfv{σ:Type}{fuel:Nat}{l:Array Bool}{a:Act}{w:World}(fuel':Nat)(l':Array Bool)(ns:σ→List (Tmp × Value))(F:σ→World→Prop)
    (hcont:∀s w',F s w'→Qfg P md ops Q S ds fuel' l' (Qfu a (ns s)) w')
    (h:(∀s w',F s w'→Qfg P md ops Q S ds fuel' l' (Qfu a (ns s)) w')→Qfg P md ops Q S ds fuel l a w):Qfg P md ops Q S ds fuel l a w:=h hcont
theorem Qfw{fuel:Nat}{l:Array Bool}{a a':Act}{w:World}(ha:a=a')(h:Qfg P md ops Q S ds fuel l a' w):Qfg P md ops Q S ds fuel l a w:=by
  subst ha
  exact h
theorem call_{oi:Oper}{N:Option Tmp}{a:Act}{w:World}{K:Act→World→Prop}(f:FuncId)(args:Array Value)(hw:Region.wanted oi (yielded ops a.tmps)=true)(hN:oi.dst=N)(hrun:(execOp a.eval oi).run P w=.ok (.enter f args) w)
    (h:Calls P f args w fun e w'=>∃v,e=.returned v∧K (a.put N v) w'):if Region.wanted oi (yielded ops a.tmps)=true then Oper.wp P oi a w K Q else K (a.put N undef) w:=by
  rw[if_pos hw]
  subst hN
  unfold Oper.wp
  rw[hrun,Oper.upon_enter]
  refine h.mono fun e w'' hh=>?_
  obtain⟨v,rfl,hk⟩:=hh
  exact hk
theorem Qfx{f:FuncId}{fn:Func}(hf:P.funcs[f]? = some fn)(hname:(fn.name == "runtime.NumGoroutine")=false)(hb:fn.body.isSome=true)(args:Array Value)(w:World):(callFunc f args).run P w=.ok (.enter f args) w:=by
  have h1:fn.name ≠ "runtime.NumGoroutine" := by simpa using hname
  obtain⟨c,hc⟩:=Option.isSome_iff_exists.1 hb
  simp[callFunc,hf,h1,hc]
theorem Qfy{oi:Oper}{N:Option Tmp}{a:Act}{w:World}{K:Act→World→Prop}{f:FuncId}{fn:Func}{as_:Array Operand}{ts:Array TypeId}(hf:P.funcs[f]? = some fn)(hname:(fn.name == "runtime.NumGoroutine")=false)(hb:fn.body.isSome=true)(args:Array Value)
    (hw:Region.wanted oi (yielded ops a.tmps)=true) (hN:oi.dst=N) (hop:oi.op=.call { callee:=.value (.func f),args:=as_,argTypes:=ts }) (hargs:as_.map a.eval=args)
    (h:Calls P f args w fun e w'=>∃v,e=.returned v∧K (a.put N v) w'):if Region.wanted oi (yielded ops a.tmps)=true then Oper.wp P oi a w K Q else K (a.put N undef) w:=by
  refine call_ f args hw hN ?_ h
  have he:=Qfx hf hname hb args w
  unfold execOp
  simp[hop,resolve,Deferred.ofValue,invoke,Act.eval,hargs,he]
theorem Qfz{rest:List Oper}{oi:Oper}{a:Act}{w:World}(N:Option Tmp)(hd:oi.dst=N)(hg:oi.guard=none){f:FuncId}{fn:Func}{as_:Array Operand}{ts:Array TypeId}(hf:P.funcs[f]? = some fn)(hname:(fn.name == "runtime.NumGoroutine")=false)(hb:fn.body.isSome=true)(args:Array Value)
    (hop:oi.op=.call { callee:=.value (.func f),args:=as_,argTypes:=ts }) (hargs:as_.map a.eval=args)
    (h:Calls P f args w fun e w'=>∃v,e=.returned v∧wpList P ops Q rest (a.put N v) w'):wpList P ops Q (oi :: rest) a w:=by
  refine wpList_plain hg fun K hK=>?_
  have he:=Qfx hf hname hb args w
  have hrun:(execOp a.eval oi).run P w=.ok (.enter f args) w:=by
    unfold execOp
    simp[hop,resolve,Deferred.ofValue,invoke,Act.eval,hargs,he]
  unfold Oper.wp
  rw[hrun,Oper.upon_enter]
  refine h.mono fun e w'' hh=>?_
  obtain⟨v,rfl,hk⟩:=hh
  subst hd
  exact hK _ _ hk
theorem Qga{oi:Oper}{N:Option Tmp}{a:Act}{w w1:World}{v:Value}{K:Act→World→Prop}(hw:Region.wanted oi (yielded ops a.tmps)=true)(hN:oi.dst=N)(hrun:(execOp a.eval oi).run P w=.ok (.value v) w1)
    (h:K (a.put N v) w1):if Region.wanted oi (yielded ops a.tmps)=true then Oper.wp P oi a w K Q else K (a.put N undef) w:=by
  rw[if_pos hw]
  subst hN
  unfold Oper.wp
  rw[hrun]
  exact h
theorem skip_{oi:Oper}{a:Act}{w w1:World}{K:Act→World→Prop}(hw:Region.wanted oi (yielded ops a.tmps)=true)(hN:oi.dst=none)(hrun:(execOp a.eval oi).run P w=.ok .skip w1)
    (h:K a w1):if Region.wanted oi (yielded ops a.tmps)=true then Oper.wp P oi a w K Q else K (a.put none undef) w:=by
  rw[if_pos hw]
  unfold Oper.wp
  rw[hrun]
  show K (a.put oi.dst undef) w1
  rw[hN]
  exact h
theorem Qgb(n:Int):IntKind.i64.wrap n=Go.RowKit.wrap64 n:=by unfold Go.RowKit.wrap64;exact IntKind.wrap_i64 n
theorem i32_w(n:Int):IntKind.i32.wrap n=Go.RowKit.wrap32 n:=by unfold Go.RowKit.wrap32;exact IntKind.wrap_i32 n
section
variable {P:Program} {md:Region.Mode} {ops:Array Oper} {Q:Exit→Act→World→Prop} {S:World→Prop} {ds:List Nat}
theorem pz_{i:Nat}{N:Option Tmp}{oi:Oper}{v:Value}{fuel:Nat}{l:Array Bool}{a a':Act}{w:World}(l':Array Bool)(hc:anyB md ops l l' i=true)(h:Qfg P md ops Q S ds fuel l' a' w)(hi:ops[i]? = some oi:=by exact rfl)(hN:oi.dst=N:=by exact rfl)(hQ:∀c a w,Q (.panic c) (a.put oi.dst v) w→Q (.panic c) a w:=by exact fun _ _ _ h=>h)(hy:Yields P ops oi v a:=by(refine Or.inl ⟨by rfl,?_⟩;intro w';go_simp;with_reducible rfl))(ha:a.put N v=a':=by(simp only[Act.put,List.setIfInBounds_toArray,List.set_cons_zero,List.set_cons_succ,Qgb,i32_w];rfl)):Qfg P md ops Q S ds (fuel+1) l a w:=pure_ l' hi hN hc hQ hy ha h
theorem tz_{i:Nat}{N:Option Tmp}{oi:Oper}{v:Value}{fuel:Nat}{l:Array Bool}{a a':Act}{w:World}(l':Array Bool)(hc:Qfq md ops ds l l' i=true)(hS:S w)(h:Qfg P md ops Q S ds fuel l' a' w)(hi:ops[i]? = some oi:=by exact rfl)(hN:oi.dst=N:=by exact rfl)(hQ:∀c a w,Q (.panic c) (a.put oi.dst v) w→Q (.panic c) a w:=by exact fun _ _ _ h=>h)(hy:YieldsIf P ops S oi v a:=by(refine Or.inl ⟨by rfl,?_⟩;intro w';(try simp only[and_imp]);intros;go_simp;with_reducible rfl))(ha:a.put N v=a':=by(simp only[Act.put,List.setIfInBounds_toArray,List.set_cons_zero,List.set_cons_succ,Qgb,i32_w];rfl)):Qfg P md ops Q S ds (fuel+1) l a w:=take_ l' hi hN hc hQ hy hS ha h
theorem nzp_{fuel:Nat}{l:Array Bool}{a a':Act}{v:Value}{w:World}(N:Nat)(h:Qfg P md ops Q S ds fuel l a' w)(ha:Act.put a (some N) v=a':=by(simp only[Act.put,List.setIfInBounds_toArray,List.set_cons_zero,List.set_cons_succ,Qgb,i32_w];rfl)):Qfg P md ops Q S ds fuel l (Act.put a (some N) v) w:=Qfw ha h
theorem nza_{fuel:Nat}{l:Array Bool}{a a':Act}{w:World}(h:Qfg P md ops Q S ds fuel l a' w)(ha:a=a':=by(simp only[Qfu,Act.put,List.setIfInBounds_toArray,List.set_cons_zero,List.set_cons_succ];rfl)):Qfg P md ops Q S ds fuel l a w:=Qfw ha h
end
end
end Go.Proofs.YtepkfjmjidjedaaGreatW.PrintLast
end
section
namespace Go.Proofs.YtepkfjmjidjedaaGreatW.PrintLast
open Go.Proofs.YtepkfjmjidjedaaGreatW.PrintWords (Aside0)
def Qgc(md:Region.Mode)(o:Oper):List Nat:=(o.after.toList.filter (fun e=>Region.binds md e)).map (fun e=>e.on)
def Qgd(md:Region.Mode)(ops:Array Oper)(i:Nat)(oi:Oper):List Nat:=(List.range ops.size).filter fun j=>!(j == i) && match ops[j]? with
  | some oj=>!(oj.after.any (fun e=>Region.binds md e && e.on == i) || oi.apart ops oj)
  | none=>false
def rtab(md:Region.Mode)(ops:Array Oper):Bool × List (List Nat × List Nat):=(Region.noSelect ops,(List.range ops.size).map fun i=>match ops[i]? with
  | some o=>(Qgc md o,Qgd md ops i o)
  | none=>([],[]))
def Qge(T:List (List Nat × List Nat))(l:List Bool)(i:Nat):Bool:=!l.getD i true && match T[i]? with
  | some r=>r.1.all (fun j=>l.getD j false)
  | none=>false
def Qgf(T:List (List Nat × List Nat))(l:List Bool):List Nat:=(List.range T.length).filter (Qge T l)
def Qgg(T:List (List Nat × List Nat))(l:List Bool)(i:Nat):Bool:=match T[i]? with
  | some r=>r.2.all (fun j=>l.getD j true)
  | none=>false
def Qgh(T:List (List Nat × List Nat))(l:List Bool):Bool:=(List.range T.length).all fun j=>!l.getD j false || match T[j]? with
  | some r=>r.1.all (fun k=>l.getD k false)
  | none=>true
def Qgi (T:List (List Nat × List Nat)) (i:Nat):Nat→Nat→Bool
  | 0,_=>false
  | fuel+1,d=>match T[d]? with
    | some r=>r.1.any fun j=>j == i || Qgi T i fuel j
    | none=>false
def Qgj(T:List (List Nat × List Nat))(l:List Bool)(ds:List Nat)(i:Nat):Bool:=ds.all fun d=>l.getD d true || Qgi T i T.length d
section
variable {md:Region.Mode} {ops:Array Oper} {T:Bool × List (List Nat × List Nat)} {l l' li lj lk:Array Bool} {ds:List Nat} {i j k:Nat}
theorem gd(l:Array Bool)(j:Nat)(b:Bool):l.getD j b=l.toList.getD j b:=by simp[Array.getD_eq_getD_getElem?,List.getD_eq_getElem?_getD]
theorem Qgk(o:Oper)(p:Nat→Bool):o.after.all (fun e=>!Region.binds md e || p e.on)=(Qgc md o).all p:=by
  unfold Qgc
  rw[← Array.all_toList]
  induction o.after.toList with
  | nil=>rfl
  | cons e r ih =>
    rw[List.all_cons,ih,List.filter_cons]
    cases h:Region.binds md e<;>simp
theorem Qgl(o:Oper)(p:Nat→Bool):o.after.any (fun e=>Region.binds md e && p e.on)=(Qgc md o).any p:=by
  unfold Qgc
  rw[← Array.any_toList]
  induction o.after.toList with
  | nil=>rfl
  | cons e r ih =>
    rw[List.any_cons,ih,List.filter_cons]
    cases h:Region.binds md e<;>simp
theorem Qgm:(rtab md ops).2.length=ops.size:=by simp[rtab]
theorem Qgn{o:Oper}(h:ops[i]? = some o):(rtab md ops).2[i]? = some (Qgc md o,Qgd md ops i o):=by
  have hi:=(Array.getElem?_eq_some_iff.1 h).1
  unfold rtab
  rw[List.getElem?_map,List.getElem?_range hi,Option.map_some,h]
theorem Qgo(h:ops[i]? = none):(rtab md ops).2[i]? = none:=by
  have hi:ops.size≤i:=Array.getElem?_eq_none_iff.1 h
  exact List.getElem?_eq_none (by rw[Qgm];exact hi)
theorem Qgp:Qge (rtab md ops).2 l.toList i=(!l.getD i true && ((ops[i]?).map (·.after.all fun e=>!Region.binds md e || l.getD e.on false)).getD false):=by
  unfold Qge
  rw[gd]
  cases h:ops[i]? with
  | none=>rw[Qgo h];rfl
  | some o =>
    rw[Qgn h]
    simp only[Option.map_some,Option.getD_some]
    rw[← Qgk]
    simp only[gd]
theorem Qgq:Region.ready md ops l=Qgf (rtab md ops).2 l.toList:=by
  unfold Region.ready Qgf
  rw[Qgm]
  refine List.filter_congr (fun i _=>?_)
  rw[Qgp]
theorem Qgr:Region.free md ops l i=Qgg (rtab md ops).2 l.toList i:=by
  unfold Region.free Qgg
  cases h:ops[i]? with
  | none=>rw[Qgo h]
  | some oi =>
    rw[Qgn h]
    simp only[Qgd]
    rw[List.all_filter]
    congr 1
    funext j
    rw[gd]
    cases hj:ops[j]? with
    | none=>cases (j == i)<;>cases (l.toList.getD j true)<;>simp
    | some oj =>
      cases (j == i)<;>cases (l.toList.getD j true)<;>cases (oj.after.any (fun e=>Region.binds md e && e.on == i) || oi.apart ops oj)<;>simp_all
theorem Qgs:Region.closedB md ops l=Qgh (rtab md ops).2 l.toList:=by
  unfold Region.closedB Qgh
  rw[Qgm]
  congr 1
  funext j
  rw[gd]
  cases h:ops[j]? with
  | none=>rw[Qgo h]
  | some o =>
    rw[Qgn h]
    simp only
    rw[← Qgk]
    simp only[gd]
theorem Qgt:∀(fuel d:Nat),Region.reachB md ops i fuel d=Qgi (rtab md ops).2 i fuel d
  | 0,_=>rfl
  | fuel+1,d=>by
    unfold Region.reachB Qgi
    cases h:ops[d]? with
    | none=>rw[Qgo h]
    | some o =>
      rw[Qgn h]
      simp only
      rw[← Qgl]
      congr 1
      funext e
      rw[Qgt fuel]
theorem last_eq:Region.lastB md ops l ds i=Qgj (rtab md ops).2 l.toList ds i:=by
  unfold Region.lastB Qgj
  rw[Qgm]
  congr 1
  funext d
  rw[gd,Qgt]
theorem Qgu(h:Qge T.2 l.toList i=true)(hT:rtab md ops=T):(Region.ready md ops l).contains i=true:=by
  subst hT
  rw[Qgq]
  unfold Qgf
  rw[List.contains_iff_mem,List.mem_filter,List.mem_range]
  refine⟨?_,h⟩
  unfold Qge at h
  rw[Bool.and_eq_true]at h
  cases hq:(rtab md ops).2[i]? with
  | none=>rw[hq]at h;simp at h
  | some r=>exact(List.getElem?_eq_some_iff.1 hq).1
theorem Qgv(h:(l.toList.set i true == l'.toList)=true):(l.setIfInBounds i true == l')=true:=by
  rw[beq_iff_eq]at h ⊢
  apply Array.ext'
  rw[Array.toList_setIfInBounds]
  exact h
def anyT(T:Bool × List (List Nat × List Nat))(l l':List Bool)(i:Nat):Bool:=T.1 && Qgg T.2 l i && Qge T.2 l i && (l.set i true == l')
theorem Qgw(hT:rtab md ops=T)(h:anyT T l.toList l'.toList i=true):anyB md ops l l' i=true:=by
  simp only[anyT,Bool.and_eq_true]at h
  obtain⟨⟨⟨h1,h2⟩,h3⟩,h4⟩:=h
  have h5:=Qgu h3 hT
  have h6:=Qgv h4
  subst hT
  simp only[anyB,Bool.and_eq_true]
  exact⟨⟨⟨h1,by rw[Qgr];exact h2⟩,h5⟩,h6⟩
def takeT(T:Bool × List (List Nat × List Nat))(ds:List Nat)(l l':List Bool)(i:Nat):Bool:=T.1 && Qgg T.2 l i && Qge T.2 l i && Qgh T.2 l && Qgj T.2 l ds i && (l.set i true == l')
theorem take_of(hT:rtab md ops=T)(h:takeT T ds l.toList l'.toList i=true):Qfq md ops ds l l' i=true:=by
  simp only[takeT,Bool.and_eq_true]at h
  obtain⟨⟨⟨⟨⟨h1,h2⟩,h3⟩,h4⟩,h5⟩,h6⟩:=h
  have h7:=Qgu h3 hT
  have h8:=Qgv h6
  subst hT
  simp only[Qfq,Bool.and_eq_true]
  exact⟨⟨⟨⟨⟨h1,by rw[Qgr];exact h2⟩,h7⟩,by rw[Qgs];exact h4⟩,by rw[last_eq];exact h5⟩,h8⟩
theorem Qgx(hT:rtab md ops=T)(h:(Qgf T.2 l.toList == [i] && l.toList.set i true == l'.toList)=true):Qfr md ops l l' i=true:=by
  simp only[Bool.and_eq_true]at h
  obtain⟨h1,h2⟩:=h
  subst hT
  simp only[Qfr,Bool.and_eq_true]
  exact⟨by rw[Qgq];exact h1,Qgv h2⟩
theorem Qgy(hT:rtab md ops=T)(h:(Qgf T.2 l.toList == [])=true):(Region.ready md ops l == [])=true:=by
  subst hT
  rw[Qgq]
  exact h
def upM(B:List Nat)(d:Nat):List Nat→Nat
  | []=>0
  | n :: r=>(2^n |||(if n<d then B.getD n 0 else 0)) ||| upM B d r
def Qgz(T:List (List Nat × List Nat))(B:List Nat):Bool:=(List.range T.length).all fun d=>match T[d]? with
  | some r=>(B.getD d 0 ||| upM B d r.1) == upM B d r.1
  | none=>false
theorem Qha {B:List Nat} {d i:Nat}:∀ {ns:List Nat},(upM B d ns).testBit i=true→∃n∈ns,n=i∨(n<d∧(B.getD n 0).testBit i=true)
  | [],h=>by simp[upM]at h
  | n :: r,h=>by
    unfold upM at h
    rw[Nat.testBit_or,Nat.testBit_or,Bool.or_eq_true,Bool.or_eq_true]at h
    rcases h with(h|h)|h
    · rw[Nat.testBit_two_pow]at h
      exact⟨n,List.mem_cons_self,.inl (by simpa using h)⟩
    · by_cases hn:n<d
      · rw[if_pos hn]at h
        exact⟨n,List.mem_cons_self,.inr ⟨hn,h⟩⟩
      · rw[if_neg hn]at h
        simp at h
    · obtain⟨m,hm,h2⟩:=Qha h
      exact⟨m,List.mem_cons_of_mem _ hm,h2⟩
theorem Qhb{T:List (List Nat × List Nat)}{B:List Nat}(hB:Qgz T B=true):∀(fuel d:Nat),d<fuel→d<T.length→(B.getD d 0).testBit i=true→Qgi T i fuel d=true
  | 0,d,h,_,_=>by omega
  | fuel+1,d,h,hd,hb=>by
    have h1:=List.all_eq_true.1 hB d (List.mem_range.2 hd)
    cases hr:T[d]? with
    | none=>rw[hr]at h1;simp at h1
    | some r =>
      rw[hr]at h1
      simp only[beq_iff_eq]at h1
      have h2:(upM B d r.1).testBit i=true:=by rw[← h1,Nat.testBit_or,hb,Bool.true_or]
      obtain⟨n,hn,h3⟩:=Qha h2
      unfold Qgi
      rw[hr]
      simp only
      rw[List.any_eq_true]
      refine⟨n,hn,?_⟩
      rcases h3 with rfl |⟨h4,h5⟩
      · simp
      · rw[Qhb hB fuel n (by omega) (by omega) h5,Bool.or_true]
def lastW(T:List (List Nat × List Nat))(B:List Nat)(l:List Bool)(ds:List Nat)(i:Nat):Bool:=ds.all fun d=>l.getD d true ||(decide (d<T.length) && (B.getD d 0).testBit i)
def takeW(T:Bool × List (List Nat × List Nat))(B:List Nat)(ds:List Nat)(l l':List Bool)(i:Nat):Bool:=T.1 && Qgg T.2 l i && Qge T.2 l i && Qgh T.2 l && lastW T.2 B l ds i && (l.set i true == l')
theorem Qhc{B:List Nat}(hT:rtab md ops=T)(hB:Qgz T.2 B=true)(h:takeW T B ds l.toList l'.toList i=true):Qfq md ops ds l l' i=true:=by
  refine take_of hT ?_
  simp only[takeW,takeT,Bool.and_eq_true]at h ⊢
  obtain⟨⟨⟨⟨⟨h1,h2⟩,h3⟩,h4⟩,h5⟩,h6⟩:=h
  refine⟨⟨⟨⟨⟨h1,h2⟩,h3⟩,h4⟩,?_⟩,h6⟩
  unfold lastW at h5
  unfold Qgj
  rw[List.all_eq_true]at h5 ⊢
  intro d hd
  have h7:=h5 d hd
  rw[Bool.or_eq_true,Bool.and_eq_true,decide_eq_true_eq]at h7
  rcases h7 with h7 |⟨h8,h9⟩
  · rw[h7,Bool.true_or]
  · rw[Qhb hB _ d h8 h8 h9,Bool.or_true]
theorem Qhd{P:Program}{Q:Exit→Act→World→Prop}{S:World→Prop}{n:Nat}{a:Act}{w:World}{B:List Nat}(hT:rtab md ops=T)(hB:Qgz T.2 B=true)(h:Aside0 (rtab md ops=T)→Aside0 (Qgz T.2 B=true)→Qfg P md ops Q S ds n l a w):Qfg P md ops Q S ds n l a w:=h ⟨hT⟩ ⟨hB⟩
end
def Qhe:Code→Nat→Option (Array Oper)
  | .region id ops _,k=>if id == k then some ops else none
  | .seq a b,k=>match Qhe a k with
    | some o=>some o
    | none=>Qhe b k
  | .cond _ a b,k=>match Qhe a k with
    | some o=>some o
    | none=>Qhe b k
  | .block _ c,k=>Qhe c k
  | .loop c,k=>Qhe c k
  | .scope c,k=>Qhe c k
  | .rangeFunc _ _ a b,k=>match Qhe a k with
    | some o=>some o
    | none=>Qhe b k
  | _,_=>none
def Qhf(f:Func)(k:Nat):Array Oper:=((f.body.bind fun c=>Qhe c k)).getD #[]
end Go.Proofs.YtepkfjmjidjedaaGreatW.PrintLast
end
section
namespace Go.Proofs.YtepkfjmjidjedaaGreatW.PrintLast
section
variable {P:Program} {ops:Array Oper} {Q:Exit→Act→World→Prop} {md:Region.Mode} {S:World→Prop} {ds:List Nat} {T:Bool × List (List Nat × List Nat)}
end
section
variable {P:Program} {ops:Array Oper} {Q:Exit→Act→World→Prop} {md:Region.Mode} {T:Bool × List (List Nat × List Nat)} {B:List Nat} {O:List Nat} {b:Nat→Bool} {i j n:Nat}
end
end Go.Proofs.YtepkfjmjidjedaaGreatW.PrintLast
end
section
namespace Go.Proofs.YtepkfjmjidjedaaGreatW.PrintWords
open Go.RowKit
namespace Kd
section
variable {α:Type} {d:Kd α} {e base g o n cap:Nat} {ok okp:Nat→Prop} {w W:World} {v:Value} {xs:List α}
end
section
variable {α:Type} {enc:α→Value} {h1:∀x,(enc x).oneCell'=true} {e base g o n cap:Nat} {ok:Nat→Prop} {W:World} {xs:List α}
end
def tag{α:Type}(f:Nat→Nat)(d:Kd α):Kd (α × Nat) where
  sz:=d.sz
  E:=d.E
  K:=fun w x cs=>d.K w x.1 cs
  M:=fun w base ok x cs=>d.M w base (fun k=>ok k∧f k=x.2) x.1 cs
  K_len:=fun h=>d.K_len h
  K_one:=fun h=>d.K_one h
  K_below:=fun hb h=>d.K_below hb h
  K_of_M:=fun h=>d.K_of_M h
  M_mono:=fun hok h=>d.M_mono (fun k hk=>⟨hok k hk.1,hk.2⟩) h
  M_bound:=fun h=>d.M_mono (fun _ hk=>⟨⟨hk.1.1,hk.2⟩,hk.1.2⟩) (d.M_bound h)
  M_move:=fun hm h=>d.M_move (fun k hk=>hm k hk.1) h
  M_lower:=fun hb h=>d.M_lower hb h
def raw(sz:Nat):Kd (List Value) where
  sz:=sz
  E:=[]
  K:=fun _ x cs=>cs=x∧cs.length=sz∧∀u∈cs,u.oneCell'=true
  M:=fun _ _ _ x cs=>cs=x∧cs.length=sz∧∀u∈cs,u.oneCell'=true
  K_len:=fun h=>h.2.1
  K_one:=fun h=>h.2.2
  K_below:=fun _ h=>h
  K_of_M:=fun h=>h
  M_mono:=fun _ h=>h
  M_bound:=fun h=>h
  M_move:=fun _ h=>h
  M_lower:=fun _ h=>h
def S{α:Type}(d:Kd α)(e:Nat)(w:World)(base:Nat)(ok:Nat→Prop)(v:Value)(xs:List α):Prop:=∃f,(tag f d).R e w base ok v xs.zipIdx
section
variable {α β:Type} {d:Kd α} {d':Kd β} {e e':Nat} {w w1 W:World} {base b:Nat} {ok ok' okv oku:Nat→Prop} {u v:Value} {xs:List α} {ys:List β}
theorem R_tight(hE:d.E=[])(h:d.R e w base ok v xs):d.R e w base (fun k=>some k=v.ownBlock) v xs:=by
  obtain⟨h0,inner,ho,hr⟩:=h
  refine⟨fun k hk=>hk.symm,inner,ho,hr.imp_ (fun p c hp=>d.M_mono (fun k hk=>?_) (d.M_bound hp))⟩
  obtain⟨_,_,_,q,hq,_⟩:=hk
  rw[hE]at hq
  cases hq
end
section
variable {α β:Type} {d:Kd α} {d':Kd β} {e e' g:Nat} {w w1 W:World} {base b:Nat} {ok ok' okv oku:Nat→Prop} {u v:Value} {xs:List α} {ys:List β}
end
section
open Classical in
variable {P:Program} {ops:Array Oper} {rest:List Oper} {o:Oper} {a:Act} {Q:Exit→Act→World→Prop} {Kc:Act→World→Prop} {α:Type}
end
def gap {α:Type} (f:Nat→Nat) (d:Kd α) (i:Nat) (c:List Value):Kd (α × Nat) where
  sz:=d.sz
  E:=d.E
  K:=fun w x cs=>(x.2=i→cs=c∧cs.length=d.sz∧∀u∈cs,u.oneCell'=true)∧(x.2≠i→d.K w x.1 cs)
  M:=fun w base ok x cs=>(x.2=i→cs=c∧cs.length=d.sz∧∀u∈cs,u.oneCell'=true)∧(x.2≠i→d.M w base (fun k=>ok k∧f k=x.2) x.1 cs)
  K_len:=fun {w x cs} h=>by
    by_cases hx:x.2=i
    · exact(h.1 hx).2.1
    · exact d.K_len (h.2 hx)
  K_one:=fun {w x cs} h=>by
    by_cases hx:x.2=i
    · exact(h.1 hx).2.2
    · exact d.K_one (h.2 hx)
  K_below:=fun hb h=>⟨h.1,fun hx=>d.K_below hb (h.2 hx)⟩
  K_of_M:=fun h=>⟨h.1,fun hx=>d.K_of_M (h.2 hx)⟩
  M_mono:=fun hok h=>⟨h.1,fun hx=>d.M_mono (fun k hk=>⟨hok k hk.1,hk.2⟩) (h.2 hx)⟩
  M_bound:=fun h=>⟨h.1,fun hx=>d.M_mono (fun _ hk=>⟨⟨hk.1.1,hk.2⟩,hk.1.2⟩) (d.M_bound (h.2 hx))⟩
  M_move:=fun hm h=>⟨h.1,fun hx=>d.M_move (fun k hk=>hm k hk.1) (h.2 hx)⟩
  M_lower:=fun hb h=>⟨h.1,fun hx=>d.M_lower hb (h.2 hx)⟩
def H{α:Type}(d:Kd α)(e:Nat)(w:World)(base:Nat)(ok:Nat→Prop)(v:Value)(xs:List α)(i:Int)(oki:Nat→Prop)(c:List Value):Prop :=
  (∀k,oki k→ok k)∧∃f,(gap f d i.toNat c).R e w base (fun k=>ok k∧¬oki k) v xs.zipIdx
section
variable {α β:Type} {d:Kd α} {e e' g n cap:Nat} {w w1 W:World} {base:Nat} {ok ok' oki okp:Nat→Prop} {u v:Value} {xs:List α} {i:Int} {c:List Value}
open Classical in
end
section
variable {P:Program} {ops:Array Oper} {rest:List Oper} {o:Oper} {a:Act} {Q:Exit→Act→World→Prop} {α:Type}
end
section
variable {α:Type} {n:Nat} {d:Kd α} {hs:0<d.sz} {w:World} {base:Nat} {ok:Nat→Prop} {xs:List α} {cs:List Value}
end
section
variable {α:Type} {n:Nat} {enc:α→Value} {h1:∀x,(enc x).oneCell'=true} {hs:0<(scalar enc h1).sz} {w:World} {base:Nat} {ok:Nat→Prop} {xs:List α} {cs:List Value}
end
structure Heap {α:Type} (d:Kd α):Prop where
  K:∀ {w w1:World} {x:α} {cs:List Value},(∀k,k<w.heap.size→w1.heap[k]? = w.heap[k]?)→d.K w x cs→d.K w1 x cs
section
variable {α:Type} {d:Kd α} {e base g n c:Nat} {ok:Nat→Prop} {w w0 W:World} {A:Option Addr} {xs:List α}
end
end Kd
end Go.Proofs.YtepkfjmjidjedaaGreatW.PrintWords
end
section
namespace Go.Proofs.YtepkfjmjidjedaaGreatW.PrintWords
open Go.RowKit
section
variable {P:Program}
end
namespace Kd
section
variable {P:Program} {ops:Array Oper} {rest:List Oper} {o:Oper} {a:Act} {Q:Exit→Act→World→Prop} {Kc:Act→World→Prop} {α:Type}
end
section
variable {α:Type} {d:Kd α} {e:Nat} {w:World} {base:Nat} {ok:Nat→Prop} {v:Value} {xs:List α}
end
section
variable {P:Program} {ops:Array Oper} {rest:List Oper} {o:Oper} {a:Act} {Q:Exit→Act→World→Prop} {Kc:Act→World→Prop} {α:Type}
end
end Kd
section
variable {w W W2:World} {S S2 S':Nat→Prop}
end
namespace Kd
section
variable {α:Type} {d:Kd α} {e base n c:Nat} {ok oki S S2:Nat→Prop} {w w0 W W1 W2:World} {v:Value} {A:Option Addr} {xs:List α} {i:Int} {cs:List Value}
end
end Kd
def Foot(P:World→Prop)(W:World)(ok:Nat→Prop):Prop:=∀W':World,(∀k,ok k→k<W.heap.size→W'.heap[k]? = W.heap[k]?)→P W'
theorem heap_lt{W W1:World}{k:Nat}(h:W1.heap[k]? = W.heap[k]?)(hlt:k<W.heap.size):k<W1.heap.size:=by
  rw[Array.getElem?_eq_getElem hlt]at h
  exact(Array.getElem?_eq_some_iff.1 h).1
namespace Foot
variable {P Q:World→Prop} {W W1:World} {ok ok':Nat→Prop}
theorem now(h:Foot P W ok):P W:=h W (fun _ _ _=>rfl)
theorem mono(h:Foot P W ok)(hok:∀k,ok k→ok' k):Foot P W ok':=fun W' hW=>h W' (fun k hk hlt=>hW k (hok k hk) hlt)
theorem step(h:Foot P W ok)(hm:∀k,ok k→k<W.heap.size→W1.heap[k]? = W.heap[k]?):Foot P W1 ok:=fun W' hW=>h W' (fun k hk hlt=>(hW k hk (heap_lt (hm k hk hlt) hlt)).trans (hm k hk hlt))
end Foot
namespace Kd
def F{α:Type}(d:Kd α)(W:World)(ok:Nat→Prop)(A:Option Addr)(n:Nat)(xs:List α):Prop:=Foot (fun W=>d.C W A n xs) W ok
def FK{α:Type}(d:Kd α)(W:World)(ok:Nat→Prop)(x:α)(c:List Value):Prop:=Foot (fun W=>d.K W x c) W ok
section
variable {α β:Type} {d:Kd α} {e base n n' cc g N:Nat} {ok ok' okp S:Nat→Prop} {w w0 w1 W W1:World} {A A':Option Addr} {u v v1:Value} {xs:List α} {xs':List β} {d':Kd β} {x:α} {c:List Value}
end
end Kd
end Go.Proofs.YtepkfjmjidjedaaGreatW.PrintWords
end
section
namespace Go.Proofs.YtepkfjmjidjedaaGreatW.PrintWords
open Go.RowKit
namespace Kd
section
variable {α:Type} {d:Kd α} {e base n cc g:Nat} {ok ok' okp S:Nat→Prop} {w w1 W W1:World} {A:Option Addr} {u v v1:Value} {xs:List α} {x:α} {c:List Value}
def N{α:Type}(d:Kd α)(e:Nat)(w:World)(base:Nat)(ok:Nat→Prop)(v:Value)(xs:List α):Prop :=
  (∀k,v.ownBlock=some k→ok k)∧∃rows:List (List Value),rows.length=xs.length∧(raw d.sz).R e w base (fun k=>some k=v.ownBlock) v rows∧∀(j:Nat) (x:α) (c:List Value),xs[j]? = some x→rows[j]? = some c→FK d w (fun k=>ok k∧some k≠v.ownBlock) x c
end
section
variable {α:Type} {d:Kd α} {W:World} {g n:Nat} {S ok:Nat→Prop} {A:Option Addr} {ad:Addr} {xs:List α}
end
section
variable {α:Type} {d:Kd α} {e base n cap g:Nat} {ok ok' okp:Nat→Prop} {w w1 W:World} {v v1:Value} {xs ys:List α}
end
section
variable {P:Program} {ops:Array Oper} {rest:List Oper} {o:Oper} {a:Act} {Q:Exit→Act→World→Prop} {Kc:Act→World→Prop} {α:Type}
end
end Kd
end Go.Proofs.YtepkfjmjidjedaaGreatW.PrintWords
end
section
namespace Go.Proofs.YtepkfjmjidjedaaGreatW.PrintWords
open Go.RowKit
section
variable {w w' u:World} {m B g:Nat} {o:Obj} {row:Option Nat} {S:Nat→Prop} {a:Addr} {v:Value}
end
namespace Kd
section
variable {α:Type} {d:Kd α} {e base n m:Nat} {ok:Nat→Prop} {w w':World} {v:Value} {A:Option Addr} {xs:List α}
end
end Kd
end Go.Proofs.YtepkfjmjidjedaaGreatW.PrintWords
end
section
namespace Go.Proofs.YtepkfjmjidjedaaGreatW.PrintWords
theorem Reps.one{α:Type}{R:α→List Value→Prop}{ps:List α}{cs:List Value}{p:α}{v:Value}(hp:R p [v])(h:Reps R 1 ps cs):Reps R 1 (p :: ps) (v :: cs):=by
  refine⟨by simp[h.1],fun j q hq=>?_⟩
  cases j with
  | zero =>
    simp only[List.getElem?_cons_zero,Option.some.injEq]at hq
    subst hq
    simpa using hp
  | succ j =>
    simp only[List.getElem?_cons_succ]at hq
    have h1:=h.2 j q hq
    simpa [Nat.mul_one]using h1
end Go.Proofs.YtepkfjmjidjedaaGreatW.PrintWords
end
section
namespace Go.Proofs.YtepkfjmjidjedaaGreatW.PrintWords
open Go.RowKit
end Go.Proofs.YtepkfjmjidjedaaGreatW.PrintWords
namespace Go.Proofs.YtepkfjmjidjedaaGreatW.PrintLast
section
variable {ops:Array Oper} {a:Act} {o og:Oper} {g:Nat} {t:Tmp} {u:Bool}
end
end Go.Proofs.YtepkfjmjidjedaaGreatW.PrintLast
end
section
namespace Go.Proofs.YtepkfjmjidjedaaGreatW.PrintMore
open Go.RowKit Go.Proofs.YtepkfjmjidjedaaGreatW.PrintWords
namespace Kd
open Go.Proofs.YtepkfjmjidjedaaGreatW.PrintWords.Kd
end Kd
namespace Kd
open Go.Proofs.YtepkfjmjidjedaaGreatW.PrintWords.Kd
section
variable {α:Type} {d:Kd α} {e base g N:Nat} {ok:Nat→Prop} {W w1:World} {u v:Value} {xs:List α}
end
end Kd
theorem Qhj(k k':IntKind)(x y:Int):Builtin.max2 (.int k x) (.int k' y)=pure (.int k (if x<y then y else x)):=by simp only[Builtin.max2,gt_iff_lt]
theorem Qhk(k k':IntKind)(x y:Int):Builtin.min2 (.int k x) (.int k' y)=pure (.int k (if y<x then y else x)):=by simp only[Builtin.min2]
theorem Qhl(ats:Array TypeId)(ty:TypeId)(a b:Value):Builtin.max_ ats ty #[a,b]=(Builtin.max2 a b >>= fun s=>pure s):=by simp only[Builtin.max_,List.foldlM_cons,List.foldlM_nil]
theorem Qhm(ats:Array TypeId)(ty:TypeId)(a b:Value):Builtin.min_ ats ty #[a,b]=(Builtin.min2 a b >>= fun s=>pure s):=by simp only[Builtin.min_,List.foldlM_cons,List.foldlM_nil]
theorem Qhn(ats:Array TypeId)(ty:TypeId)(a b c:Value):Builtin.max_ ats ty #[a,b,c]=(Builtin.max2 a b >>= fun s=>Builtin.max2 s c >>= fun s=>pure s):=by simp only[Builtin.max_,List.foldlM_cons,List.foldlM_nil]
theorem Qho(ats:Array TypeId)(ty:TypeId)(a b c:Value):Builtin.min_ ats ty #[a,b,c]=(Builtin.min2 a b >>= fun s=>Builtin.min2 s c >>= fun s=>pure s):=by simp only[Builtin.min_,List.foldlM_cons,List.foldlM_nil]
theorem Qhp(ats:Array TypeId)(ty:TypeId)(a b c d:Value):Builtin.max_ ats ty #[a,b,c,d]=(Builtin.max2 a b >>= fun s=>Builtin.max2 s c >>= fun s=>Builtin.max2 s d >>= fun s=>pure s):=by simp only[Builtin.max_,List.foldlM_cons,List.foldlM_nil]
theorem Qhq(ats:Array TypeId)(ty:TypeId)(a b c d:Value):Builtin.min_ ats ty #[a,b,c,d]=(Builtin.min2 a b >>= fun s=>Builtin.min2 s c >>= fun s=>Builtin.min2 s d >>= fun s=>pure s):=by simp only[Builtin.min_,List.foldlM_cons,List.foldlM_nil]
end Go.Proofs.YtepkfjmjidjedaaGreatW.PrintMore
namespace Go.Proofs.YtepkfjmjidjedaaGreatW.PrintWords
open Go.RowKit
section
variable {P:Program} {ops:Array Oper} {rest:List Oper} {o:Oper} {a:Act} {Q:Exit→Act→World→Prop} {W:World}
theorem Qhr{f:FuncId}{as_:Array Operand}{ts:Array TypeId}(_ho:o.op=.call { callee:=.value (.func f),args:=as_,argTypes:=ts })(h:wpList P ops Q (o :: rest) a W):wpList P ops Q (o :: rest) a W:=h
theorem Qhs{b:Builtin}{xs:Array Operand}{ts:Array TypeId}(_ho:o.op=.call { callee:=.builtin b,args:=xs,argTypes:=ts })(h:wpList P ops Q (o :: rest) a W):wpList P ops Q (o :: rest) a W:=h
end
def mx(a b:Int):Int:=if a<b then b else a
def shl(k:IntKind)(x y:Int):Int:=k.wrap (x*2^min y.toNat k.bits)
def shr(k:IntKind)(x y:Int):Int:=x/2^min y.toNat k.bits
theorem Qht{k:IntKind}{x y j:Int}(h:shl k x y=j)(hy:y≤k.bits):k.wrap (x*2^y.toNat)=j:=by rw[← h];unfold shl;rw[Nat.min_eq_left (by omega)]
theorem Qhu{k:IntKind}{x y j:Int}(h:shr k x y=j)(hy:y≤k.bits):x/2^y.toNat=j:=by rw[← h];unfold shr;rw[Nat.min_eq_left (by omega)]
namespace Kd
section
variable {α:Type} {d:Kd α} {e base:Nat} {ok:Nat→Prop} {W w1:World} {v:Value} {xs:List α}
end
section
variable {α:Type} {d:Kd α} {e base g n cap:Nat} {ok oki okp:Nat→Prop} {W:World} {xs:List α} {i:Int} {c:List Value}
end
section
variable {α:Type} {d:Kd α} {e base b b' g N:Nat} {ok ok1:Nat→Prop} {W W2 w1:World} {u v:Value} {xs ys:List α} {S:Nat→Prop}
end
end Kd
end Go.Proofs.YtepkfjmjidjedaaGreatW.PrintWords
namespace Go.Proofs.YtepkfjmjidjedaaGreatW.PrintWords
open Go.RowKit
namespace Kd
def V{α:Type}(d:Kd α)(_e:Nat)(W:World)(_base:Nat)(ok:Nat→Prop)(v:Value)(xs:List α):Prop:=∃A c,v=.slice A xs.length c∧xs.length≤c∧F d W ok A xs.length xs
section
variable {α β:Type} {d:Kd α} {e base base' n m c g N' lo hi:Nat} {ok ok' S:Nat→Prop} {w W w1:World} {A:Option Addr} {ad:Addr} {u v v1:Value} {xs:List α}
end
end Kd
end Go.Proofs.YtepkfjmjidjedaaGreatW.PrintWords
end
