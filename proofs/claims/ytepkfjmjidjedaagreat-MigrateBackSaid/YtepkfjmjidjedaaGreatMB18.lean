/- Merged texts. -/
import Derived.Test.YtepkfjmjidjedaaGreatMB02
import Derived.Test.YtepkfjmjidjedaaGreatMB15
import Derived.Test.YtepkfjmjidjedaaGreatMB17
import Derived.Test.YtepkfjmjidjedaaGreatMB00
import Derived.SizedLaws
import Derived.Deep.Slices
import Derived.Lib.SmallJoins
import Derived.ChangeArms
import Derived.Test.YtepkfjmjidjedaaGreatMB16
import Derived.RangeFuncNested
import Derived.RangeFuncBound
import Derived.RangeFuncCalls
import Derived.RangeFuncLeaves
import Derived.Shelf.Abstract
import Derived.Shelf.RegionOpen
import Derived.OwnWalkIn
import Derived.TacticsInMore
import Derived.LoopNIn
import Derived.LoopIn
import Derived.Test.YtepkfjmjidjedaaGreatMB05
import Derived.Sort.Walk0
import Derived.Test.YtepkfjmjidjedaaGreatMB13
set_option linter.unusedVariables false
set_option linter.unusedSimpArgs false
set_option maxHeartbeats 8000000
set_option maxRecDepth 100000
section
namespace Go.Proofs.YtepkfjmjidjedaaGreat.C
open Go.RowKit Go.Proofs.YtepkfjmjidjedaaGreatW.PrintWords Go.Proofs.YtepkfjmjidjedaaGreatW.PrintLast Go.Proofs.YtepkfjmjidjedaaGreatW.PrintMore
attribute [local go_sem] Qhj Qhk Qhl Qhm Qhn Qho Qhp Qhq
def Qau.j0:Nat→List (S36)→Bool→Option (Bool)
 | 0,_,_=>none
 | k+1,x0,x13=>if x13=true then((Qav.f k).bind fun t333=>(some t333))else((Qbt.f k x0).bind fun bt334=>((Qbi.f k x0).bind fun bt338=>(if(strOfNums bt334.1).toList=bt338.1.toList then(some (bt334.2 == bt338.2))else(some false))))
def Qau.f(k:Nat)(l0:List (S36)):Option (Bool):=(Qav.f k).bind fun t331=>(if t331=true then((Qar.f k l0 40 5000).bind fun t332=>(Qau.j0 k l0 (!t332)))else(Qau.j0 k l0 true))
theorem Qau.calls(k:Nat)(A0:Option Addr)(c0:Nat)(l0:List (S36))(r:Bool)(w:World)(hr0:Kd.C k36 w A0 l0.length l0)(hc0:l0.length≤c0)(h:Qau.f k l0=some r) :
  Calls Tryz.prog 8 #[.slice A0 l0.length c0] w fun e w'=>e=.returned (.bool r)∧Below w.heap.size w w':=by
 have m:=QA hr0;have n:=QA hc0;clear hr0 hc0;have HB:=QA (Below.refl w.heap.size w);have H:((Qav.f k).bind fun p=>(if p=true then((Qar.f k l0 40 5000).bind fun j=>(Qau.j0 k l0 (!j)))else(Qau.j0 k l0 true)))=some r:=h;clear h;have s:=QA H;clear H
 go_enter Tryz.func8,Tryz.ntmps8
 go_upto_region 1 with(fail)
 go_cut [13] (fun I wc=>∃(kq:Nat) (d:Bool),I=.bool d∧Aside0 (Qau.j0 kq l0 d=some r)∧Aside0 (kq≤k)∧Aside0 (Below w.heap.size w wc))
 case first =>
  have H:=s.out;clear s;replace H:=Option.bind_eq_some_iff.mp H;obtain⟨p,z,H⟩:=H;have A3:=QA z;clear z
  by_cases c4:p=true
  ·subst c4;rw[if_pos rfl]at H;replace H:=Option.bind_eq_some_iff.mp H;obtain⟨j,A,H⟩:=H;have A5:=QA A;clear A;have H':=QA H;clear H
   go_wp2_with (first |((with_reducible refine Qhr (f:=32) rfl ?_);refine Qfz (some 7) rfl rfl Tryz.func32 qq_6 rfl #[] rfl qq_2 ?_;(with_reducible refine(Qav.calls k  true _ A3.out).mono ?_);rintro e w6 ⟨rfl,hb⟩;refine⟨_,rfl,?_⟩;have n_:=qn1 (Qeu qq_b hb);clear HB;have HB:=n_;clear n_;(try clear hb);(try clear hb2);(try clear hk);(try clear hi)) |(go_at_call 11;(with_reducible refine(Qar.calls k _ _ l0 40 5000 j _ ?side1 ?side2 A5.out).mono ?_);(case side1=>repeat(first|exact(Kd.C_below m.out HB.out) |(with_reducible refine Kd.C_alloc ?_ _) |(with_reducible refine Kd.C_drewN ?_ _) |(with_reducible refine Kd.C_drew ?_)));(case side2=>exact n.out);rintro e w7 ⟨rfl,hb⟩;have n_:=qn1 (Qeu qq_b hb);clear HB;have HB:=n_;clear n_;(try clear hb);(try clear hb2);(try clear hk);(try clear hi)))
   go_meet
   case rel=>exact⟨_,(!j),qq_7,H',⟨by first|omega|exact Nat.le_refl _⟩,⟨qq_b⟩⟩
  ·replace c4:=Bool.eq_false_iff.mpr c4;subst c4;rw[if_neg (show ¬(false=true)by decide)]at H;have H':=QA H;clear H
   go_wp2_with (first |((with_reducible refine Qhr (f:=32) rfl ?_);refine Qfz (some 7) rfl rfl Tryz.func32 qq_6 rfl #[] rfl qq_2 ?_;(with_reducible refine(Qav.calls k  false _ A3.out).mono ?_);rintro e w8 ⟨rfl,hb⟩;refine⟨_,rfl,?_⟩;have n_:=qn1 (Qeu qq_b hb);clear HB;have HB:=n_;clear n_;(try clear hb);(try clear hb2);(try clear hk);(try clear hi)))
   go_meet
   case rel=>exact⟨_,(true),qq_7,H',⟨by first|omega|exact Nat.le_refl _⟩,⟨qq_b⟩⟩
 case rest =>
  clear s
  try clear c4
  obtain⟨kq,d,rfl,HA,HJ1,HB⟩:=hcut
  cases kq with
  | zero=>exact absurd HA.out (by simp[Qau.j0])
  | succ kj1 =>
   have H:=HA.out;clear HA;simp only[Qau.j0]at H
   by_cases c9:d=true
   ·subst c9;rw[if_pos rfl]at H;replace H:=Option.bind_eq_some_iff.mp H;obtain⟨E,t,H⟩:=H;have J:=QA t;clear t;obtain rfl:=Option.some.inj H
    go_wp2_with (first |((with_reducible refine Qhr (f:=32) rfl ?_);refine Qfz (some 14) rfl rfl Tryz.func32 qq_6 rfl #[] rfl qq_2 ?_;(with_reducible refine(Qav.calls kj1  E _ J.out).mono ?_);rintro e O ⟨rfl,hb⟩;refine⟨_,rfl,?_⟩;have n_:=qn1 (Qeu qq_b hb);clear HB;have HB:=n_;clear n_;(try clear hb);(try clear hb2);(try clear hk);(try clear hi)))
    go_ret
    exact⟨qq_5,qq_b⟩
   ·replace c9:=Bool.eq_false_iff.mpr c9;subst c9;rw[if_neg (show ¬(false=true)by decide)]at H;replace H:=Option.bind_eq_some_iff.mp H;obtain⟨⟨a,l⟩,u,H⟩:=H;replace H:((Qbi.f kj1 l0).bind fun bt338=>(if(strOfNums a).toList=bt338.1.toList then(some (l == bt338.2))else(some false)))=some r:=H;have B:=QA u;clear u;replace H:=Option.bind_eq_some_iff.mp H;obtain⟨⟨c,q⟩,v,H⟩:=H;replace H:(if(strOfNums a).toList=c.toList then(some (l == q))else(some false))=some r:=H;have D:=QA v;clear v
    by_cases g:(strOfNums a).toList=c.toList
    ·rw[if_pos g]at H;have x:((strOfNums a).toList == c.toList)=true:=beq_iff_eq.mpr g;have y:((strOfNums a).toList != c.toList)=false:=bne_eq_false_iff_eq.mpr g;clear g;obtain rfl:=Option.some.inj H
     go_wp2_with (first |((with_reducible refine Qhr (f:=33) rfl ?_);refine Qfz (some 17) rfl rfl Tryz.func33 qq_6 rfl #[.slice A0 l0.length c0] rfl qq_2 ?_;(with_reducible refine(Qbt.calls kj1 _ _ l0 a l _ ?side1 ?side2 B.out).mono ?_);(case side1=>repeat(first|exact(Kd.C_below m.out HB.out) |(with_reducible refine Kd.C_alloc ?_ _) |(with_reducible refine Kd.C_drewN ?_ _) |(with_reducible refine Kd.C_drew ?_)));(case side2=>exact n.out);rintro e T ⟨G,rfl,o,hb⟩;refine⟨_,rfl,?_⟩;have n_:=qn2 (Kd.R_lower o (Qet qq_b)) (Qeu qq_b hb);clear HB;obtain⟨b,HB⟩:=n_;(try clear hb);(try clear hb2);(try clear hk);(try clear hi);(try clear o)) |((with_reducible refine Qhr (f:=34) rfl ?_);refine Qfz (some 22) rfl rfl Tryz.func34 qq_6 rfl #[.slice A0 l0.length c0] rfl qq_2 ?_;(with_reducible refine(Qbi.calls kj1 _ _ l0 c q _ ?side1 ?side2 D.out).mono ?_);(case side1=>repeat(first|exact(Kd.C_below m.out HB.out) |(with_reducible refine Kd.C_alloc ?_ _) |(with_reducible refine Kd.C_drewN ?_ _) |(with_reducible refine Kd.C_drew ?_)));(case side2=>exact n.out);rintro e U ⟨rfl,hb⟩;refine⟨_,rfl,?_⟩;have n_:=qn2 (Kd.R_below qq_9 hb) (Qeu qq_b hb);clear b HB;obtain⟨b,HB⟩:=n_;(try clear hb);(try clear hb2);(try clear hk);(try clear hi);have L:=Qcw (P:=Tryz.prog) Tryz.underlying47 Tryz.underlying5 Tryz.underlying9 (Kd.own_of_R b.out)))
     go_ret
     exact⟨qq_5,qq_b⟩
    ·rw[if_neg g]at H;have x:((strOfNums a).toList == c.toList)=false:=beq_eq_false_iff_ne.mpr g;have y:((strOfNums a).toList != c.toList)=true:=bne_iff_ne.mpr g;obtain rfl:=Option.some.inj H
     go_wp2_with (first |((with_reducible refine Qhr (f:=33) rfl ?_);refine Qfz (some 17) rfl rfl Tryz.func33 qq_6 rfl #[.slice A0 l0.length c0] rfl qq_2 ?_;(with_reducible refine(Qbt.calls kj1 _ _ l0 a l _ ?side1 ?side2 B.out).mono ?_);(case side1=>repeat(first|exact(Kd.C_below m.out HB.out) |(with_reducible refine Kd.C_alloc ?_ _) |(with_reducible refine Kd.C_drewN ?_ _) |(with_reducible refine Kd.C_drew ?_)));(case side2=>exact n.out);rintro e W ⟨G,rfl,o,hb⟩;refine⟨_,rfl,?_⟩;have n_:=qn2 (Kd.R_lower o (Qet qq_b)) (Qeu qq_b hb);clear HB;obtain⟨b,HB⟩:=n_;(try clear hb);(try clear hb2);(try clear hk);(try clear hi);(try clear o)) |((with_reducible refine Qhr (f:=34) rfl ?_);refine Qfz (some 22) rfl rfl Tryz.func34 qq_6 rfl #[.slice A0 l0.length c0] rfl qq_2 ?_;(with_reducible refine(Qbi.calls kj1 _ _ l0 c q _ ?side1 ?side2 D.out).mono ?_);(case side1=>repeat(first|exact(Kd.C_below m.out HB.out) |(with_reducible refine Kd.C_alloc ?_ _) |(with_reducible refine Kd.C_drewN ?_ _) |(with_reducible refine Kd.C_drew ?_)));(case side2=>exact n.out);rintro e X ⟨rfl,hb⟩;refine⟨_,rfl,?_⟩;have n_:=qn2 (Kd.R_below qq_9 hb) (Qeu qq_b hb);clear b HB;obtain⟨b,HB⟩:=n_;(try clear hb);(try clear hb2);(try clear hk);(try clear hi);have M:=Qcw (P:=Tryz.prog) Tryz.underlying47 Tryz.underlying5 Tryz.underlying9 (Kd.own_of_R b.out)))
     go_ret
     exact⟨qq_5,qq_b⟩
end Go.Proofs.YtepkfjmjidjedaaGreat.C
end
section
namespace Go.Proofs.YtepkfjmjidjedaaGreat.Open
open Go.RowKit Go.Proofs.YtepkfjmjidjedaaGreatW.PrintWords Go.ChangeShapes Go.WideShapes Go.Deep
structure Opens (P:Program) (t:TypeId) {α:Type} (d:Kd α) (G:α→Prop):Prop where
  sz:P.cellsOf t=d.sz
  out:∀ {H:Type} {enc:TypeId × Value→H} {w:World} {base:Nat} {spare:Nat→Bool} {held:Bool} {fuel:Nat} {cs:List Value} {x:DataW H × List MemPlace},
    DataW.trod enc P w base spare held fuel t cs=some x→(∀n∈DataW.weights P t x.1,n≤reachBytes)→∃v,d.K w v cs∧G v
theorem Qta{P:Program}{t:TypeId}(ht:P.underlying t=some .bool)(hc:P.cellsOf t=1):Opens P t Kd.bool (fun _=>True) :=
 ⟨hc,fun h _=>by
  obtain⟨b,rfl,_⟩:=DataW.trod_bool ht h
  exact⟨b,rfl,trivial⟩⟩
theorem Qtb{P:Program}{t:TypeId}{k:IntKind}(ht:P.underlying t=some (.int k))(hc:P.cellsOf t=1):Opens P t (Kd.int k) (fun n=>(Lit.int k n).wf=true) :=
 ⟨hc,fun h _=>by
  obtain⟨b,rfl,_,hw⟩:=DataW.trod_int ht h
  exact⟨b,rfl,hw⟩⟩
theorem Qtc{P:Program}{t:TypeId}(ht:P.underlying t=some .string)(hc:P.cellsOf t=1):Opens P t Kd.string (fun s=>s.size≤140737488351232) :=
 ⟨hc,fun h hs=>by
  obtain⟨b,rfl,rfl,hw⟩:=DataW.trod_string ht h
  refine⟨b,rfl,?_⟩
  have:=hs b.data.toList.length (by simp[DataW.weights])
  simpa [reachBytes]using this⟩
theorem Qtd{H:Type}{P:Program}{e:TypeId}{n:Nat}:∀ {ds:List (DataW H)} {d:DataW H},d∈ds→n∈DataW.weights P e d→n∈DataW.weightsAll P e ds
 | [],_,h,_=>by simp at h
 | a :: r,d,h,hn=>by
  simp only[DataW.weightsAll]
  rcases List.mem_cons.1 h with rfl|h
  ·exact List.mem_append_left _ hn
  ·exact List.mem_append_right _ (Qtd h hn)
theorem Qte{P:Program}{t e:TypeId}{α:Type}{d:Kd α}{G:α→Prop}{B:Nat}(ht:P.underlying t=some (.slice e))(hc:P.cellsOf t=1)(hB:P.bytesOf e=B)(he:Opens P e d G) :
  Opens P t (Kd.slice e d) (fun xs=>xs.length*B≤140737488351232∧∀x∈xs,G x) :=
 ⟨hc, fun {H enc w base spare held fuel cs x} h hs=>by
  rcases open_slice ht h with⟨rfl,rfl⟩ |⟨a,len,cap,m,n,D,Pl,rfl,hb,hl,hm,hmm,rfl,hx⟩
  ·exact⟨[],⟨none,0,rfl,Nat.zero_le _,rfl,by simp,fun hp=>absurd hp (by simp)⟩,by simp,by simp⟩
  have hlm:len≤m:=by rw[hmm];split<;>omega
  have hw:∀i,i<len→∃v,(∃cs',w.cells? base (a.add (i*P.cellsOf e)) (P.cellsOf e)=some cs'∧d.K w v cs')∧G v:=by
   intro i hi
   obtain⟨cs',h1,h2⟩:=hx i (by omega)
   obtain⟨v,hv,hg⟩:=he.out h2 (fun q hq=>hs q (by
    simp only[DataW.weights,ht]
    refine List.mem_cons_of_mem _ (List.mem_append_left _ (Qtd (d:=D i) ?_ hq))
    exact List.mem_map.2 ⟨i,List.mem_range.2 hi,rfl⟩))
   exact⟨v,⟨cs',h1,hv⟩,hg⟩
  have hw':∃xs:List α,xs.length=len∧∀i p,xs[i]? = some p→(∃cs',w.cells? base (a.add (i*P.cellsOf e)) (P.cellsOf e)=some cs'∧d.K w p cs')∧G p:=by
   clear hs hx hmm hlm hm hl h
   induction len with
   | zero=>exact⟨[],rfl,by simp⟩
   | succ q ih =>
    obtain⟨xs,hxl,hxs⟩:=ih (fun i hi=>hw i (by omega))
    obtain⟨v,hv⟩:=hw q (by omega)
    refine⟨xs++[v],by simp[hxl],fun i p hp=>?_⟩
    rcases Nat.lt_or_ge i xs.length with hi|hi
    ·rw[List.getElem?_append_left hi]at hp
     exact hxs i p hp
    ·have:i=q:=by
      have:=(List.getElem?_eq_some_iff.1 hp).1
      simp at this
      omega
     subst this
     rw[← hxl]at hp
     have:v=p:=by simpa using hp
     subst this
     exact hv
  obtain⟨xs,hxl,hxs⟩:=hw'
  have hlen:len*B≤140737488351232:=by
   have:=hs ((((List.range len).map D).length+((List.range (m-len)).map fun j=>D (len+j)).length)*P.bytesOf e) (by simp[DataW.weights,ht])
   rw[hB]at this
   have h2:(((List.range len).map D).length+((List.range (m-len)).map fun j=>D (len+j)).length)=m:=by simp;omega
   rw[h2]at this
   have h3:m*B≤140737488351232:=by simpa [reachBytes]using this
   exact Nat.le_trans (Nat.mul_le_mul_right _ hlm) h3
  refine⟨xs,⟨some a,cap,by rw[hxl],by rw[hxl];exact hl,rfl,?_,fun hp=>⟨a,rfl,fun j p hj=>?_⟩⟩,by rw[hxl];exact hlen,fun x hx=>?_⟩
  ·rw[hxl]
   exact Nat.le_trans hl (by simpa [maxLen]using hm)
  ·obtain⟨⟨cs',h1,h2⟩,_⟩:=hxs j p hj
   obtain⟨_,hcl,hcc⟩:=World.cells?_some h1
   refine⟨cs',by rw[hcl,he.sz],h2,fun i u hu=>?_⟩
   have hi:i<P.cellsOf e:=by rw[← hcl];exact(List.getElem?_eq_some_iff.1 hu).1
   rw[he.sz]at hcc hi
   have:=hcc i hi
   rw[Go.Deep.add_add]at this
   rw[this,hu]
  ·obtain⟨i,hi⟩:=List.getElem?_of_mem hx
   exact(hxs i x hi).2⟩
structure OpensFs (P:Program) (ts:List TypeId) {α:Type} (d:Kd α) (G:α→Prop):Prop where
  sz:(ts.map P.cellsOf).sum=d.sz
  out:∀ {H:Type} {enc:TypeId × Value→H} {w:World} {base:Nat} {spare:Nat→Bool} {held:Bool} {fuel:Nat} {cs:List Value} {xs:List (DataW H × List MemPlace)},
    cs.length=(ts.map P.cellsOf).sum→xs.length=ts.length →
    (∀i t,ts[i]? = some t→DataW.trod enc P w base spare held fuel t ((cs.drop ((ts.take i).map P.cellsOf).sum).take (P.cellsOf t))=xs[i]?) →
    (∀n∈DataW.weightsEach P ts (xs.map (·.1)),n≤reachBytes)→∃v,d.K w v cs∧G v
theorem OpensFs.one{P:Program}{t:TypeId}{α:Type}{d:Kd α}{G:α→Prop}(h:Opens P t d G):OpensFs P [t] d G :=
 ⟨by simp[h.sz],fun {H enc w base spare held fuel cs xs} hl hx ht hs=>by
  match xs,hx with
  | [x],_ =>
   have h0:=ht 0 t rfl
   simp at hl h0
   rw[List.take_of_length_le (by omega)]at h0
   exact h.out h0 (fun n hn=>hs n (by simp[DataW.weightsEach,hn]))⟩
theorem OpensFs.cons{P:Program}{t:TypeId}{ts:List TypeId}{α β:Type}{d:Kd α}{G:α→Prop}{d':Kd β}{G':β→Prop}(h:Opens P t d G)(r:OpensFs P ts d' G'):OpensFs P (t :: ts) (Kd.pair d d') (fun x=>G x.1∧G' x.2) :=
 ⟨by simp[h.sz,r.sz,Kd.pair],fun {H enc w base spare held fuel cs xs} hl hx ht hs=>by
  match xs,hx with
  | x :: xs,hx =>
   have h0:=ht 0 t rfl
   simp at hl h0 hx
   obtain⟨a,ha,hga⟩:=h.out h0 (fun n hn=>hs n (by simp[DataW.weightsEach,hn]))
   obtain⟨b,hb,hgb⟩:=r.out (enc:=enc) (w:=w) (base:=base) (spare:=spare) (held:=held) (fuel:=fuel) (cs:=cs.drop (P.cellsOf t)) (xs:=xs) (by rw[List.length_drop];omega) hx
    (fun i t' hi=>by
     have:=ht (i+1) t' (by simpa using hi)
     simp only[List.take_succ_cons,List.map_cons,List.sum_cons,List.getElem?_cons_succ]at this
     rw[List.drop_drop]
     exact this)
    (fun n hn=>hs n (by simp only[List.map_cons,DataW.weightsEach];exact List.mem_append_right _ hn))
   exact⟨(a,b),⟨cs.take (P.cellsOf t),cs.drop (P.cellsOf t),by simp,ha,hb⟩,hga,hgb⟩⟩
def Qtf(P:Program):Nat→List Field→Bool
 | _,[]=>true
 | o,f :: r=>(f.offset == o) && Qtf P (o+P.cellsOf f.type) r
theorem Qtg{P:Program}:∀ {fs:List Field} {o:Nat},Qtf P o fs=true→∀i f,fs[i]? = some f→f.offset=o+(((fs.map (·.type)).take i).map P.cellsOf).sum
 | [],_,_,i,f,h=>by simp at h
 | g :: r,o,h,0,f,hf=>by
  simp[Qtf]at h
  simp at hf
  subst hf
  simp[h.1]
 | g :: r,o,h,i+1,f,hf=>by
  simp[Qtf]at h
  have:=Qtg h.2 i f (by simpa using hf)
  simp[this]
  omega
theorem Qth{P:Program}{t:TypeId}{fs:Array Field}{α β:Type}{d:Kd α}{G:α→Prop}(ht:P.underlying t=some (.struct fs))(hl:Qtf P 0 fs.toList=true)(hc:P.cellsOf t=d.sz)
  (r:OpensFs P (fs.toList.map (·.type)) d G) (f:β→α) (g:α→β) (hfg:∀a,f (g a)=a):Opens P t (Kd.iso d f) (fun x=>G (f x)) :=
 ⟨hc,fun {H enc w base spare held fuel cs x} h hs=>by
  obtain⟨xs,n,rfl,rfl,hcl,hxl,hx⟩:=DataW.trod_struct ht h
  obtain⟨v,hv,hg⟩:=r.out (enc:=enc) (w:=w) (base:=base) (spare:=spare) (held:=held) (fuel:=n) (cs:=cs) (xs:=xs) (by rw[hcl,hc,r.sz]) (by simp[hxl])
   (fun i t' hi=>by
    rw[List.getElem?_map]at hi
    cases hf:fs.toList[i]? with
    | none=>simp[hf]at hi
    | some fd =>
     simp[hf]at hi
     subst hi
     have:=hx i fd (by simpa using hf)
     rw[Qtg hl i fd hf,Nat.zero_add]at this
     exact this)
   (fun q hq=>hs q (by simp only[DataW.weights,ht];exact hq))
  exact⟨g v,by show d.K w (f (g v)) cs;rw[hfg];exact hv,by show G (f (g v));rw[hfg];exact hg⟩⟩
theorem Qti{H:Type}{P:Program}:∀ {ts:List TypeId} {ds:List (DataW H)} {j:Nat} {t:TypeId} {d:DataW H},(DataW.weightsEach P ts ds).all (·≤reachBytes)=true→ts[j]? = some t→ds[j]? = some d→∀n∈DataW.weights P t d,n≤reachBytes
 | [],_,_,_,_,_,h,_=>by simp at h
 | _ :: _,[],_,_,_,_,_,h=>by simp at h
 | t0 :: ts,d0 :: ds,0,t,d,hz,h1,h2=>by
  simp at h1 h2
  subst h1 h2
  intro n hn
  simp only[DataW.weightsEach]at hz
  exact of_decide_eq_true (List.all_eq_true.1 hz n (List.mem_append_left _ hn))
 | t0 :: ts,d0 :: ds,j+1,t,d,hz,h1,h2=>by
  simp only[DataW.weightsEach]at hz
  refine Qti (ts:=ts) (ds:=ds) (j:=j) ?_ (by simpa using h1) (by simpa using h2)
  rw[List.all_append]at hz
  exact(Bool.and_eq_true _ _ ▸ hz).2
theorem Qtj{H:Type}{enc:TypeId × Value→H}{P:Program}{w:World}{base:Nat}{spare:Nat→Bool}{held:Bool}{t e:TypeId}{α:Type}{d:Kd α}{G:List α→Prop}(op:Opens P t (Kd.slice e d) G){a:Option Addr}{len cap:Nat}{x:DataW H}{ps:List MemPlace}
  (h:DataW.Trod enc P w base spare held t (.slice a len cap) x ps) (hs:∀n∈DataW.weights P t x,n≤reachBytes):∃l:List α,len=l.length∧l.length≤cap∧d.C w a l.length l∧G l:=by
 obtain⟨fuel,hf⟩:=h
 obtain⟨l,⟨A,c,he,hc,hr⟩,hg⟩:=op.out hf hs
 have he':[Value.slice a len cap]=[.slice A l.length c]:=by simpa [Value.cells]using he
 simp only[List.cons.injEq,Value.slice.injEq,and_true]at he'
 obtain⟨rfl,rfl,rfl⟩:=he'
 exact⟨l,rfl,hc,hr,hg⟩
end Go.Proofs.YtepkfjmjidjedaaGreat.Open
end
section
namespace Go.Proofs.YtepkfjmjidjedaaGreat.C
open Go.RowKit Go.Proofs.YtepkfjmjidjedaaGreatW.PrintWords Go.Proofs.YtepkfjmjidjedaaGreatW.PrintLast Go.Proofs.YtepkfjmjidjedaaGreatW.PrintMore Go.Proofs.YtepkfjmjidjedaaGreat.Open
theorem opT4:Opens Tryz.prog 4 Kd.bool (fun x=>True):=Qta Tryz.underlying4 (by kernel_rfl)
theorem opT32:Opens Tryz.prog 32 (Kd.int .u64) (fun x=>(Lit.int .u64 x).wf=true):=Qtb Tryz.underlying32 (by kernel_rfl)
theorem opT9:Opens Tryz.prog 9 Kd.string (fun x=>x.size≤140737488351232):=Qtc Tryz.underlying9 (by kernel_rfl)
def OG36(x:S36):Prop:=True∧(Lit.int .u64 x.f1).wf=true∧x.f2.size≤140737488351232∧x.f3.size≤140737488351232
theorem opT36:Opens Tryz.prog 36 k36 (fun x=>OG36 x):=Qth Tryz.underlying36 (by kernel_rfl) (by kernel_rfl) (OpensFs.cons opT4 (OpensFs.cons opT32 (OpensFs.cons opT9 (OpensFs.one opT9)))) (fun x:S36=>(x.f0,x.f1,x.f2,x.f3)) (fun p=>⟨p.1,p.2.1,p.2.2.1,p.2.2.2⟩) (fun _=>rfl)
theorem opT22:Opens Tryz.prog 22 (Kd.slice 36 k36) (fun x=>(x.length*48≤140737488351232∧∀z1∈x,OG36 z1)):=Qte (B:=48) Tryz.underlying22 (by kernel_rfl) (by kernel_rfl) opT36
def Qau.Pure:Prop:=∀(x0:List (S36)),(x0.length*48≤140737488351232∧∀z2∈x0,OG36 z2)→∃k,Qau.f k x0=some true
end Go.Proofs.YtepkfjmjidjedaaGreat.C
end
section
namespace Go.Proofs.YtepkfjmjidjedaaGreat.CodecP
open Go.RowKit Go.Proofs.YtepkfjmjidjedaaGreat.C Go.Proofs.YtepkfjmjidjedaaGreatW.PrintWords Go.Proofs.YtepkfjmjidjedaaGreatW.PrintLast Go.Proofs.YtepkfjmjidjedaaGreatW.PrintMore
theorem Qtq{a b:ByteArray}:a.toList=b.toList↔bytesOf a=bytesOf b:=by
 refine⟨fun h=>?_,fun h=>by rw[Qtm h]⟩;rw[ByteArray.toList_eq,ByteArray.toList_eq]at h;unfold bytesOf;rw[h]
def Qtr(key val:ByteArray):List Int:=leb (key.size:Int) 4++leb (val.size:Int) 4++bytesOf key++bytesOf val
theorem Qts(key val:ByteArray)(h1:key.size≤100000000)(h2:val.size≤100000000)(k:Nat)(hk:9≤k) :
  ∃t,Qbd.f k key val=some t∧bytesOf t=Qtr key val++leb (Qmc 0 (Qtr key val)) 4:=by
 obtain⟨a,ha,hba⟩:=num1 k 4 (key.size:Int) (by omega) (by omega) (by omega) (by omega);obtain⟨b,hb,hbb⟩:=num1 k 4 (val.size:Int) (by omega) (by omega) (by omega) (by omega);have sa:a.size=4:=by rw[Qkz,hba,Qin]
 have sb:b.size=4:=by rw[Qkz,hbb,Qin]
 have hpre:bytesOf (((a++b)++key)++val)=Qtr key val:=by
  unfold Qtr;rw[Qtk,Qtk,Qtk,hba,hbb]
 have hz:(((a++b)++key)++val).size=8+key.size+val.size:=by
  simp only[ByteArray.size_append];omega
 have hr:=(Qrv 0 (((a++b)++key)++val) (by unfold R32;omega) (by omega)).2;obtain⟨c,hc,hbc⟩:=num1 k 4 (Qmc 0 (Qtr key val)) (by omega) (by rw[← hpre];exact hr.1) (by rw[← hpre];have:=hr.2;omega) (by omega);have sc:c.size=4:=by rw[Qkz,hbc,Qin]
 have hs3:Qay.f 0 (((a++b)++key)++val)=some (Qmc 0 (Qtr key val)):=by
  unfold Qay.f;rw[if_pos ⟨by omega,by omega,by omega⟩,hpre]
 refine⟨(((a++b)++key)++val)++c,?_,by rw[Qtk,hpre,hbc]⟩;unfold Qbd.f;rw[IntWalk.u64_in (key.size:Int) (by omega),IntWalk.u64_in (val.size:Int) (by omega),show(4:Int)=((4:Nat):Int) from rfl,ha,Option.bind_some,hb,Option.bind_some,if_pos (by omega)];rw[if_pos (by simp only[ByteArray.size_append];omega),if_pos (by simp only[ByteArray.size_append];omega),hs3,Option.bind_some];rw[IntWalk.u64_in (Qmc 0 (Qtr key val)) (by rw[← hpre];have:=hr.1;have:=hr.2;omega),hc,Option.bind_some,if_pos (by omega)]
end Go.Proofs.YtepkfjmjidjedaaGreat.CodecP
end
section
namespace Go.Proofs.YtepkfjmjidjedaaGreat.Plain
open Go.RowKit Go.Proofs.YtepkfjmjidjedaaGreatW.PrintWords
theorem Ev.pos{α:Type}{c:Prop}[Decidable c]{A B:Nat→Option α}{r:α}(h:c)(e:Ev A r):Ev (fun k=>if c then A k else B k) r:=by
 simp only[if_pos h];exact e
theorem Ev.neg{α:Type}{c:Prop}[Decidable c]{A B:Nat→Option α}{r:α}(h:¬c)(e:Ev B r):Ev (fun k=>if c then A k else B k) r:=by
 simp only[if_neg h];exact e
theorem Ev.ite{α:Type}{c:Prop}[Decidable c]{A B:Nat→Option α}{r:α}(h:c→Ev A r)(h':¬c→Ev B r):Ev (fun k=>if c then A k else B k) r:=by
 by_cases e:c
 ·exact Ev.pos e (h e)
 ·exact Ev.neg e (h' e)
theorem Ev.bindc{α β:Type}{o:Option α}{a:α}{f:Nat→α→Option β}{r:β}(h:o=some a)(e:Ev (fun k=>f k a) r):Ev (fun k=>o.bind (f k)) r:=by
 subst h
 exact e
theorem Ev.some{α:Type}(r:α):Ev (fun _=>Option.some r) r:=Ev.now r
def run{α σ ρ:Type}(step:σ→α→ρ ⊕ σ)(fin:σ→ρ):List α→σ→ρ
 | [],s=>fin s
 | x :: t,s=>match step s x with
  | .inl r=>r
  | .inr s'=>run step fin t s'
theorem Qtt{α σ ρ:Type}{step:σ→α→ρ ⊕ σ}{fin:σ→ρ}{x:α}{t:List α}{s:σ}{r:ρ}(h:step s x=.inl r):run step fin (x :: t) s=r:=by
 simp[run,h]
theorem Qtu{α σ ρ:Type}{step:σ→α→ρ ⊕ σ}{fin:σ→ρ}{x:α}{t:List α}{s s':σ}(h:step s x=.inr s'):run step fin (x :: t) s=run step fin t s':=by
 simp[run,h]
theorem Qtv{α σ ρ:Type}(xs:List α)(g:Nat→σ→Int→Option ρ)(step:σ→α→ρ ⊕ σ)(fin:σ→ρ)(Inv:Nat→σ→Prop)
  (hend:∀s,Inv xs.length s→Ev (fun k=>g k s (xs.length:Int)) (fin s))
  (hstep:∀(i:Nat) (s:σ) (h:i<xs.length),Inv i s→(∀r,step s xs[i]=.inl r→Ev (fun k=>g k s (i:Int)) r) ∧
   (∀s',step s xs[i]=.inr s'→Inv (i+1) s'∧∀r,Ev (fun k=>g k s' ((i:Int)+1)) r→Ev (fun k=>g k s (i:Int)) r)) :
  ∀(d i:Nat) (s:σ),i+d=xs.length→Inv i s→Ev (fun k=>g k s (i:Int)) (run step fin (xs.drop i) s):=by
 intro d
 induction d with
 | zero =>
  intro i s hd hi
  obtain rfl:i=xs.length:=by omega
  rw[List.drop_length]
  exact hend s hi
 | succ d ih =>
  intro i s hd hi
  have hlt:i<xs.length:=by omega
  rw[List.drop_eq_getElem_cons hlt]
  obtain⟨h1,h2⟩:=hstep i s hlt hi
  cases hs:step s xs[i]with
  | inl r=>rw[Qtt hs];exact h1 r hs
  | inr s' =>
   rw[Qtu hs]
   obtain⟨h3,h4⟩:=h2 s' hs
   refine h4 _ ?_
   have:=ih (i+1) s' (by omega) h3
   rw[show((i+1:Nat):Int)=(i:Int)+1 by omega]at this
   exact this
theorem Qtw{α σ ρ:Type}(xs:List α)(g:Nat→σ→Int→Option ρ)(step:σ→α→ρ ⊕ σ)(fin:σ→ρ)(Inv:Nat→σ→Prop)
  (hend:∀s,Inv xs.length s→Ev (fun k=>g k s (xs.length:Int)) (fin s))
  (hstep:∀(i:Nat) (s:σ) (h:i<xs.length),Inv i s→(∀r,step s xs[i]=.inl r→Ev (fun k=>g k s (i:Int)) r) ∧
   (∀s',step s xs[i]=.inr s'→Inv (i+1) s'∧∀r,Ev (fun k=>g k s' ((i:Int)+1)) r→Ev (fun k=>g k s (i:Int)) r))
  (s:σ) (h0:Inv 0 s):Ev (fun k=>g k s 0) (run step fin xs s):=by
 have:=Qtv xs g step fin Inv hend hstep xs.length 0 s (by omega) h0
 rwa [List.drop_zero]at this
theorem Qtx{i n:Nat}(h:i<n)(hn:n≤9223372036854775807):wrap64 ((i:Int)+1)=(i:Int)+1:=by
 unfold wrap64
 omega
theorem Qty{l l':List (List UInt8)}(h:l.Pairwise (· < ·))(h':l'.Pairwise (· < ·))(hm:∀x,x∈l↔x∈l'):l=l':=by
 have n:∀ {m:List (List UInt8)},m.Pairwise (· < ·)→m.Nodup:=fun h=>h.imp (fun {a b} hab e=>by subst e;exact List.lt_irrefl _ hab)
 exact List.Perm.eq_of_pairwise (le:=(· < ·)) (fun a b _ _ h1 h2=>absurd h2 (List.lt_asymm h1)) h h' ((List.perm_ext_iff_of_nodup (n h) (n h')).2 hm)
end Go.Proofs.YtepkfjmjidjedaaGreat.Plain
end
section
namespace Go.Proofs.YtepkfjmjidjedaaGreat.C
open Go.RowKit Go.Proofs.YtepkfjmjidjedaaGreatW.PrintWords Go.Proofs.YtepkfjmjidjedaaGreatW.PrintLast Go.Proofs.YtepkfjmjidjedaaGreatW.PrintMore
open Go.Shelf
attribute [local go_sem] Oper.semAt_some
def Qtz(l:List S36)(key:ByteArray):Option S36:=l.reverse.find? (fun r=>r.f2.toList == key.toList)
end Go.Proofs.YtepkfjmjidjedaaGreat.C
end
section
namespace Go.Proofs.YtepkfjmjidjedaaGreat.FoldP
open Go.RowKit Go.Proofs.YtepkfjmjidjedaaGreat.C Go.Proofs.YtepkfjmjidjedaaGreat.Plain Go.Proofs.YtepkfjmjidjedaaGreatW.PrintWords Go.Proofs.YtepkfjmjidjedaaGreatW.PrintLast Go.Proofs.YtepkfjmjidjedaaGreatW.PrintMore Go.Maps Go.Sort
abbrev Rec:=S36
abbrev K(r:Rec):List UInt8:=r.f2.toList
theorem rd_nat(xs:List Rec)(i:Nat)(h:i<xs.length):Qic xs (i:Int)=xs[i]:=by
 simp[Qic,List.getElem?_eq_getElem h]
theorem Qua(r:Rec):(⟨r.f0,r.f1,r.f2,r.f3⟩:Rec)=r:=rfl
theorem Qub(r:Rec)(l:List Rec)(key:ByteArray):Qtz (r :: l) key=match Qtz l key with|some x=>some x|none=>if(K r == key.toList)=true then some r else none:=by
 unfold Qtz;rw[List.reverse_cons,List.find?_append]
 cases h:l.reverse.find? (fun r=>r.f2.toList == key.toList)with
 | some x=>simp
 | none=>simp only[Option.none_or,List.find?_cons,List.find?_nil];cases r.f2.toList == key.toList<;>simp
theorem Quc(l:List Rec)(i:Nat)(hi:i<l.length)(hl:l.length≤9223372036854775806):Ev (fun k=>Qbh.f k l (i:Int)) ((l.drop (i+1)).any fun r=>decide (K r=K l[i])):=by
 unfold Qbh.f;have hw:wrap64 ((i:Int)+1)=(i:Int)+1:=Qtx hi (by omega);rw[hw];refine Ev.pos (by omega) (Ev.pos (by omega) (Ev.bindc rfl ?_));rw[show((i:Int)+1).toNat=i+1 by omega];have:=Qtw (l.drop (i+1)) (fun k (_:Unit) j=>Qbh.l0 k l (i:Int) (l.drop (i+1)) ((l.drop (i+1)).length:Int) j) (fun s x=>if K x=K l[i]then .inl true else .inr s) (fun _=>false) (fun _ _=>True) (by
   intro s _;refine Ev.step (fun k=>by rw[Qbh.l0]) ?_;exact Ev.neg (by omega) (Ev.some _)) (by
   intro j s h _;have e:=rd_nat (l.drop (i+1)) j h;have e2:=rd_nat l i hi
   constructor
   ·intro r hr;refine Ev.step (fun k=>by rw[Qbh.l0]) ?_;refine Ev.pos (by omega) (Ev.pos (by omega) (Ev.pos (by omega) (Ev.pos (by omega) (Ev.pos (by omega) ?_))));rw[e,e2];refine Ev.ite (fun c=>?_) (fun c=>?_)
    ·rw[if_pos c]at hr;cases hr;exact Ev.some _
    ·rw[if_neg c]at hr;cases hr
   ·intro s' hr;refine⟨trivial,fun r hk=>?_⟩;refine Ev.step (fun k=>by rw[Qbh.l0]) ?_;refine Ev.pos (by omega) (Ev.pos (by omega) (Ev.pos (by omega) (Ev.pos (by omega) (Ev.pos (by omega) ?_))));rw[e,e2,Qtx h qq_26];refine Ev.ite (fun c=>?_) (fun c=>?_)
    ·rw[if_pos c]at hr;cases hr
    ·exact hk) () trivial
 have e:∀(m:List Rec),run (σ:=Unit) (ρ:=Bool) (fun s x=>if K x=K l[i]then .inl true else .inr s) (fun _=>false) m ()=m.any fun r=>decide (K r=K l[i]):=by
  intro m
  induction m with
  | nil=>rfl
  | cons x t ih =>
   by_cases c:K x=K l[i]
   ·simp[run,c]
   ·simp only[run,if_neg c,ih,List.any_cons,decide_eq_false c,Bool.false_or]
 rw[e]at this;exact this
def comp:List Rec→List Rec
 | []=>[]
 | r :: t=>if(t.any fun x=>decide (K x=K r))=true then comp t else r :: comp t
theorem Qud(l:List Rec)(hl:l.length<2932031007402):Ev (fun k=>Qbf.f k l) (comp l):=by
 have key:∀(d i:Nat) (acc:List Rec),i+d=l.length→acc.length≤i→Ev (fun k=>Qbf.l0 k l acc l (l.length:Int) (i:Int)) (acc++comp (l.drop i)):=by
  intro d
  induction d with
  | zero =>
   intro i acc hd ha;obtain rfl:i=l.length:=by omega
   rw[List.drop_length];simp only[comp,List.append_nil];refine Ev.step (fun k=>by rw[Qbf.l0]) ?_;exact Ev.neg (by omega) (Ev.some _)
  | succ d ih =>
   intro i acc hd ha;have h:i<l.length:=by omega
   have e:=rd_nat l i h;rw[List.drop_eq_getElem_cons h];refine Ev.step (fun k=>by rw[Qbf.l0]) ?_;refine Ev.pos (by omega) (Ev.pos (by omega) (Ev.pos (by omega) (Ev.bind (Quc l i h (by omega)) ?_)));rw[e,Qtx h (by omega),show((i:Int)+1)=((i+1:Nat):Int)by omega];unfold comp;refine Ev.ite (fun c=>?_) (fun c=>Ev.pos (by omega) ?_)
   ·rw[if_pos c];exact ih (i+1) acc (by omega) (by omega)
   ·rw[if_neg c];have:=ih (i+1) (acc++[l[i]]) (by omega) qq_26;rw[List.append_assoc]at this;exact this
 have:=key l.length 0 [] (by omega) (by simp);rw[List.drop_zero,List.nil_append]at this;exact this
theorem Que(l:List Rec):(comp l).length≤l.length:=by
 induction l with
 | nil=>simp[comp]
 | cons r t ih=>unfold comp;split<;>simp<;>omega
theorem Quf(l:List Rec)(x:List UInt8):x∈(comp l).map K↔x∈l.map K:=by
 induction l with
 | nil=>simp[comp]
 | cons r t ih =>
  unfold comp;split
  ·rename_i c;rw[ih,List.map_cons,List.mem_cons]
   constructor
   ·exact .inr
   ·rintro(rfl|h)
    ·obtain⟨y,hy,he⟩:=List.any_eq_true.1 c;exact List.mem_map.2 ⟨y,hy,of_decide_eq_true he⟩
    ·exact h
  ·rw[List.map_cons,List.mem_cons,ih,List.map_cons,List.mem_cons]
theorem Qug(l:List Rec):(comp l).Pairwise (fun a b=>K a≠K b):=by
 induction l with
 | nil=>simp[comp]
 | cons r t ih =>
  unfold comp;split
  ·exact ih
  ·rename_i c;refine List.pairwise_cons.2 ⟨fun y hy e=>c ?_,ih⟩;have:K y∈t.map K:=(Quf t (K y)).1 (List.mem_map.2 ⟨y,hy,rfl⟩);obtain⟨z,hz,hze⟩:=List.mem_map.1 this;exact List.any_eq_true.2 ⟨z,hz,by simp only[decide_eq_true_eq];rw[hze,e]⟩
def insK(r:Rec):List Rec→List Rec
 | []=>[r]
 | x :: t=>if K r<K x then r :: x :: t else x :: insK r t
theorem Quh(r:Rec)(l:List Rec):(insK r l).length=l.length+1:=by
 induction l with
 | nil=>rfl
 | cons x t ih=>unfold insK;split<;>simp[ih]
theorem Qui(r:Rec)(l:List Rec)(y:Rec):y∈insK r l↔y=r∨y∈l:=by
 induction l with
 | nil=>simp[insK]
 | cons x t ih =>
  unfold insK;split
  ·simp
  ·simp only[List.mem_cons,ih]
   constructor
   ·rintro(h|h|h)<;>simp[h]
   ·rintro(h|h|h)<;>simp[h]
theorem Quj(r:Rec)(l:List Rec)(hl:l.Pairwise (fun a b=>K a<K b))(hr:∀y∈l,K y≠K r):(insK r l).Pairwise (fun a b=>K a<K b):=by
 induction l with
 | nil=>simp[insK]
 | cons x t ih =>
  obtain⟨h1,h2⟩:=List.pairwise_cons.1 hl;unfold insK;split
  ·rename_i c;refine List.pairwise_cons.2 ⟨fun y hy=>?_,hl⟩
   rcases List.mem_cons.1 hy with rfl|hy
   ·exact c
   ·exact List.lt_trans c (h1 y hy)
  ·rename_i c;refine List.pairwise_cons.2 ⟨fun y hy=>?_,ih h2 (fun y hy=>hr y (List.mem_cons_of_mem _ hy))⟩
   rcases(Qui r t y).1 hy with rfl|hy
   ·exact Std.lt_of_le_of_ne (List.not_lt.1 c) (hr x (by simp))
   ·exact h1 y hy
def byK(l:List Rec):List Rec:=(comp l).foldl (fun out r=>insK r out) []
theorem ins_ev(r:Rec)(cs:List Rec)(i:Nat)(out:List Rec)(ho:out.length<2932031007400)(q:List Rec)(hk:Ev (fun k=>Qbe.l0 k (insK r out) cs (cs.length:Int) (wrap64 ((i:Int)+1))) q) :
  Ev (fun k=>Qbe.l1 k [] false cs (cs.length:Int) (i:Int) out (out.length:Int) 0 r.f0 r.f1 r.f2 r.f3) q:=by
 have key:∀(d j:Nat) (next:List Rec) (done:Bool),j+d=out.length→next.length≤j+1→(done=false→next.length≤j) →
   (next++(if done=true then out.drop j else insK r (out.drop j))=insK r out)→Ev (fun k=>Qbe.l1 k next done cs (cs.length:Int) (i:Int) out (out.length:Int) (j:Int) r.f0 r.f1 r.f2 r.f3) q:=by
  intro d
  induction d with
  | zero =>
   intro j next done hd hn hn' he;obtain rfl:j=out.length:=by omega
   rw[List.drop_length]at he;refine Ev.step (fun k=>by rw[Qbe.l1]) ?_;refine Ev.neg (by omega) ?_;refine Ev.ite (fun c=>?_) (fun c=>Ev.pos (by omega) ?_)
   ·rw[if_pos c,List.append_nil]at he;rw[he];exact hk
   ·rw[if_neg c]at he;rw[Qua,show next++[r]=insK r out from he];exact hk
  | succ d ih =>
   intro j next done hd hn hn' he;have h:j<out.length:=by omega
   have e:=rd_nat out j h;have hw:wrap64 ((j:Int)+1)=((j+1:Nat):Int):=by rw[Qtx h (by omega)];omega
   rw[List.drop_eq_getElem_cons h]at he;refine Ev.step (fun k=>by rw[Qbe.l1]) ?_;refine Ev.pos (by omega) (Ev.pos (by omega) (Ev.pos (by omega) ?_));rw[e,hw,Qua,Qua];refine Ev.ite (fun c=>Ev.pos (by omega) ?_) (fun c=>Ev.ite (fun c'=>Ev.pos (by omega) (Ev.bindc rfl (Ev.pos qq_26 ?_))) (fun c'=>Ev.pos (by omega) ?_))
   ·refine ih (j+1) _ _ (by omega) qq_26 (fun f=>by rw[c]at f;cases f) ?_;rw[if_pos c]at he ⊢;rw[List.append_assoc];exact he
   ·have c2:done=false:=by simpa using c
    have a:=hn' c2;rw[bytesLess_eq,decide_eq_true_eq]at c';refine ih (j+1) _ _ (by omega) qq_26 (fun f=>by cases f) ?_;rw[if_neg c]at he;simp only[insK,if_pos c']at he;rw[if_pos rfl,List.append_assoc,List.append_assoc];exact he
   ·have c2:done=false:=by simpa using c
    have a:=hn' c2;rw[bytesLess_eq,decide_eq_true_eq]at c';refine ih (j+1) _ _ (by omega) qq_26 (fun f=>by simp;omega) ?_;rw[if_neg c]at he ⊢;simp only[insK,if_neg c']at he;rw[List.append_assoc];exact he
 refine key out.length 0 [] false (by omega) (by simp) (by simp) ?_;simp
theorem Quk(l:List Rec)(hl:l.length<2932031007400):Ev (fun k=>Qbe.f k l) (byK l):=by
 refine Ev.bind (Qud l (by omega)) ?_;have hc:=Que l;unfold byK;generalize comp l=cs at hc;have key:∀(d i:Nat) (out:List Rec),i+d=cs.length→out.length=i→Ev (fun k=>Qbe.l0 k out cs (cs.length:Int) (i:Int)) ((cs.drop i).foldl (fun out r=>insK r out) out):=by
  intro d
  induction d with
  | zero =>
   intro i out hd ho;obtain rfl:i=cs.length:=by omega
   rw[List.drop_length];refine Ev.step (fun k=>by rw[Qbe.l0]) ?_;exact Ev.neg (by omega) (Ev.some _)
  | succ d ih =>
   intro i out hd ho;have h:i<cs.length:=by omega
   have e:=rd_nat cs i h;rw[List.drop_eq_getElem_cons h,List.foldl_cons];refine Ev.step (fun k=>by rw[Qbe.l0]) ?_;refine Ev.pos (by omega) (Ev.pos (by omega) (Ev.pos (by omega) ?_));rw[e];refine ins_ev cs[i] cs i out (by omega) _ ?_;have:=ih (i+1) (insK cs[i] out) (by omega) (by rw[Quh,ho]);rw[Qtx h (by omega),show((i:Int)+1)=((i+1:Nat):Int)by omega];exact this
 have:=key cs.length 0 [] (by omega) rfl;rw[List.drop_zero]at this;exact this
theorem Qul(l:List Rec):((byK l).map K).Pairwise (· < ·)∧∀x,x∈(byK l).map K↔x∈l.map K:=by
 have key:∀(cs out:List Rec),cs.Pairwise (fun a b=>K a≠K b)→out.Pairwise (fun a b=>K a<K b)→(∀y∈out,∀x∈cs,K y≠K x) →
   (cs.foldl (fun out r=>insK r out) out).Pairwise (fun a b=>K a<K b)∧∀y,y∈cs.foldl (fun out r=>insK r out) out↔y∈cs∨y∈out:=by
  intro cs
  induction cs with
  | nil=>intro out _ ho _;exact⟨ho,fun y=>by simp⟩
  | cons r t ih =>
   intro out hc ho hd;obtain⟨h1,h2⟩:=List.pairwise_cons.1 hc;obtain⟨a,b⟩:=ih (insK r out) h2 (Quj r out ho (fun y hy=>hd y hy r (by simp))) (fun y hy x hx=>by
    rcases(Qui r out y).1 hy with rfl|hy
    ·exact h1 x hx
    ·exact hd y hy x (List.mem_cons_of_mem _ hx))
   refine⟨a,fun y=>?_⟩;rw[List.foldl_cons,b,Qui,List.mem_cons]
   constructor
   ·rintro(h|h|h)<;>simp[h]
   ·rintro((h|h)|h)<;>simp[h]
 obtain⟨a,b⟩:=key (comp l) [] (Qug l) List.Pairwise.nil (by simp);refine⟨List.pairwise_map.2 a,fun x=>?_⟩;rw[← Quf l x];simp only[List.mem_map]
 constructor
 ·rintro⟨y,hy,e⟩;exact⟨y,by simpa using (b y).1 hy,e⟩
 ·rintro⟨y,hy,e⟩;exact⟨y,(b y).2 (.inl hy),e⟩
theorem Qum(l:List Rec):∀k,Tidy (Qry (H:=Unit) l k)
 | 0=>tidy_empty
 | k+1=>Tidy.put (Qum l k) (Qsd _) _
theorem Qun(l:List Rec):∀k,∃es,Qry (H:=Unit) l k=.map es∧∀q:Lit,q∈es.map (·.1)↔∃i,i<k∧q=keyL (Qic l (i:Nat)).f2
 | 0=>⟨[],rfl,by simp⟩
 | k + 1=>by
  obtain⟨es,he,hm⟩:=Qun l k;refine⟨DataW.insert (keyL (Qic l k).f2,i64L k) (es.filter fun p=>!p.1.sameKey (keyL (Qic l k).f2)),?_,fun q=>?_⟩
  ·unfold Qry;rw[he];rfl
  ·simp only[List.mem_map,Go.ChangeMaps.mem_insert_iff,List.mem_filter]
   constructor
   ·rintro⟨p,rfl |⟨hp,_⟩,rfl⟩
    ·exact⟨k,by omega,rfl⟩
    ·obtain⟨i,hi,e⟩:=(hm p.1).1 (List.mem_map.2 ⟨p,hp,rfl⟩);exact⟨i,by omega,e⟩
   ·rintro⟨i,hi,rfl⟩
    by_cases e:keyL (Qic l (i:Nat)).f2=keyL (Qic l (k:Nat)).f2
    ·exact⟨_,.inl rfl,e.symm⟩
    ·have:i<k:=by
      rcases Nat.lt_succ_iff_lt_or_eq.1 hi with h|rfl
      ·exact h
      ·exact absurd rfl e
     obtain⟨p,hp,hpe⟩:=List.mem_map.1 ((hm _).2 ⟨i,this,rfl⟩);refine⟨p,.inr ⟨hp,?_⟩,hpe⟩;rw[hpe,sameKey_ne e];rfl
theorem Quo(l:List Rec):(Qsl l).map (·.toList)=(byK l).map K:=by
 obtain⟨hr,hm⟩:=Qul l;obtain⟨es,he,hes⟩:=Qun l l.length;obtain⟨es',he',hp⟩:=Qum l l.length;rw[he]at he'
 injection he' with he'
 subst he';have e0:(Qsl l).map (·.toList)=(strKeys (Qry (H:=Unit) l l.length)).mergeSort leB:=by
  unfold Qsl;rw[List.map_map];have:(fun x:ByteArray=>x.toList) ∘ (fun b:List UInt8=>(⟨b.toArray⟩:ByteArray))=id:=by
   funext b
   simp[ByteArray.toList_eq]
  rw[this,List.map_id]
 have hstr:∀x:List UInt8,x∈strKeys (Qry (H:=Unit) l l.length)↔x∈l.map K:=by
  intro x;rw[he];simp only[strKeys,List.mem_map]
  constructor
  ·rintro⟨p,hp,rfl⟩;obtain⟨i,hi,e⟩:=(hes p.1).1 (List.mem_map.2 ⟨p,hp,rfl⟩);rw[rd_nat l i hi]at e;exact⟨l[i],List.getElem_mem hi,by rw[e];simp[strOf,K,ByteArray.toList_eq]⟩
  ·rintro⟨r,hr,rfl⟩;obtain⟨i,hi,e⟩:=List.getElem_of_mem hr;obtain⟨p,hp,hpe⟩:=List.mem_map.1 ((hes (keyL r.f2)).2 ⟨i,hi,by rw[rd_nat l i hi,e]⟩);exact⟨p,hp,by rw[hpe];simp[strOf,K,ByteArray.toList_eq]⟩
 have hnd:(strKeys (Qry (H:=Unit) l l.length)).Nodup:=by
  rw[he];simp only[strKeys];refine List.pairwise_map.2 (List.Pairwise.imp_of_mem ?_ hp);intro p q hp' hq' hne e;obtain⟨i,hi,e1⟩:=(hes p.1).1 (List.mem_map.2 ⟨p,hp',rfl⟩);obtain⟨j,hj,e2⟩:=(hes q.1).1 (List.mem_map.2 ⟨q,hq',rfl⟩);rw[e1,e2]at e;apply hne;rw[e1,e2];simp only[strOf]at e;rw[keyL,keyL,e]
 have tr:∀a b c:List UInt8,leB a b=true→leB b c=true→leB a c=true:=fun a b c h1 h2=>by simp only[leB,decide_eq_true_eq]at *;exact List.le_trans h1 h2
 have tot:∀a b:List UInt8,(leB a b || leB b a)=true:=fun a b=>by simp only[leB,Bool.or_eq_true,decide_eq_true_eq];exact List.le_total a b
 rw[e0];refine Qty ?_ hr (fun x=>by rw[List.mem_mergeSort,hstr,hm]);have h1:=List.pairwise_mergeSort tr tot (strKeys (Qry (H:=Unit) l l.length));have h2:((strKeys (Qry (H:=Unit) l l.length)).mergeSort leB).Nodup:=(List.mergeSort_perm _ leB).nodup_iff.2 hnd;exact List.Pairwise.imp₂ (fun a b h n=>Std.lt_of_le_of_ne (by simpa [leB]using h) n) h1 h2
theorem Qup{l:List Rec}{key:ByteArray}(h:∀y∈l,K y≠key.toList):Qtz l key=none:=by
 induction l with
 | nil=>rfl
 | cons r t ih =>
  rw[Qub,ih (fun y hy=>h y (List.mem_cons_of_mem _ hy)),if_neg (by simpa using h r (List.mem_cons_self ..))]
theorem Quq(l:List Rec){a b:ByteArray}(h:a.toList=b.toList):Qtz l a=Qtz l b:=by
 unfold Qtz;rw[h]
theorem Qur:∀(l:List Rec),∀x∈comp l,Qtz l x.f2=some x
 | [],x,hx=>by simp[comp]at hx
 | r :: t,x,hx=>by
  rw[comp]at hx;rw[Qub];split at hx
  ·rw[Qur t x hx]
  ·rename_i h
   rcases List.mem_cons.1 hx with rfl|hx
   ·rw[Qup (fun y hy e=>h (List.any_eq_true.2 ⟨y,hy,by simpa using e⟩)),if_pos (by simp)]
   ·rw[Qur t x hx]
theorem Qus(l:List Rec)(x:Rec):x∈byK l↔x∈comp l:=by
 unfold byK;have:∀(cs out:List Rec),x∈cs.foldl (fun out r=>insK r out) out↔x∈cs∨x∈out:=by
  intro cs
  induction cs with
  | nil=>intro out;simp
  | cons r t ih =>
   intro out;rw[List.foldl_cons,ih,Qui,List.mem_cons]
   constructor
   ·rintro(h|h|h)
    ·exact .inl (.inr h)
    ·exact .inl (.inl h)
    ·exact .inr h
   ·rintro((h|h)|h)
    ·exact .inr (.inl h)
    ·exact .inl h
    ·exact .inr (.inr h)
 rw[this];simp
theorem Qut(l:List Rec):(byK l).length≤l.length:=by
 unfold byK;have:∀(cs out:List Rec),(cs.foldl (fun out r=>insK r out) out).length=cs.length+out.length:=by
  intro cs
  induction cs with
  | nil=>intro out;simp
  | cons r t ih=>intro out;rw[List.foldl_cons,ih,Quh,List.length_cons];omega
 rw[this];have:=Que l;simp;omega
theorem Quu(l:List Rec)(i:Nat)(h:i<(Qsl l).length)(h2:i<(byK l).length):Qtz l (Qsl l)[i]=some (byK l)[i]:=by
 have hks:=Quo l;have e1:((Qsl l).map (·.toList))[i]? = ((byK l).map K)[i]?:=by rw[hks]
 rw[List.getElem?_map,List.getElem?_map,List.getElem?_eq_getElem h,List.getElem?_eq_getElem h2]at e1;have e2:(Qsl l)[i].toList=K (byK l)[i]:=by simpa using e1
 rw[Quq l (show(Qsl l)[i].toList=((byK l)[i]).f2.toList from e2)];exact Qur l _ ((Qus l _).1 (List.getElem_mem h2))
theorem Quv(l:List Rec):(Qsl l).length=(byK l).length:=by
 have:=congrArg List.length (Quo l)
 simpa using this
theorem Quw(l:List Rec)(key:ByteArray)(n:Nat)(h:n<l.length):Qtz (l.take (n+1)) key=if(K l[n] == key.toList)=true then some l[n]else Qtz (l.take n) key:=by
 rw[← List.take_append_getElem h];unfold Qtz;rw[List.reverse_append];simp only[List.reverse_cons,List.reverse_nil,List.nil_append,List.singleton_append,List.find?_cons]
 cases (l[n].f2.toList == key.toList)<;>simp
theorem Qux(l:List Rec)(key:ByteArray):∀n,n≤l.length→∀r,Qtz (l.take n) key=some r→Qic l (Qrz l key n)=r
 | 0,_,r,h=>by simp[Qtz]at h
 | n+1,hn,r,h=>by
  have hlt:n<l.length:=by omega
  rw[Quw l key n hlt]at h;unfold Qrz;rw[rd_nat l n hlt]
  by_cases c:(K l[n] == key.toList)=true
  ·rw[if_pos c]at h;have c':l[n].f2.data.toList=key.data.toList:=by
    have:l[n].f2.toList=key.toList:=by simpa using c
    rwa [ByteArray.toList_eq,ByteArray.toList_eq]at this
   rw[if_pos c',rd_nat l n hlt]
   injection h
  ·rw[if_neg c]at h;have c':¬l[n].f2.data.toList=key.data.toList:=fun e=>c (by
    have:l[n].f2.toList=key.toList:=by rw[ByteArray.toList_eq,ByteArray.toList_eq];exact e
    simpa using this)
   rw[if_neg c'];exact Qux l key n (by omega) r h
theorem live_at(l:List Rec)(i:Nat)(h:i<(Qsl l).length)(h2:i<(byK l).length):Qic l (Qrz l ((Qsl l).getD i ByteArray.empty) l.length)=(byK l)[i]:=by
 have hk:=Quu l i h h2;rw[List.getD_eq_getElem?_getD,List.getElem?_eq_getElem h,Option.getD_some];exact Qux l (Qsl l)[i] l.length (Nat.le_refl _) _ (by rw[List.take_length];exact hk)
theorem Quy(l:List Rec):∀n,n≤(Qsl l).length→Qsp l (Qsl l) n=((byK l).take n).filter (fun r=>!r.f0)
 | 0,_=>by simp[Qsp]
 | n+1,h=>by
  have hb:n<(byK l).length:=by have:=Quv l;omega
  rw[Qsp,live_at l n (by omega) hb,Quy l n (by omega),List.take_succ_eq_append_getElem hb,List.filter_append]
  by_cases c:(byK l)[n].f0=true
  ·rw[if_pos c,List.filter_cons_of_neg (by rw[c];simp),List.filter_nil,List.append_nil]
  ·rw[if_neg c,List.filter_cons_of_pos (by simpa using c),List.filter_nil]
def liveL(l:List Rec):List Rec:=(byK l).filter (fun r=>!r.f0)
theorem live_is(l:List Rec):Qsp l (Qsl l) (Qsl l).length=liveL l:=by
 rw[Quy l _ (Nat.le_refl _),Quv,List.take_length];rfl
theorem liveL_len(l:List Rec):(liveL l).length≤l.length:=Nat.le_trans (List.length_filter_le _ _) (Qut l)
theorem Quz:∀(l:List Rec),∀x∈comp l,x∈l
 | [],x,hx=>by simp[comp]at hx
 | r :: t,x,hx=>by
  rw[comp]at hx;split at hx
  ·exact List.mem_cons_of_mem _ (Quz t x hx)
  ·rcases List.mem_cons.1 hx with rfl|hx
   ·exact List.mem_cons_self ..
   ·exact List.mem_cons_of_mem _ (Quz t x hx)
theorem liveL_mem(l:List Rec)(x:Rec)(h:x∈liveL l):x∈l:=Quz l x ((Qus l x).1 (List.mem_filter.1 h).1)
theorem Qva(X:List Rec)(hX:X.length≤1000000):∀(d j k:Nat) (out:List Rec),j+d=X.length→out.length≤j→Qbg.l0 (k+d+1) out X (X.length:Int) (j:Int)=some (out++(X.drop j).filter (fun r=>!r.f0))
 | 0,j,k,out,hd,ho=>by
  rw[Qbg.l0,if_neg (by omega),List.drop_of_length_le (by omega)];simp
 | d+1,j,k,out,hd,ho=>by
  have hj:j<X.length:=by omega
  have hw:wrap64 ((j:Int)+1)=((j+1:Nat):Int):=by unfold wrap64;omega
  rw[Qbg.l0,if_pos (by omega),if_pos (by omega),if_pos (by omega),rd_nat X j hj,hw,show k+(d+1)=k+d+1 by omega,List.drop_eq_getElem_cons hj]
  by_cases c:X[j].f0=true
  ·rw[if_pos c,List.filter_cons_of_neg (by rw[c];simp)];exact Qva X hX d (j+1) k out (by omega) (by omega)
  ·rw[if_neg c,if_pos (by omega),List.filter_cons_of_pos (by simpa using c)];refine Eq.trans (Qva X hX d (j+1) k _ (by omega) (by rw[List.length_append,List.length_singleton];omega)) ?_;rw[List.append_assoc];rfl
theorem rlive_is(l:List Rec)(hl:l.length≤1000000):∃K,∀k,K≤k→Qbg.f k l=some (liveL l):=by
 obtain⟨K0,hK0⟩:=Quk l (by omega);refine⟨K0+l.length+5,fun k hk=>?_⟩;have hb:=Qut l;have h1:Qbe.f k l=some (byK l):=hK0 k (by omega);unfold Qbg.f;rw[h1,Option.bind_some];have h:=Qva (byK l) (by omega) (byK l).length 0 (k-(byK l).length-1) [] (by omega) (Nat.le_refl _);rw[show k-(byK l).length-1+(byK l).length+1=k by omega,List.drop_zero,List.nil_append]at h;exact h
end Go.Proofs.YtepkfjmjidjedaaGreat.FoldP
end
section
namespace Go.Proofs.YtepkfjmjidjedaaGreat.Pure
open Go.RowKit Go.Proofs.YtepkfjmjidjedaaGreat.C Go.Proofs.YtepkfjmjidjedaaGreat.CodecP Go.Proofs.YtepkfjmjidjedaaGreatW.PrintWords Go.Proofs.YtepkfjmjidjedaaGreatW.PrintLast Go.Proofs.YtepkfjmjidjedaaGreatW.PrintMore Go.Proofs.YtepkfjmjidjedaaGreat.Open
abbrev RecF:=FoldP.Rec
def Qyd(r:RecF):Pr:=⟨r.f2,r.f3⟩
theorem Qye(k:Nat)(hk:100≤k):Qav.f k=some true:=by
 obtain⟨_,_,_,f1,_,_⟩:=Qyc 12 1 [] k (by simp) (fun r hr=>(by cases hr)) qq_26 (by decide);have f2:Qbr.f k 12 1 []=some ([],0):=f1;obtain⟨k,rfl⟩:∃m,k=m+1:=⟨k-1,by omega⟩;unfold Qav.f Qbv.f Qbu.f;rw[show Qal.f 12 1=some 0 from rfl,Option.bind_some,if_pos rfl,show Qao.f []=some ([],0,0) from rfl,Option.bind_some];dsimp only;rw[if_pos rfl,Qbu.l0,if_neg (by simp),Option.bind_some,f2,Option.bind_some,Option.bind_some];rfl
theorem Qyf(X:List RecF)(hX:X.length≤1000000):∀(d j k:Nat) (out:List Pr),j+d=X.length→out.length≤j→Qbt.l0 (k+d+1) out X (X.length:Int) (j:Int)=(Qap.f (out++(X.drop j).map Qyd)).bind fun t=>some (t.1,t.2)
 | 0,j,k,out,hd,ho=>by
  rw[Qbt.l0,if_neg (by omega),List.drop_of_length_le (by omega)];simp
 | d+1,j,k,out,hd,ho=>by
  have hj:j<X.length:=by omega
  rw[Qbt.l0,if_pos (by omega),if_pos (by omega),if_pos (by omega),if_pos (by omega),FoldP.rd_nat X j hj,Qtn j (by omega),show k+(d+1)=k+d+1 by omega];refine Eq.trans (Qyf X hX d (j+1) k _ (by omega) (by rw[List.length_append,List.length_singleton];omega)) ?_;rw[List.drop_eq_getElem_cons hj,List.map_cons,List.append_assoc];rfl
theorem Qyg(key val:ByteArray):Qbc.f key val=some (chkE key val):=by
 unfold Qbc.f chkE;have h:key.toList=([]:List UInt8)↔(key.size:Int)=0:=by
  rw[ByteArray.toList_eq]
  constructor
  ·intro e;have:=congrArg List.length e;rw[Qcx,List.length_nil]at this;omega
  ·intro e;apply List.eq_nil_of_length_eq_zero;rw[Qcx];omega
 by_cases h1:(key.size:Int)=0
 ·rw[if_pos (h.2 h1),if_pos h1]
 ·rw[if_neg (fun e=>h1 (h.1 e)),if_neg h1]
  by_cases h2:(key.size:Int) > 4096
  ·rw[if_pos h2,if_pos h2]
  ·rw[if_neg h2,if_neg h2]
   by_cases h3:(val.size:Int) > 1048576
   ·rw[if_pos h3,if_pos h3]
   ·rw[if_neg h3,if_neg h3]
theorem Qyh(X:List RecF)(hX:X.length≤100000):∀(d j k:Nat) (x:ByteArray),j+d=X.length→x.size≤2000000*j→20≤k→∃t,Qbi.l0 (k+d+1) x X (X.length:Int) (j:Int)=some (t,(Qsy (bytesOf x) ((X.drop j).map Qyd)).2)∧bytesOf t=(Qsy (bytesOf x) ((X.drop j).map Qyd)).1
 | 0,j,k,x,hd,hx,hk=>by
  refine⟨x,?_,?_⟩
  ·rw[Qbi.l0,if_neg (by omega),List.drop_of_length_le (by omega)];rfl
  ·rw[List.drop_of_length_le (by omega)];rfl
 | d+1,j,k,x,hd,hx,hk=>by
  have hj:j<X.length:=by omega
  rw[Qbi.l0,if_pos (by omega),if_pos (by omega),if_pos (by omega),FoldP.rd_nat X j hj,Qtn j (by omega),show k+(d+1)=k+d+1 by omega,Qyg,Option.bind_some,List.drop_eq_getElem_cons hj,List.map_cons,Qsy]
  by_cases h:chkE X[j].f2 X[j].f3=0
  ·obtain⟨z1,z2⟩:=Qsu h;obtain⟨t,t1,t2⟩:=Qts X[j].f2 X[j].f3 (by omega) (by omega) (k+d+1) (by omega);have t3:bytesOf t=Qss X[j].f2 X[j].f3:=t2;have hts:t.size≤2000000:=by rw[Qkz,t3];exact Qsz h
   obtain⟨q,q1,q2⟩:=Qyh X hX d (j+1) k (x++t) (by omega) (by rw[ByteArray.size_append];omega) hk;rw[Qtk,t3]at q1 q2;have hp:chkE (Qyd X[j]).f0 (Qyd X[j]).f1=0:=h;rw[if_pos h,t1,Option.bind_some,if_pos (by omega),if_pos hp];exact⟨q,q1,q2⟩
  ·have hp:¬chkE (Qyd X[j]).f0 (Qyd X[j]).f1=0:=h;rw[if_neg h,if_neg hp];exact⟨_,rfl,rfl⟩
theorem Qyi:∀(l:List Pr) (acc:List Int),Bytes acc→Bytes (Qsy acc l).1
 | [],acc,h=>h
 | p :: l,acc,h=>by
  rw[Qsy];split
  ·refine Qyi l _ (h.app ?_);unfold Qss Qsr;exact((((Qxq 4 _).app (Qxq 4 _)).app (Qkt _)).app (Qkt _)).app (Qxq 4 _)
  ·intro x hx
   cases hx
theorem MigrateBack:Qau.Pure:=by
 intro l hG0;have hl:l.length≤4611686018427387903:=by have:=hG0.1;omega
 by_cases hf:few l 40 5000=true
 ·have hn:=few_len hf;obtain⟨K0,hK0⟩:=FoldP.rlive_is l (by omega);obtain⟨K,hK⟩:∃K:Nat,K=K0+l.length+1000:=⟨_,rfl⟩;refine⟨K+1,?_⟩;unfold Qau.f;rw[Qye _ (by omega),Option.bind_some,if_pos rfl,Qwt l 40 5000 _ hl (by omega),Option.bind_some,Qau.j0,if_neg (by simp[hf])];have hko:Qsf l=true:=by
   unfold Qsf;refine List.all_eq_true.2 fun x hxl=>decide_eq_true ?_
   have:=(hn.2 x hxl).1;unfold maxLen;omega
  have hll:=FoldP.liveL_len l;obtain⟨X,hX⟩:∃X,X=FoldP.liveL l:=⟨_,rfl⟩;rw[← hX]at hll;have hput:Qap.f (X.map Qyd)=some (Qsy [] (X.map Qyd)):=by
   unfold Qap.f;rw[if_pos];refine⟨List.all_eq_true.2 fun p hp=>decide_eq_true ?_,by rw[List.length_map];omega⟩;obtain⟨r,hr,rfl⟩:=List.mem_map.1 hp;rw[hX]at hr;have:=hn.2 r (FoldP.liveL_mem l r hr);show r.f2.size≤1000000000∧r.f3.size≤1000000000;omega
  have h1:=Qyf X (by omega) X.length 0 (K-X.length-1) [] (by omega) (Nat.le_refl _);rw[show K-X.length-1+X.length+1=K by omega,List.drop_zero,List.nil_append,hput,Option.bind_some]at h1;obtain⟨t,t1,t2⟩:=Qyh X (by omega) X.length 0 (K-X.length-1) ⟨#[]⟩ (by omega) (by decide) (by omega);rw[show K-X.length-1+X.length+1=K by omega,List.drop_zero]at t1;rw[List.drop_zero]at t2;unfold Qbt.f Qbk.f Qbi.f;rw[if_pos hko,if_pos (by omega),FoldP.live_is,← hX,Option.bind_some,hK0 K (by omega),← hX,Option.bind_some];have a:Qbt.l0 K [] X (X.length:Int) 0=_:=h1;have b:Qbi.l0 K ⟨#[]⟩ X (X.length:Int) 0=_:=t1;rw[a,Option.bind_some,b,Option.bind_some];dsimp only;have hb:bytesOf (⟨#[]⟩:ByteArray)=[]:=rfl;rw[hb]at t2 ⊢;rw[if_pos]
  ·simp
  ·rw[Qtq,t2,Qtl (Qyi _ _ (fun x hx=>(by cases hx)))]
 ·refine⟨l.length+200,?_⟩;unfold Qau.f;rw[Qye _ (by omega),Option.bind_some,if_pos rfl,Qwt l 40 5000 _ hl (by omega),Option.bind_some,Qau.j0,if_pos (by simp[hf]),Qye _ (by omega),Option.bind_some]
end Go.Proofs.YtepkfjmjidjedaaGreat.Pure
end
