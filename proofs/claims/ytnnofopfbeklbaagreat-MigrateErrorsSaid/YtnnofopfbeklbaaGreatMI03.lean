/- Texts of this claim's author and of the print of its functions, merged by merge.py. -/
import Derived.Test.YtnnofopfbeklbaaGreatMI02
set_option linter.unusedVariables false
set_option linter.unusedSimpArgs false
set_option maxHeartbeats 8000000
set_option maxRecDepth 100000
section
namespace Go.Proofs.YtnnofopfbeklbaaGreat.C
open Go.RowKit Go.Proofs.YtnnofopfbeklbaaGreatW.PrintWords Go.Proofs.YtnnofopfbeklbaaGreatW.PrintLast Go.Proofs.YtnnofopfbeklbaaGreatW.PrintMore
attribute [local go_sem] Qgv Qgw Qgx Qgy Qgz Qha Qhb Qhc
def Qbs.f(l0:List Int):Option (Int):=if 0<(l0.length:Int)then(if 1<(l0.length:Int)then(if 2<(l0.length:Int)then(if 3<(l0.length:Int)then(some (Go.bits .or .u32 (Go.bits .or .u32 (Go.bits .or .u32 ((rd l0 0)%4294967296) ((((rd l0 1)%4294967296)*256)%4294967296)) ((((rd l0 2)%4294967296)*65536)%4294967296)) ((((rd l0 3)%4294967296)*16777216)%4294967296)))else(none))else(none))else(none))else(none)
theorem Qbs.calls(A0:Option Addr)(c0:Nat)(l0:List Int)(r:Int)(w:World)(hr0:Kd.C (Kd.int .u8) w A0 l0.length l0)(hc0:l0.length≤c0)(h:Qbs.f l0=some r) :
  Calls Tryz.prog 235 #[.slice A0 l0.length c0] w fun e w'=>e=.returned (.int .u32 r)∧Drawn0 w w':=by
 have HR0:=QA hr0
 have HC0:=QA hc0
 clear hr0 hc0
 have H:(if 0<(l0.length:Int)then(if 1<(l0.length:Int)then(if 2<(l0.length:Int)then(if 3<(l0.length:Int)then(some (Go.bits .or .u32 (Go.bits .or .u32 (Go.bits .or .u32 ((rd l0 0)%4294967296) ((((rd l0 1)%4294967296)*256)%4294967296)) ((((rd l0 2)%4294967296)*65536)%4294967296)) ((((rd l0 3)%4294967296)*16777216)%4294967296)))else(none))else(none))else(none))else(none))=some r:=h
 clear h
 by_cases c2:0<(l0.length:Int)
 ·rw [if_pos c2]at H
  have c2b0:decide (0<(l0.length:Int))=true:=decide_eq_true c2
  have c2b1:decide (0<l0.length)=true:=decide_eq_true (by omega)
  clear c2
  by_cases c3:1<(l0.length:Int)
  ·rw[if_pos c3]at H
   have c3b0:decide (1<(l0.length:Int))=true:=decide_eq_true c3
   have c3b1:decide (1<l0.length)=true:=decide_eq_true (by omega)
   clear c3
   by_cases c4:2<(l0.length:Int)
   ·rw[if_pos c4]at H
    have c4b0:decide (2<(l0.length:Int))=true:=decide_eq_true c4
    have c4b1:decide (2<l0.length)=true:=decide_eq_true (by omega)
    clear c4
    by_cases c5:3<(l0.length:Int)
    ·rw[if_pos c5]at H
     have c5b0:decide (3<(l0.length:Int))=true:=decide_eq_true c5
     have c5b1:decide (3<l0.length)=true:=decide_eq_true (by omega)
     clear c5
     obtain rfl:=Option.some.inj H
     have p713:0≤(0:Int):=(by omega)
     have q713:0<(l0.length:Int):=of_decide_eq_true qq_6
     obtain⟨ad713,e713,hx713_0⟩:=Kd.at_int HR0.out 0 p713 q713
     cases e713
     have qi713:(0<l0.length)=True:=eq_true (by omega)
     (try rw[show((0:Int)).toNat=0 from rfl]at hx713_0)
     (try rw[Addr.add_zero']at hx713_0)
     replace p713:=eq_true p713
     replace q713:=eq_true q713
     have p714:0≤(1:Int):=(by omega)
     have q714:1<(l0.length:Int):=of_decide_eq_true qq_6
     obtain⟨ad714,e714,hx714_0⟩:=Kd.at_int HR0.out 1 p714 q714
     obtain rfl:ad713=ad714:=(by injection e714)
     (try simp only[show(1:Int).toNat=1 from rfl,Nat.reduceMul,Nat.reduceEqDiff,Go.Addr.add,↓reduceIte]at hx714_0)
     have qi714:(1<l0.length)=True:=eq_true (by omega)
     (try rw[show((1:Int)).toNat=1 from rfl]at hx714_0)
     replace p714:=eq_true p714
     replace q714:=eq_true q714
     have p715:0≤(2:Int):=(by omega)
     have q715:2<(l0.length:Int):=of_decide_eq_true qq_6
     obtain⟨ad715,e715,hx715_0⟩:=Kd.at_int HR0.out 2 p715 q715
     obtain rfl:ad713=ad715:=(by injection e715)
     (try simp only[show(2:Int).toNat=2 from rfl,Nat.reduceMul,Nat.reduceEqDiff,Go.Addr.add,↓reduceIte]at hx715_0)
     have qi715:(2<l0.length)=True:=eq_true (by omega)
     (try rw[show((2:Int)).toNat=2 from rfl]at hx715_0)
     replace p715:=eq_true p715
     replace q715:=eq_true q715
     have p716:0≤(3:Int):=(by omega)
     have q716:3<(l0.length:Int):=of_decide_eq_true qq_6
     obtain⟨ad716,e716,hx716_0⟩:=Kd.at_int HR0.out 3 p716 q716
     obtain rfl:ad713=ad716:=(by injection e716)
     (try simp only[show(3:Int).toNat=3 from rfl,Nat.reduceMul,Nat.reduceEqDiff,Go.Addr.add,↓reduceIte]at hx716_0)
     have qi716:(3<l0.length)=True:=eq_true (by omega)
     (try rw[show((3:Int)).toNat=3 from rfl]at hx716_0)
     replace p716:=eq_true p716
     replace q716:=eq_true q716
     go_enter Tryz.func235,Tryz.ntmps235
     go_wp2
     repeat(go_quiet (fail);try go_wp2)
     go_ret
     exact⟨by first|rfl |(simp;done) |(simp[*];done),by repeat(first|exact Drawn0.refl _|apply Drawn0.step)⟩
    ·rw[if_neg c5]at H
     exact absurd H (by simp)
   ·rw[if_neg c4]at H
    exact absurd H (by simp)
  ·rw[if_neg c3]at H
   exact absurd H (by simp)
 ·rw[if_neg c2]at H
  exact absurd H (by simp)
def Qbm.j0:Nat→Bool→Bool→Int→ByteArray→ByteArray→Option (Int)
 | 0,_,_,_,_,_=>none
 | k+1,x12,x117000,x117001,x117002,x117003=>if x12=true then(some 4)else(if(x117003.size:Int) > 1048576 then(some 3)else(some 0))
def Qbm.f(k:Nat)(a0_0:Bool)(a0_1:Int)(a0_2:ByteArray)(a0_3:ByteArray):Option (Int):=if a0_2.toList=([]:List UInt8)then(some 4)else(if(a0_2.size:Int) > 4096 then(some 3)else(if a0_0=true then(Qbm.j0 k (a0_3.toList != ([]:List UInt8)) a0_0 a0_1 a0_2 a0_3)else(Qbm.j0 k false a0_0 a0_1 a0_2 a0_3)))
theorem Qbm.mono_l:∀k,(∀y0 y1 y2 y3 y4,LeO (Qbm.j0 k y0 y1 y2 y3 y4) (Qbm.j0 (k+1) y0 y1 y2 y3 y4))
 | 0=>fun _ _ _ _ _ r h=>by simp[Qbm.j0]at h
 | k+1=>by
  have ih0:=Qbm.mono_l k
  ·intro y0 y1 y2 y3 y4
   unfold Qbm.j0
   repeat' first
   |(with_reducible exact ih0 _ _ _ _ _)
   |(with_reducible exact LeO.refl _)
   |(with_reducible exact LeO.none _)
   |(with_reducible refine LeO.ite ?_ ?_)
   |(with_reducible refine LeO.bind ?_ (fun _=>?_))
   | exact ih0 _ _ _ _ _
   | exact LeO.none _
   | refine LeO.ite ?_ ?_
   | refine LeO.bind ?_ (fun _=>?_)
theorem Qbm.mono:∀a0 a1 a2 a3 k,LeO (Qbm.f k a0 a1 a2 a3) (Qbm.f (k+1) a0 a1 a2 a3):=by
 intro a0 a1 a2 a3 k
 have ih0:=Qbm.mono_l k
 unfold Qbm.f
 repeat' first
   |(with_reducible exact ih0 _ _ _ _ _)
   |(with_reducible exact LeO.refl _)
   |(with_reducible exact LeO.none _)
   |(with_reducible refine LeO.ite ?_ ?_)
   |(with_reducible refine LeO.bind ?_ (fun _=>?_))
   | exact ih0 _ _ _ _ _
   | exact LeO.none _
   | refine LeO.ite ?_ ?_
   | refine LeO.bind ?_ (fun _=>?_)
theorem Qbm.calls(k:Nat)(a0_0:Bool)(a0_1:Int)(a0_2:ByteArray)(a0_3:ByteArray)(r:Int)(w:World)(h:Qbm.f k a0_0 a0_1 a0_2 a0_3=some r) :
  Calls Tryz.prog 56 #[.agg #[.bool a0_0,.int .u64 a0_1,.string a0_2,.string a0_3]] w fun e w'=>e=.returned (.int .i64 r)∧Below w.heap.size w w':=by
 have hu39:=Tryz.underlying39
 have HB:=QA (Below.refl w.heap.size w)
 have H:(if a0_2.toList=([]:List UInt8)then(some 4)else(if(a0_2.size:Int) > 4096 then(some 3)else(if a0_0=true then(Qbm.j0 k (a0_3.toList != ([]:List UInt8)) a0_0 a0_1 a0_2 a0_3)else(Qbm.j0 k false a0_0 a0_1 a0_2 a0_3))))=some r:=h
 clear h
 by_cases c2:a0_2.toList=([]:List UInt8)
 ·rw[if_pos c2]at H
  have c2b0:(a0_2.toList == ([]:List UInt8))=true:=beq_iff_eq.mpr c2
  have c2b1:(a0_2.toList != ([]:List UInt8))=false:=bne_eq_false_iff_eq.mpr c2
  clear c2
  obtain rfl:=Option.some.inj H
  go_enter Tryz.func56,Tryz.ntmps56
  go_wp2_with (first |((with_reducible refine Qel (N:=1) rfl ?_);refine qq_e 1 #[.bool a0_0,.int .u64 a0_1,.string a0_2,.string a0_3] 39 ?_;intro gb116 hg w3 hbox hb;have n0_:=QA (Qeb qq_b hb);have n1_:=QA (hbox);have n2_:=QA (qq_s hg:w.heap.size≤gb116);have n3_:=n2_;clear HB;have HB:=n0_;have BK116:=n1_;have GW116:=n2_;have GE116:=n3_;clear n0_ n1_ n2_ n3_ hb hbox hg;have hcz4_0:=qq_c (.bool a0_0) BK116.out 0 rfl;have hcz4_1:=qq_c (.int .u64 a0_1) BK116.out 1 rfl;have hcz4_2:=qq_c (.string a0_2) BK116.out 2 rfl;have hcz4_3:=qq_c (.string a0_3) BK116.out 3 rfl;have hfz4_0:=Qcu BK116.out 0;have hfz4_1:=Qcu BK116.out 1;have hfz4_2:=Qcu BK116.out 2;have hfz4_3:=Qcu BK116.out 3))
  go_ret
  exact⟨by first|rfl |(simp[Qhh,Qhi]<;>rfl) |(simp[*,Qhh,Qhi]<;>rfl),qq_b⟩
 ·rw [if_neg c2]at H
  have c2b0:(a0_2.toList == ([]:List UInt8))=false:=beq_eq_false_iff_ne.mpr c2
  have c2b1:(a0_2.toList != ([]:List UInt8))=true:=bne_iff_ne.mpr c2
  by_cases c5:(a0_2.size:Int) > 4096
  ·rw[if_pos c5]at H
   have c5b0:decide (4096<(a0_2.size:Int))=true:=decide_eq_true c5
   have c5b1:decide (4096<a0_2.size)=true:=decide_eq_true (by omega)
   clear c5
   obtain rfl:=Option.some.inj H
   go_enter Tryz.func56,Tryz.ntmps56
   go_wp2_with (first |((with_reducible refine Qel (N:=1) rfl ?_);refine qq_e 1 #[.bool a0_0,.int .u64 a0_1,.string a0_2,.string a0_3] 39 ?_;intro gb116 hg w6 hbox hb;have n0_:=QA (Qeb qq_b hb);have n1_:=QA (hbox);have n2_:=QA (qq_s hg:w.heap.size≤gb116);have n3_:=n2_;clear HB;have HB:=n0_;have BK116:=n1_;have GW116:=n2_;have GE116:=n3_;clear n0_ n1_ n2_ n3_ hb hbox hg;have hcz7_0:=qq_c (.bool a0_0) BK116.out 0 rfl;have hcz7_1:=qq_c (.int .u64 a0_1) BK116.out 1 rfl;have hcz7_2:=qq_c (.string a0_2) BK116.out 2 rfl;have hcz7_3:=qq_c (.string a0_3) BK116.out 3 rfl;have hfz7_0:=Qcu BK116.out 0;have hfz7_1:=Qcu BK116.out 1;have hfz7_2:=Qcu BK116.out 2;have hfz7_3:=Qcu BK116.out 3))
   go_ret
   exact⟨by first|rfl |(simp[Qhh,Qhi]<;>rfl) |(simp[*,Qhh,Qhi]<;>rfl),qq_b⟩
  ·rw [if_neg c5]at H
   have c5b0:decide (4096<(a0_2.size:Int))=false:=decide_eq_false c5
   have c5b1:decide (4096<a0_2.size)=false:=decide_eq_false (by omega)
   clear c5
   have HC8:=QA H
   clear H
   go_enter Tryz.func56,Tryz.ntmps56
   go_upto_region 5 with(first |((with_reducible refine Qel (N:=1) rfl ?_);refine qq_e 1 #[.bool a0_0,.int .u64 a0_1,.string a0_2,.string a0_3] 39 ?_;intro gb116 hg w9 hbox hb;have n0_:=QA (Qeb qq_b hb);have n1_:=QA (hbox);have n2_:=QA (qq_s hg:w.heap.size≤gb116);have n3_:=n2_;clear HB;have HB:=n0_;have BK116:=n1_;have GW116:=n2_;have GE116:=n3_;clear n0_ n1_ n2_ n3_ hb hbox hg;have hcz10_0:=qq_c (.bool a0_0) BK116.out 0 rfl;have hcz10_1:=qq_c (.int .u64 a0_1) BK116.out 1 rfl;have hcz10_2:=qq_c (.string a0_2) BK116.out 2 rfl;have hcz10_3:=qq_c (.string a0_3) BK116.out 3 rfl;have hfz10_0:=Qcu BK116.out 0;have hfz10_1:=Qcu BK116.out 1;have hfz10_2:=Qcu BK116.out 2;have hfz10_3:=Qcu BK116.out 3))
   (try simp only[Act.put,List.setIfInBounds_toArray,List.set_cons_zero,List.set_cons_succ])
   go_cut [12] (fun v12 wc=>∃(kq:Nat) (x12_7:Bool),v12=.bool x12_7∧Aside0 (Qbm.j0 kq x12_7 a0_0 a0_1 a0_2 a0_3=some r)∧Aside0 (kq≤k)∧Aside0 (wc.heap[gb116]? = some (.cells #[.bool a0_0,.int .u64 a0_1,.string a0_2,.string a0_3] 39 (0,0)))∧Aside0 (Below w.heap.size w wc))
   case first =>
    have H:=HC8.out
    clear HC8
    by_cases c11:a0_0=true
    ·subst c11
     have H1:(Qbm.j0 k (a0_3.toList != ([]:List UInt8)) true a0_1 a0_2 a0_3)=some r:=by rw[if_pos rfl]at H;exact H
     clear H
     have H:=H1
     clear H1
     have H':=QA H
     clear H
     have hcz12_0:=qq_c (.bool true) BK116.out 0 rfl
     have hcz12_1:=qq_c (.int .u64 a0_1) BK116.out 1 rfl
     have hcz12_2:=qq_c (.string a0_2) BK116.out 2 rfl
     have hcz12_3:=qq_c (.string a0_3) BK116.out 3 rfl
     have hfz12_0:=Qcu BK116.out 0
     have hfz12_1:=Qcu BK116.out 1
     have hfz12_2:=Qcu BK116.out 2
     have hfz12_3:=Qcu BK116.out 3
     go_wp2
     go_meet
     case rel=>exact⟨_,((a0_3.toList != ([]:List UInt8))),(by first|rfl |(simp;done) |(simp[*];done) |(cases a0_3.toList<;>rfl)),H',⟨by first|omega|exact Nat.le_refl _⟩,⟨by(with_reducible repeat(first|apply Qdf|apply Qde|apply Qdd));exact BK116.out⟩,⟨qq_b⟩⟩
    ·replace c11:=Bool.eq_false_iff.mpr c11
     subst c11
     have H1:(Qbm.j0 k false false a0_1 a0_2 a0_3)=some r:=by rw[if_neg (show ¬(false=true)by decide)]at H;exact H
     clear H
     have H:=H1
     clear H1
     have H':=QA H
     clear H
     have hcz13_0:=qq_c (.bool false) BK116.out 0 rfl
     have hcz13_1:=qq_c (.int .u64 a0_1) BK116.out 1 rfl
     have hcz13_2:=qq_c (.string a0_2) BK116.out 2 rfl
     have hcz13_3:=qq_c (.string a0_3) BK116.out 3 rfl
     have hfz13_0:=Qcu BK116.out 0
     have hfz13_1:=Qcu BK116.out 1
     have hfz13_2:=Qcu BK116.out 2
     have hfz13_3:=Qcu BK116.out 3
     go_wp2
     go_meet
     case rel=>exact⟨_,(false),(by first|rfl |(simp;done) |(simp[*];done) |(cases a0_3.toList<;>rfl)),H',⟨by first|omega|exact Nat.le_refl _⟩,⟨by(with_reducible repeat(first|apply Qdf|apply Qde|apply Qdd));exact BK116.out⟩,⟨qq_b⟩⟩
   case rest =>
    clear HC8
    try clear c2
    try clear c2b0
    try clear c2b1
    try clear c5
    try clear c5b0
    try clear c5b1
    try clear c11
    try clear hcz10_0
    try clear hcz10_1
    try clear hcz10_2
    try clear hcz10_3
    try clear hcz12_0
    try clear hcz12_1
    try clear hcz12_2
    try clear hcz12_3
    try clear hcz13_0
    try clear hcz13_1
    try clear hcz13_2
    try clear hcz13_3
    try clear hcz4_0
    try clear hcz4_1
    try clear hcz4_2
    try clear hcz4_3
    try clear hcz7_0
    try clear hcz7_1
    try clear hcz7_2
    try clear hcz7_3
    try clear hfz10_0
    try clear hfz10_1
    try clear hfz10_2
    try clear hfz10_3
    try clear hfz12_0
    try clear hfz12_1
    try clear hfz12_2
    try clear hfz12_3
    try clear hfz13_0
    try clear hfz13_1
    try clear hfz13_2
    try clear hfz13_3
    try clear hfz4_0
    try clear hfz4_1
    try clear hfz4_2
    try clear hfz4_3
    try clear hfz7_0
    try clear hfz7_1
    try clear hfz7_2
    try clear hfz7_3
    obtain⟨kq,x12_7,rfl,HA,HJ7,BK116,HB⟩:=hcut
    cases kq with
    | zero=>exact absurd HA.out (by simp[Qbm.j0])
    | succ kj7 =>
     have H:=HA.out
     clear HA
     simp only[Qbm.j0]at H
     by_cases c14:x12_7=true
     ·subst c14
      have H1:(some 4)=some r:=by rw[if_pos rfl]at H;exact H
      clear H
      have H:=H1
      clear H1
      obtain rfl:=Option.some.inj H
      go_wp2
      go_ret
      exact⟨by first|rfl |(simp[Qhh,Qhi]<;>rfl) |(simp[*,Qhh,Qhi]<;>rfl),qq_b⟩
     ·replace c14:=Bool.eq_false_iff.mpr c14
      subst c14
      have H1:(if(a0_3.size:Int) > 1048576 then(some 3)else(some 0))=some r:=by rw[if_neg (show ¬(false=true)by decide)]at H;exact H
      clear H
      have H:=H1
      clear H1
      by_cases c15:(a0_3.size:Int) > 1048576
      ·rw[if_pos c15]at H
       have c15b0:decide (1048576<(a0_3.size:Int))=true:=decide_eq_true c15
       have c15b1:decide (1048576<a0_3.size)=true:=decide_eq_true (by omega)
       clear c15
       obtain rfl:=Option.some.inj H
       have hcz16_0:=qq_c (.bool a0_0) BK116.out 0 rfl
       have hcz16_1:=qq_c (.int .u64 a0_1) BK116.out 1 rfl
       have hcz16_2:=qq_c (.string a0_2) BK116.out 2 rfl
       have hcz16_3:=qq_c (.string a0_3) BK116.out 3 rfl
       have hfz16_0:=Qcu BK116.out 0
       have hfz16_1:=Qcu BK116.out 1
       have hfz16_2:=Qcu BK116.out 2
       have hfz16_3:=Qcu BK116.out 3
       go_wp2
       go_ret
       exact⟨by first|rfl |(simp[Qhh,Qhi]<;>rfl) |(simp[*,Qhh,Qhi]<;>rfl),qq_b⟩
      ·rw[if_neg c15]at H
       have c15b0:decide (1048576<(a0_3.size:Int))=false:=decide_eq_false c15
       have c15b1:decide (1048576<a0_3.size)=false:=decide_eq_false (by omega)
       clear c15
       obtain rfl:=Option.some.inj H
       have hcz17_0:=qq_c (.bool a0_0) BK116.out 0 rfl
       have hcz17_1:=qq_c (.int .u64 a0_1) BK116.out 1 rfl
       have hcz17_2:=qq_c (.string a0_2) BK116.out 2 rfl
       have hcz17_3:=qq_c (.string a0_3) BK116.out 3 rfl
       have hfz17_0:=Qcu BK116.out 0
       have hfz17_1:=Qcu BK116.out 1
       have hfz17_2:=Qcu BK116.out 2
       have hfz17_3:=Qcu BK116.out 3
       go_wp2
       go_ret
       exact⟨by first|rfl |(simp[Qhh,Qhi]<;>rfl) |(simp[*,Qhh,Qhi]<;>rfl),qq_b⟩
def Qaj.f(a0:Int):Option (Bool):=some (a0 != a0)
theorem Qaj.calls(a0:Int)(r:Bool)(w:World)(h:Qaj.f a0=some r) :
  Calls Tryz.prog 215 #[.int .u64 a0] w fun e w'=>e=.returned (.bool r)∧Drawn0 w w':=by
 have H:(some (a0 != a0))=some r:=h
 clear h
 obtain rfl:=Option.some.inj H
 go_enter Tryz.func215,Tryz.ntmps215
 go_wp2
 go_ret
 exact⟨by first|rfl |(simp;done) |(simp[*];done),by repeat(first|exact Drawn0.refl _|apply Drawn0.step)⟩
def Qaz.f(a0_0:Int)(a0_1:Int)(a1:Int):Option (Int):=(Qal.f a0_0 a0_1).bind fun t105=>(if t105=0 then(if a1≥a0_1 then(some 1)else(some 0))else(some 1))
theorem Qaz.calls(a0_0:Int)(a0_1:Int)(a1:Int)(r:Int)(w:World)(h:Qaz.f a0_0 a0_1 a1=some r) :
  Calls Tryz.prog 93 #[.agg #[.int .u8 a0_0,.int .u32 a0_1],.int .u32 a1] w fun e w'=>e=.returned (.int .i64 r)∧Below w.heap.size w w':=by
 have hu27:=Tryz.underlying27
 have HB:=QA (Below.refl w.heap.size w)
 have H:((Qal.f a0_0 a0_1).bind fun t105=>(if t105=0 then(if a1≥a0_1 then(some 1)else(some 0))else(some 1)))=some r:=h
 clear h
 replace H:=Option.bind_eq_some_iff.mp H
 obtain⟨t105,A30,H⟩:=H
 replace H:(if t105=0 then(if a1≥a0_1 then(some 1)else(some 0))else(some 1))=some r:=H
 have A3:=QA A30
 clear A30
 by_cases c4:t105=0
 ·rw[if_pos c4]at H
  have c4b0:(t105 == 0)=true:=beq_iff_eq.mpr c4
  have c4b1:(t105 != 0)=false:=bne_eq_false_iff_eq.mpr c4
  clear c4
  by_cases c5:a1≥a0_1
  ·rw[if_pos c5]at H
   have c5b0:decide (a0_1≤a1)=true:=decide_eq_true c5
   clear c5
   obtain rfl:=Option.some.inj H
   go_enter Tryz.func93,Tryz.ntmps93
   go_wp2_with (first |((with_reducible refine Qel (N:=2) rfl ?_);refine qq_e 2 #[.int .u8 a0_0,.int .u32 a0_1] 27 ?_;intro gb104 hg w6 hbox hb;have n0_:=QA (Qeb qq_b hb);have n1_:=QA (hbox);have n2_:=QA (qq_s hg:w.heap.size≤gb104);have n3_:=n2_;clear HB;have HB:=n0_;have BK104:=n1_;have GW104:=n2_;have GE104:=n3_;clear n0_ n1_ n2_ n3_ hb hbox hg;have hcz7_0:=qq_c (.int .u8 a0_0) BK104.out 0 rfl;have hcz7_1:=qq_c (.int .u32 a0_1) BK104.out 1 rfl;have hfz7_0:=Qcu BK104.out 0;have hfz7_1:=Qcu BK104.out 1) |((with_reducible refine Qhd (f:=85) rfl ?_);refine Qfk (some 6) rfl rfl Tryz.func85 qq_5 rfl #[.agg #[.int .u8 a0_0,.int .u32 a0_1]] rfl qq_1 ?_;(with_reducible refine(Qal.calls a0_0 a0_1 t105 _ A3.out).mono ?_);rintro e w8 ⟨rfl,hb⟩;refine⟨_,rfl,?_⟩;have n0_:=QA (Qdg (g:=gb104) (o:=.cells #[.int .u8 a0_0,.int .u32 a0_1] 27 (0,0)) qq_0 hb);have n1_:=QA (Qeb qq_b hb);clear BK104 HB;have BK104:=n0_;have HB:=n1_;clear n0_ n1_;(try clear hb);(try clear hb2);(try clear hk);(try clear hi);have hcz9_0:=qq_c (.int .u8 a0_0) BK104.out 0 rfl;have hcz9_1:=qq_c (.int .u32 a0_1) BK104.out 1 rfl;have hfz9_0:=Qcu BK104.out 0;have hfz9_1:=Qcu BK104.out 1))
   go_ret
   exact⟨by first|rfl |(simp[Qhh,Qhi]<;>rfl) |(simp[*,Qhh,Qhi]<;>rfl),qq_b⟩
  ·rw[if_neg c5]at H
   have c5b0:decide (a0_1≤a1)=false:=decide_eq_false c5
   clear c5
   obtain rfl:=Option.some.inj H
   go_enter Tryz.func93,Tryz.ntmps93
   go_wp2_with (first |((with_reducible refine Qel (N:=2) rfl ?_);refine qq_e 2 #[.int .u8 a0_0,.int .u32 a0_1] 27 ?_;intro gb104 hg w10 hbox hb;have n0_:=QA (Qeb qq_b hb);have n1_:=QA (hbox);have n2_:=QA (qq_s hg:w.heap.size≤gb104);have n3_:=n2_;clear HB;have HB:=n0_;have BK104:=n1_;have GW104:=n2_;have GE104:=n3_;clear n0_ n1_ n2_ n3_ hb hbox hg;have hcz11_0:=qq_c (.int .u8 a0_0) BK104.out 0 rfl;have hcz11_1:=qq_c (.int .u32 a0_1) BK104.out 1 rfl;have hfz11_0:=Qcu BK104.out 0;have hfz11_1:=Qcu BK104.out 1) |((with_reducible refine Qhd (f:=85) rfl ?_);refine Qfk (some 6) rfl rfl Tryz.func85 qq_5 rfl #[.agg #[.int .u8 a0_0,.int .u32 a0_1]] rfl qq_1 ?_;(with_reducible refine(Qal.calls a0_0 a0_1 t105 _ A3.out).mono ?_);rintro e w12 ⟨rfl,hb⟩;refine⟨_,rfl,?_⟩;have n0_:=QA (Qdg (g:=gb104) (o:=.cells #[.int .u8 a0_0,.int .u32 a0_1] 27 (0,0)) qq_0 hb);have n1_:=QA (Qeb qq_b hb);clear BK104 HB;have BK104:=n0_;have HB:=n1_;clear n0_ n1_;(try clear hb);(try clear hb2);(try clear hk);(try clear hi);have hcz13_0:=qq_c (.int .u8 a0_0) BK104.out 0 rfl;have hcz13_1:=qq_c (.int .u32 a0_1) BK104.out 1 rfl;have hfz13_0:=Qcu BK104.out 0;have hfz13_1:=Qcu BK104.out 1))
   go_ret
   exact⟨by first|rfl |(simp[Qhh,Qhi]<;>rfl) |(simp[*,Qhh,Qhi]<;>rfl),qq_b⟩
 ·rw[if_neg c4]at H
  have c4b0:(t105 == 0)=false:=beq_eq_false_iff_ne.mpr c4
  have c4b1:(t105 != 0)=true:=bne_iff_ne.mpr c4
  obtain rfl:=Option.some.inj H
  go_enter Tryz.func93,Tryz.ntmps93
  go_wp2_with (first |((with_reducible refine Qel (N:=2) rfl ?_);refine qq_e 2 #[.int .u8 a0_0,.int .u32 a0_1] 27 ?_;intro gb104 hg w14 hbox hb;have n0_:=QA (Qeb qq_b hb);have n1_:=QA (hbox);have n2_:=QA (qq_s hg:w.heap.size≤gb104);have n3_:=n2_;clear HB;have HB:=n0_;have BK104:=n1_;have GW104:=n2_;have GE104:=n3_;clear n0_ n1_ n2_ n3_ hb hbox hg;have hcz15_0:=qq_c (.int .u8 a0_0) BK104.out 0 rfl;have hcz15_1:=qq_c (.int .u32 a0_1) BK104.out 1 rfl;have hfz15_0:=Qcu BK104.out 0;have hfz15_1:=Qcu BK104.out 1) |((with_reducible refine Qhd (f:=85) rfl ?_);refine Qfk (some 6) rfl rfl Tryz.func85 qq_5 rfl #[.agg #[.int .u8 a0_0,.int .u32 a0_1]] rfl qq_1 ?_;(with_reducible refine(Qal.calls a0_0 a0_1 t105 _ A3.out).mono ?_);rintro e w16 ⟨rfl,hb⟩;refine⟨_,rfl,?_⟩;have n0_:=QA (Qdg (g:=gb104) (o:=.cells #[.int .u8 a0_0,.int .u32 a0_1] 27 (0,0)) qq_0 hb);have n1_:=QA (Qeb qq_b hb);clear BK104 HB;have BK104:=n0_;have HB:=n1_;clear n0_ n1_;(try clear hb);(try clear hb2);(try clear hk);(try clear hi)))
  go_ret
  exact⟨by first|rfl |(simp[Qhh,Qhi]<;>rfl) |(simp[*,Qhh,Qhi]<;>rfl),qq_b⟩
def Qam.f(a0_0:Int)(a0_1:Int):Option (Int):=(Qal.f a0_0 a0_1).bind fun t113=>(if t113=0 then(if 0≤a0_0 then(some (shl .i64 1 a0_0))else(none))else(some 0))
theorem Qam.calls(a0_0:Int)(a0_1:Int)(r:Int)(w:World)(h:Qam.f a0_0 a0_1=some r) :
  Calls Tryz.prog 78 #[.agg #[.int .u8 a0_0,.int .u32 a0_1]] w fun e w'=>e=.returned (.int .i64 r)∧Below w.heap.size w w':=by
 have hu27:=Tryz.underlying27
 have HB:=QA (Below.refl w.heap.size w)
 have H:((Qal.f a0_0 a0_1).bind fun t113=>(if t113=0 then(if 0≤a0_0 then(some (shl .i64 1 a0_0))else(none))else(some 0)))=some r:=h
 clear h
 replace H:=Option.bind_eq_some_iff.mp H
 obtain⟨t113,A20,H⟩:=H
 replace H:(if t113=0 then(if 0≤a0_0 then(some (shl .i64 1 a0_0))else(none))else(some 0))=some r:=H
 have A2:=QA A20
 clear A20
 by_cases c3:t113=0
 ·rw[if_pos c3]at H
  have c3b0:(t113 == 0)=true:=beq_iff_eq.mpr c3
  have c3b1:(t113 != 0)=false:=bne_eq_false_iff_eq.mpr c3
  clear c3
  by_cases c4:0≤a0_0
  ·rw[if_pos c4]at H
   have c4b0:=eq_true c4
   have c4b1:decide (0≤a0_0)=true:=decide_eq_true c4
   clear c4
   obtain⟨ji5,hji5⟩:∃j_:Int,(shl .i64 1 a0_0)=j_:=⟨_,rfl⟩
   replace H:(some ji5)=some r:=by first |(rw[hji5]at H;exact H) |(simp only[hji5]at H ⊢;exact H)
   (try rw[hji5]at A2)
   have hji5_:(IntKind.i64.wrap (1*2^min a0_0.toNat 64))=ji5:=hji5
   have hji5z:a0_0≤64→(IntKind.i64.wrap (1*2^a0_0.toNat))=ji5:=Qhf hji5
   have hji5u:(IntKind.i64.wrap (2^min a0_0.toNat 64))=ji5:=by have h_:=hji5_;rw[Int.one_mul]at h_;exact h_
   have hji5v:a0_0≤64→(IntKind.i64.wrap (2^a0_0.toNat))=ji5:=fun hle_=>by have h_:=hji5z hle_;rw[Int.one_mul]at h_;exact h_
   have hji5y:(wrap64 (1*2^min a0_0.toNat 64))=ji5:=(Qfm _).symm.trans hji5_
   have hji5x:a0_0≤64→(wrap64 (1*2^a0_0.toNat))=ji5:=fun h_=>(Qfm _).symm.trans (hji5z h_)
   obtain rfl:=Option.some.inj H
   go_enter Tryz.func78,Tryz.ntmps78
   go_wp2_with (first |((with_reducible refine Qel (N:=1) rfl ?_);refine qq_e 1 #[.int .u8 a0_0,.int .u32 a0_1] 27 ?_;intro gb112 hg w6 hbox hb;have n0_:=QA (Qeb qq_b hb);have n1_:=QA (hbox);have n2_:=QA (qq_s hg:w.heap.size≤gb112);have n3_:=n2_;clear HB;have HB:=n0_;have BK112:=n1_;have GW112:=n2_;have GE112:=n3_;clear n0_ n1_ n2_ n3_ hb hbox hg;have hcz7_0:=qq_c (.int .u8 a0_0) BK112.out 0 rfl;have hcz7_1:=qq_c (.int .u32 a0_1) BK112.out 1 rfl;have hfz7_0:=Qcu BK112.out 0;have hfz7_1:=Qcu BK112.out 1) |((with_reducible refine Qhd (f:=85) rfl ?_);refine Qfk (some 4) rfl rfl Tryz.func85 qq_5 rfl #[.agg #[.int .u8 a0_0,.int .u32 a0_1]] rfl qq_1 ?_;(with_reducible refine(Qal.calls a0_0 a0_1 t113 _ A2.out).mono ?_);rintro e w8 ⟨rfl,hb⟩;refine⟨_,rfl,?_⟩;have n0_:=QA (Qdg (g:=gb112) (o:=.cells #[.int .u8 a0_0,.int .u32 a0_1] 27 (0,0)) qq_0 hb);have n1_:=QA (Qeb qq_b hb);clear BK112 HB;have BK112:=n0_;have HB:=n1_;clear n0_ n1_;(try clear hb);(try clear hb2);(try clear hk);(try clear hi);have hcz9_0:=qq_c (.int .u8 a0_0) BK112.out 0 rfl;have hcz9_1:=qq_c (.int .u32 a0_1) BK112.out 1 rfl;have hfz9_0:=Qcu BK112.out 0;have hfz9_1:=Qcu BK112.out 1))
   go_ret
   exact⟨by first|rfl |(simp[Qhh,Qhi]<;>rfl) |(simp only[← hji5];first|rfl |(simp[Qhh,Qhi]<;>rfl)) |(simp[*,Qhh,Qhi]<;>rfl),qq_b⟩
  ·rw[if_neg c4]at H
   exact absurd H (by simp)
 ·rw[if_neg c3]at H
  have c3b0:(t113 == 0)=false:=beq_eq_false_iff_ne.mpr c3
  have c3b1:(t113 != 0)=true:=bne_iff_ne.mpr c3
  obtain rfl:=Option.some.inj H
  go_enter Tryz.func78,Tryz.ntmps78
  go_wp2_with (first |((with_reducible refine Qel (N:=1) rfl ?_);refine qq_e 1 #[.int .u8 a0_0,.int .u32 a0_1] 27 ?_;intro gb112 hg w10 hbox hb;have n0_:=QA (Qeb qq_b hb);have n1_:=QA (hbox);have n2_:=QA (qq_s hg:w.heap.size≤gb112);have n3_:=n2_;clear HB;have HB:=n0_;have BK112:=n1_;have GW112:=n2_;have GE112:=n3_;clear n0_ n1_ n2_ n3_ hb hbox hg;have hcz11_0:=qq_c (.int .u8 a0_0) BK112.out 0 rfl;have hcz11_1:=qq_c (.int .u32 a0_1) BK112.out 1 rfl;have hfz11_0:=Qcu BK112.out 0;have hfz11_1:=Qcu BK112.out 1) |((with_reducible refine Qhd (f:=85) rfl ?_);refine Qfk (some 4) rfl rfl Tryz.func85 qq_5 rfl #[.agg #[.int .u8 a0_0,.int .u32 a0_1]] rfl qq_1 ?_;(with_reducible refine(Qal.calls a0_0 a0_1 t113 _ A2.out).mono ?_);rintro e w12 ⟨rfl,hb⟩;refine⟨_,rfl,?_⟩;have n0_:=QA (Qdg (g:=gb112) (o:=.cells #[.int .u8 a0_0,.int .u32 a0_1] 27 (0,0)) qq_0 hb);have n1_:=QA (Qeb qq_b hb);clear BK112 HB;have BK112:=n0_;have HB:=n1_;clear n0_ n1_;(try clear hb);(try clear hb2);(try clear hk);(try clear hi)))
  go_ret
  exact⟨by first|rfl |(simp[Qhh,Qhi]<;>rfl) |(simp[*,Qhh,Qhi]<;>rfl),qq_b⟩
def Qat.f(a0:Int):Option (Int):=some (wrap64 (Int.tdiv (wrap64 ((wrap64 ((mx 0 a0)+16))-1)) 16))
theorem Qat.calls(a0:Int)(r:Int)(w:World)(h:Qat.f a0=some r) :
  Calls Tryz.prog 183 #[.int .i64 a0] w fun e w'=>e=.returned (.int .i64 r)∧Below w.heap.size w w':=by
 have HB:=QA (Below.refl w.heap.size w)
 have H:(some (wrap64 (Int.tdiv (wrap64 ((wrap64 ((mx 0 a0)+16))-1)) 16)))=some r:=h
 clear h
 obtain⟨ji2,hji2⟩:∃j_:Int,(mx 0 a0)=j_:=⟨_,rfl⟩
 replace H:(some (wrap64 (Int.tdiv (wrap64 ((wrap64 ((ji2)+16))-1)) 16)))=some r:=by first |(rw[hji2]at H;exact H) |(simp only[hji2]at H ⊢;exact H)
 (try(have hji2l:0≤ji2:=by(rw[← hji2];unfold mx;(repeat' split)<;>omega)))
 (try(have hji2m:0≤ji2:=by omega))
 have hji2_:(if 0<a0 then a0 else 0)=ji2:=hji2
 obtain rfl:=Option.some.inj H
 go_enter Tryz.func183,Tryz.ntmps183
 go_wp2
 go_ret
 exact⟨by first|rfl |(simp[Qhh,Qhi]<;>rfl) |(simp only[← hji2];first|rfl |(simp[Qhh,Qhi]<;>rfl)) |(simp[*,Qhh,Qhi]<;>rfl),qq_b⟩
def Qay.f(a0:Int):Option (Int):=(Qak.f (wrap64 ((mx 0 a0)+8))).bind fun t125=>(some (wrap64 (t125+1)))
theorem Qay.calls(a0:Int)(r:Int)(w:World)(h:Qay.f a0=some r) :
  Calls Tryz.prog 226 #[.int .i64 a0] w fun e w'=>e=.returned (.int .i64 r)∧Below w.heap.size w w':=by
 have HB:=QA (Below.refl w.heap.size w)
 have H:((Qak.f (wrap64 ((mx 0 a0)+8))).bind fun t125=>(some (wrap64 (t125+1))))=some r:=h
 clear h
 obtain⟨ji2,hji2⟩:∃j_:Int,(mx 0 a0)=j_:=⟨_,rfl⟩
 replace H:((Qak.f (wrap64 ((ji2)+8))).bind fun t125=>(some (wrap64 (t125+1))))=some r:=by first |(rw[hji2]at H;exact H) |(simp only[hji2]at H ⊢;exact H)
 (try(have hji2l:0≤ji2:=by(rw[← hji2];unfold mx;(repeat' split)<;>omega)))
 (try(have hji2m:0≤ji2:=by omega))
 have hji2_:(if 0<a0 then a0 else 0)=ji2:=hji2
 replace H:=Option.bind_eq_some_iff.mp H
 obtain⟨t125,A30,H⟩:=H
 replace H:(some (wrap64 (t125+1)))=some r:=H
 have A3:=QA A30
 clear A30
 obtain rfl:=Option.some.inj H
 go_enter Tryz.func226,Tryz.ntmps226
 go_wp2_with (first |((with_reducible refine Qhd (f:=197) rfl ?_);refine Qfk (some 6) rfl rfl Tryz.func197 qq_5 rfl #[.int .i64 (wrap64 ((ji2)+8))] rfl qq_10 ?_;(with_reducible refine(Qak.calls (wrap64 ((ji2)+8)) t125 _ A3.out).mono ?_);rintro e w' ⟨rfl,⟨nd,rfl⟩⟩;refine⟨_,rfl,?_⟩))
 go_ret
 exact⟨by first|rfl |(simp[Qhh,Qhi]<;>rfl) |(simp only[← hji2];first|rfl |(simp[Qhh,Qhi]<;>rfl)) |(simp[*,Qhh,Qhi]<;>rfl),qq_b⟩
def Qau.f(a0:Int):Option (Int):=(Qat.f (mx 0 a0)).bind fun t126=>((Qay.f (wrap64 ((wrap64 (9+(wrap64 (12*(mx 0 a0)))))+(wrap64 (8*t126))))).bind fun t127=>(some t127))
theorem Qau.calls(a0:Int)(r:Int)(w:World)(h:Qau.f a0=some r) :
  Calls Tryz.prog 198 #[.int .i64 a0] w fun e w'=>e=.returned (.int .i64 r)∧Below w.heap.size w w':=by
 have HB:=QA (Below.refl w.heap.size w)
 have H:((Qat.f (mx 0 a0)).bind fun t126=>((Qay.f (wrap64 ((wrap64 (9+(wrap64 (12*(mx 0 a0)))))+(wrap64 (8*t126))))).bind fun t127=>(some t127)))=some r:=h
 clear h
 obtain⟨ji2,hji2⟩:∃j_:Int,(mx 0 a0)=j_:=⟨_,rfl⟩
 replace H:((Qat.f (ji2)).bind fun t126=>((Qay.f (wrap64 ((wrap64 (9+(wrap64 (12*(ji2)))))+(wrap64 (8*t126))))).bind fun t127=>(some t127)))=some r:=by first |(rw[hji2]at H;exact H) |(simp only[hji2]at H ⊢;exact H)
 (try(have hji2l:0≤ji2:=by(rw[← hji2];unfold mx;(repeat' split)<;>omega)))
 (try(have hji2m:0≤ji2:=by omega))
 have hji2_:(if 0<a0 then a0 else 0)=ji2:=hji2
 replace H:=Option.bind_eq_some_iff.mp H
 obtain⟨t126,A30,H⟩:=H
 replace H:((Qay.f (wrap64 ((wrap64 (9+(wrap64 (12*(ji2)))))+(wrap64 (8*t126))))).bind fun t127=>(some t127))=some r:=H
 have A3:=QA A30
 clear A30
 replace H:=Option.bind_eq_some_iff.mp H
 obtain⟨t127,A40,H⟩:=H
 replace H:(some t127)=some r:=H
 have A4:=QA A40
 clear A40
 obtain rfl:=Option.some.inj H
 go_enter Tryz.func198,Tryz.ntmps198
 go_wp2_with (first |((with_reducible refine Qhd (f:=183) rfl ?_);refine Qfk (some 9) rfl rfl Tryz.func183 qq_5 rfl #[.int .i64 ji2] rfl qq_10 ?_;(with_reducible refine(Qat.calls ji2 t126 _ A3.out).mono ?_);rintro e w5 ⟨rfl,hb⟩;refine⟨_,rfl,?_⟩;have n0_:=QA (Qeb qq_b hb);clear HB;have HB:=n0_;clear n0_;(try clear hb);(try clear hb2);(try clear hk);(try clear hi)) |((with_reducible refine Qhd (f:=226) rfl ?_);refine Qfk (some 12) rfl rfl Tryz.func226 qq_5 rfl #[.int .i64 (wrap64 ((wrap64 (9+(wrap64 (12*(ji2)))))+(wrap64 (8*t126))))] rfl qq_10 ?_;(with_reducible refine(Qay.calls (wrap64 ((wrap64 (9+(wrap64 (12*(ji2)))))+(wrap64 (8*t126)))) t127 _ A4.out).mono ?_);rintro e w6 ⟨rfl,hb⟩;refine⟨_,rfl,?_⟩;have n0_:=QA (Qeb qq_b hb);clear HB;have HB:=n0_;clear n0_;(try clear hb);(try clear hb2);(try clear hk);(try clear hi)))
 go_ret
 exact⟨by first|rfl |(simp[Qhh,Qhi]<;>rfl) |(simp only[← hji2];first|rfl |(simp[Qhh,Qhi]<;>rfl)) |(simp[*,Qhh,Qhi]<;>rfl),qq_b⟩
def Qbi.f(a0_0:Int)(a0_1:Int)(a0_2:Int)(a0_3:Int)(a0_4:Int):Option (Int):=(Qam.f a0_0 a0_1).bind fun t129=>((Qau.f (wrap64 (a0_4+1))).bind fun t130=>(some (mx 0 (wrap64 ((wrap64 (t129-a0_3))-t130)))))
def Qbi.T1:Bool × List (List Nat × List Nat):=(true,[([],[]),([0],[0]),([1],[1]),([],[]),([3],[3]),([2,4],[2,4]),([],[]),([6],[6]),([7],[7]),([8,2],[8]),([5,9],[5,9]),([10],[10]),([11,9,0,1,2,3,4,5,6,7,8,9,10,11],[11])])
def Qbi.B1:List Nat:=[0,1,3,0,8,31,0,64,192,455,1023,2047,4095]
theorem Qbi.tab1:rtab .any (Qgr Tryz.f154 1)=Qbi.T1:=by kernel_rfl
theorem Qbi.bits1:Qgl Qbi.T1.2 Qbi.B1=true:=by kernel_rfl
theorem Qbi.calls(a0_0:Int)(a0_1:Int)(a0_2:Int)(a0_3:Int)(a0_4:Int)(r:Int)(w:World)(h:Qbi.f a0_0 a0_1 a0_2 a0_3 a0_4=some r) :
  Calls Tryz.prog 154 #[.agg #[.int .u8 a0_0,.int .u32 a0_1,.int .u32 a0_2,.int .i64 a0_3,.int .i64 a0_4]] w fun e w'=>e=.returned (.int .i64 r)∧Below w.heap.size w w':=by
 have hu47:=Tryz.underlying47
 have hu27:=Tryz.underlying27
 have HB:=QA (Below.refl w.heap.size w)
 have H:((Qam.f a0_0 a0_1).bind fun t129=>((Qau.f (wrap64 (a0_4+1))).bind fun t130=>(some (mx 0 (wrap64 ((wrap64 (t129-a0_3))-t130))))))=some r:=h
 clear h
 replace H:=Option.bind_eq_some_iff.mp H
 obtain⟨t129,A20,H⟩:=H
 replace H:((Qau.f (wrap64 (a0_4+1))).bind fun t130=>(some (mx 0 (wrap64 ((wrap64 (t129-a0_3))-t130)))))=some r:=H
 have A2:=QA A20
 clear A20
 replace H:=Option.bind_eq_some_iff.mp H
 obtain⟨t130,A30,H⟩:=H
 replace H:(some (mx 0 (wrap64 ((wrap64 (t129-a0_3))-t130))))=some r:=H
 have A3:=QA A30
 clear A30
 obtain⟨ji4,hji4⟩:∃j_:Int,(mx 0 (wrap64 ((wrap64 (t129-a0_3))-t130)))=j_:=⟨_,rfl⟩
 replace H:(some ji4)=some r:=by first |(rw[hji4]at H;exact H) |(simp only[hji4]at H ⊢;exact H)
 (try rw[hji4]at A2)
 (try rw[hji4]at A3)
 (try(have hji4l:0≤ji4:=by(rw[← hji4];unfold mx;(repeat' split)<;>omega)))
 (try(have hji4m:0≤ji4:=by omega))
 have hji4_:(if 0<(wrap64 ((wrap64 (t129-a0_3))-t130))then(wrap64 ((wrap64 (t129-a0_3))-t130))else 0)=ji4:=hji4
 obtain rfl:=Option.some.inj H
 go_enter Tryz.func154,Tryz.ntmps154
 try go_wp2_with (first |((with_reducible refine Qel (N:=1) rfl ?_);refine qq_e 1 #[.int .u8 a0_0,.int .u32 a0_1,.int .u32 a0_2,.int .i64 a0_3,.int .i64 a0_4] 47 ?_;intro gb128 hg w5 hbox hb;have n0_:=QA (Qeb qq_b hb);have n1_:=QA (hbox);have n2_:=QA (qq_s hg:w.heap.size≤gb128);have n3_:=n2_;clear HB;have HB:=n0_;have BK128:=n1_;have GW128:=n2_;have GE128:=n3_;clear n0_ n1_ n2_ n3_;clear hb hbox hg))
 have n0_:=QA (Qde BK128.out)
 have n1_:=QA (Qeh HB.out)
 clear BK128 HB
 have BK128:=n0_
 have HB:=n1_
 clear n0_ n1_
 refine Qey (n:=13) (S:=fun w'=>w'.cell? ⟨gb128,0,none⟩=some (.int .u8 a0_0)∧w'.cell? ⟨gb128,1,none⟩=some (.int .u32 a0_1)∧w'.cell? ⟨gb128,2,none⟩=some (.int .u32 a0_2)∧w'.cell? ⟨gb128,3,none⟩=some (.int .i64 a0_3)∧w'.cell? ⟨gb128,4,none⟩=some (.int .i64 a0_4)) (ds:=[]) #[false,false,false,false,false,false,false,false,false,false,false,false,false] qq_5 rfl rfl ⟨(Qct BK128.out 0).trans rfl,(Qct BK128.out 1).trans rfl,(Qct BK128.out 2).trans rfl,(Qct BK128.out 3).trans rfl,(Qct BK128.out 4).trans rfl⟩ (fun hHeld=>?_);refine Qgp Qbi.tab1 Qbi.bits1 (fun HT_ HW_=>?_)
 generalize w5.drew=w6 at BK128 HB hHeld ⊢
 refine Qfb (i:=0) (N:=some 3) (v:=?_) (a':=?_) #[true,false,false,false,false,false,false,false,false,false,false,false,false] rfl rfl (Qgi HT_.out qq_5) (fun _ _ _ h=>h) (Or.inl ⟨by rfl,?_⟩) ?_ ?_
 rotate_left
 ·intro w'
  go_simp
  with_reducible rfl
 rotate_left
 ·exact qq_4
 refine Qfb (i:=3) (N:=some 6) (v:=?_) (a':=?_) #[true,false,false,true,false,false,false,false,false,false,false,false,false] rfl rfl (Qgi HT_.out qq_5) (fun _ _ _ h=>h) (Or.inl ⟨by rfl,?_⟩) ?_ ?_
 rotate_left
 ·intro w'
  go_simp
  with_reducible rfl
 rotate_left
 ·exact qq_4
 refine Qfb (i:=6) (N:=some 9) (v:=?_) (a':=?_) #[true,false,false,true,false,false,true,false,false,false,false,false,false] rfl rfl (Qgi HT_.out qq_5) (fun _ _ _ h=>h) (Or.inl ⟨by rfl,?_⟩) ?_ ?_
 rotate_left
 ·intro w'
  go_simp
  with_reducible rfl
 rotate_left
 ·exact qq_4
 refine Qfa (i:=1) (N:=some 4) (v:=?_) (a':=?_) #[true,true,false,true,false,false,true,false,false,false,false,false,false] rfl rfl (Qgo HT_.out HW_.out qq_5) (fun _ _ _ h=>h) (Or.inl ⟨by rfl,?_⟩) hHeld ?_ ?_
 rotate_left
 ·rintro w' ⟨s0,s1,s2,s3,s4⟩
  go_simp
  with_reducible rfl
 rotate_left
 ·exact qq_4
 refine Qfa (i:=4) (N:=some 7) (v:=?_) (a':=?_) #[true,true,false,true,true,false,true,false,false,false,false,false,false] rfl rfl (Qgo HT_.out HW_.out qq_5) (fun _ _ _ h=>h) (Or.inl ⟨by rfl,?_⟩) hHeld ?_ ?_
 rotate_left
 ·rintro w' ⟨s0,s1,s2,s3,s4⟩
  go_simp
  with_reducible rfl
 rotate_left
 ·exact qq_4
 refine Qfa (i:=7) (N:=some 10) (v:=?_) (a':=?_) #[true,true,false,true,true,false,true,true,false,false,false,false,false] rfl rfl (Qgo HT_.out HW_.out qq_5) (fun _ _ _ h=>h) (Or.inl ⟨by rfl,?_⟩) hHeld ?_ ?_
 rotate_left
 ·rintro w' ⟨s0,s1,s2,s3,s4⟩
  go_simp
  with_reducible rfl
 rotate_left
 ·exact qq_4
 refine Qfb (i:=8) (N:=some 11) (v:=?_) (a':=?_) #[true,true,false,true,true,false,true,true,true,false,false,false,false] rfl rfl (Qgi HT_.out qq_5) (fun _ _ _ h=>h) (Or.inl ⟨by rfl,?_⟩) ?_ ?_
 rotate_left
 ·intro w'
  go_simp
  with_reducible rfl
 rotate_left
 ·exact qq_4
 refine one_ (i:=2) (N:=some 5) #[true,true,true,true,true,false,true,true,true,false,false,false,false] rfl rfl (Qgj HT_.out qq_5) (by decide) (fun K hK=>?_)
 refine Qfj Tryz.func78 qq_5 rfl #[.agg #[.int .u8 a0_0,.int .u32 a0_1]] (by rfl) rfl rfl qq_1 ?_
 with_reducible refine(Qam.calls a0_0 a0_1 t129 _ A2.out).mono ?_
 rintro e w7 ⟨rfl,hb⟩
 refine⟨_,rfl,?_⟩
 have n0_:=QA (Qdg (g:=gb128) (o:=.cells #[.int .u8 a0_0,.int .u32 a0_1,.int .u32 a0_2,.int .i64 a0_3,.int .i64 a0_4] 47 (0,0)) qq_0 hb)
 have n1_:=QA (Qeb qq_b hb)
 clear BK128 HB
 have BK128:=n0_
 have HB:=n1_
 clear n0_ n1_
 (try clear hb)
 (try clear hb2)
 (try clear hk)
 (try clear hi)
 refine hK.out _ _ ⟨(Qct BK128.out 0).trans rfl,(Qct BK128.out 1).trans rfl,(Qct BK128.out 2).trans rfl,(Qct BK128.out 3).trans rfl,(Qct BK128.out 4).trans rfl⟩ (fun hHeld=>?_)
 clear hK K
 refine Qfh (a':=?_) ?_ ?_
 rotate_left
 ·show Act.put _ (some 5) _=_
  simp only[Act.put,List.setIfInBounds_toArray,List.set_cons_zero,List.set_cons_succ,Qfm,Qfn]
  rfl
 refine Qfb (i:=5) (N:=some 8) (v:=?_) (a':=?_) #[true,true,true,true,true,true,true,true,true,false,false,false,false] rfl rfl (Qgi HT_.out qq_5) (fun _ _ _ h=>h) (Or.inl ⟨by rfl,?_⟩) ?_ ?_
 rotate_left
 ·intro w'
  go_simp
  with_reducible rfl
 rotate_left
 ·exact qq_4
 refine one_ (i:=9) (N:=some 12) #[true,true,true,true,true,true,true,true,true,true,false,false,false] rfl rfl (Qgj HT_.out qq_5) (by decide) (fun K hK=>?_)
 refine Qfj Tryz.func198 qq_5 rfl #[.int .i64 (wrap64 (a0_4+1))] (by rfl) rfl rfl qq_1 ?_
 with_reducible refine(Qau.calls (wrap64 (a0_4+1)) t130 _ A3.out).mono ?_
 rintro e w8 ⟨rfl,hb⟩
 refine⟨_,rfl,?_⟩
 have n0_:=QA (Qdg (g:=gb128) (o:=.cells #[.int .u8 a0_0,.int .u32 a0_1,.int .u32 a0_2,.int .i64 a0_3,.int .i64 a0_4] 47 (0,0)) qq_0 hb)
 have n1_:=QA (Qeb qq_b hb)
 clear BK128 HB
 have BK128:=n0_
 have HB:=n1_
 clear n0_ n1_
 (try clear hb)
 (try clear hb2)
 (try clear hk)
 (try clear hi)
 refine hK.out _ _ ⟨(Qct BK128.out 0).trans rfl,(Qct BK128.out 1).trans rfl,(Qct BK128.out 2).trans rfl,(Qct BK128.out 3).trans rfl,(Qct BK128.out 4).trans rfl⟩ (fun hHeld=>?_)
 clear hK K
 refine Qfh (a':=?_) ?_ ?_
 rotate_left
 ·show Act.put _ (some 12) _=_
  simp only[Act.put,List.setIfInBounds_toArray,List.set_cons_zero,List.set_cons_succ,Qfm,Qfn]
  rfl
 refine Qfb (i:=10) (N:=some 13) (v:=?_) (a':=?_) #[true,true,true,true,true,true,true,true,true,true,true,false,false] rfl rfl (Qgi HT_.out qq_5) (fun _ _ _ h=>h) (Or.inl ⟨by rfl,?_⟩) ?_ ?_
 rotate_left
 ·intro w'
  go_simp
  with_reducible rfl
 rotate_left
 ·exact qq_4
 refine Qfb (i:=11) (N:=some 14) (v:=?_) (a':=?_) #[true,true,true,true,true,true,true,true,true,true,true,true,false] rfl rfl (Qgi HT_.out qq_5) (fun _ _ _ h=>h) (Or.inl ⟨by rfl,?_⟩) ?_ ?_
 rotate_left
 ·intro w'
  go_simp
  with_reducible rfl
 rotate_left
 ·exact qq_4
 refine Qfb (i:=12) (N:=some 2) (v:=?_) (a':=?_) #[true,true,true,true,true,true,true,true,true,true,true,true,true] rfl rfl (Qgi HT_.out qq_5) (fun _ _ _ h=>h) (Or.inl ⟨by rfl,?_⟩) ?_ ?_
 rotate_left
 ·intro w'
  go_simp
  with_reducible rfl
 rotate_left
 ·exact qq_4
 refine Qfd (Qgk HT_.out qq_5) ?_
 try go_wp2
 go_ret
 exact⟨by first|rfl |(simp[Qhh,Qhi]<;>rfl) |(simp only[← hji4];first|rfl |(simp[Qhh,Qhi]<;>rfl)) |(simp[*,Qhh,Qhi]<;>rfl),qq_b⟩
end Go.Proofs.YtnnofopfbeklbaaGreat.C
end
