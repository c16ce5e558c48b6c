/- Texts of this claim's author and of the print of its functions, merged by merge.py. -/
import Derived.Test.YtnnofopfbeklbaaGreatMI02
import Derived.Test.YtnnofopfbeklbaaGreatMI10
import Derived.Test.YtnnofopfbeklbaaGreatMI11
import Derived.Test.YtnnofopfbeklbaaGreatMI05
import Derived.Test.YtnnofopfbeklbaaGreatMI08
import Derived.Test.YtnnofopfbeklbaaGreatMI06
import Derived.Test.YtnnofopfbeklbaaGreatMI03
import Derived.Test.YtnnofopfbeklbaaGreatMI04
import Derived.Test.YtnnofopfbeklbaaGreatMI09
import Derived.Test.YtnnofopfbeklbaaGreatMI07
set_option linter.unusedVariables false
set_option linter.unusedSimpArgs false
set_option maxHeartbeats 8000000
set_option maxRecDepth 100000
section
namespace Go.Proofs.YtnnofopfbeklbaaGreat.C
open Go.RowKit Go.Proofs.YtnnofopfbeklbaaGreatW.PrintWords Go.Proofs.YtnnofopfbeklbaaGreatW.PrintLast Go.Proofs.YtnnofopfbeklbaaGreatW.PrintMore
attribute [local go_sem] Qgv Qgw Qgx Qgy Qgz Qha Qhb Qhc
def Qbb.l0:Nat→List Int→List (S39)→Int→Int→Int→Int→Option (List Int × List Int × Int)
 | 0,_,_,_,_,_,_=>none
 | k+1,x5,x23,x24,x25,x193000,x193001=>if x25<x24 then(if 0≤x25 then(if x25<(x23.length:Int)then((Qaw.f ((Qhn x23 x25).f0) ((Qhn x23 x25).f1) ((Qhn x23 x25).f2) ((Qhn x23 x25).f3)).bind fun bt197=>(if x5.length<17592186044416 then(Qbb.l0 k (x5++[(bt197.1.length:Int)]) x23 x24 (wrap64 (x25+1)) x193000 x193001)else(none)))else(none))else(none))else((Qbg.f k x193000 x193001 x5).bind fun bt204=>(some (bt204.1,x5,bt204.2)))
def Qbb.f(k:Nat)(a0_0:Int)(a0_1:Int)(l1:List (S39)):Option (List Int × List Int × Int):=(Qal.f a0_0 a0_1).bind fun t193=>(if t193=0 then((Qbn.f k l1).bind fun t194=>(if t194=0 then(Qbb.l0 k ([]:List Int) l1 (l1.length:Int) 0 a0_0 a0_1)else(some (([]:List Int),([]:List Int),t194))))else(some (([]:List Int),([]:List Int),t193)))
theorem Qbb.calls (k:Nat) (a0_0:Int) (a0_1:Int) (A1:Option Addr) (c1:Nat) (l1:List (S39)) (r1:List Int) (r2:List Int) (r3:Int) (w:World) (hr1:Kd.C k39 w A1 l1.length l1) (hc1:l1.length≤c1) (h:Qbb.f k a0_0 a0_1 l1=some (r1,r2,r3)) :
  Calls Tryz.prog 73 #[.agg #[.int .u8 a0_0,.int .u32 a0_1],.slice A1 l1.length c1] w fun e w'=>∃v0_ v1_:Value,e=.returned (.tuple #[v0_,v1_,.int .i64 r3])∧Kd.R (Kd.int .u32) 22 w' w.heap.size (fun _=>True) v0_ r1∧Kd.R (Kd.int .i64) 3 w' w.heap.size (fun _=>True) v1_ r2∧Below w.heap.size w w':=by
 have hu27:=Tryz.underlying27
 have hu39:=Tryz.underlying39
 have HR1:=QA hr1
 have HC1:=QA hc1
 clear hr1 hc1
 have HB:=QA (Below.refl w.heap.size w)
 have H:((Qal.f a0_0 a0_1).bind fun t193=>(if t193=0 then((Qbn.f k l1).bind fun t194=>(if t194=0 then(Qbb.l0 k ([]:List Int) l1 (l1.length:Int) 0 a0_0 a0_1)else(some (([]:List Int),([]:List Int),t194))))else(some (([]:List Int),([]:List Int),t193))))=some (r1,r2,r3):=h
 clear h
 replace H:=Option.bind_eq_some_iff.mp H
 obtain⟨t193,A30,H⟩:=H
 replace H:(if t193=0 then((Qbn.f k l1).bind fun t194=>(if t194=0 then(Qbb.l0 k ([]:List Int) l1 (l1.length:Int) 0 a0_0 a0_1)else(some (([]:List Int),([]:List Int),t194))))else(some (([]:List Int),([]:List Int),t193)))=some (r1,r2,r3):=H
 have A3:=QA A30
 clear A30
 by_cases c4:t193=0
 ·rw [if_pos c4]at H
  have c4b0:(t193 == 0)=true:=beq_iff_eq.mpr c4
  have c4b1:(t193 != 0)=false:=bne_eq_false_iff_eq.mpr c4
  clear c4
  replace H:=Option.bind_eq_some_iff.mp H
  obtain⟨t194,A50,H⟩:=H
  replace H:(if t194=0 then(Qbb.l0 k ([]:List Int) l1 (l1.length:Int) 0 a0_0 a0_1)else(some (([]:List Int),([]:List Int),t194)))=some (r1,r2,r3):=H
  have A5:=QA A50
  clear A50
  by_cases c6:t194=0
  ·rw [if_pos c6]at H
   have c6b0:(t194 == 0)=true:=beq_iff_eq.mpr c6
   have c6b1:(t194 != 0)=false:=bne_eq_false_iff_eq.mpr c6
   clear c6
   have H':=QA H
   clear H
   go_enter Tryz.func73,Tryz.ntmps73
   go_wp2_with (first |((with_reducible refine Qel (N:=2) rfl ?_);refine qq_e 2 #[.int .u8 a0_0,.int .u32 a0_1] 27 ?_;intro gb192 hg w7 hbox hb;have n0_:=QA (Qeb qq_b hb);have n1_:=QA (hbox);have n2_:=QA (qq_s hg:w.heap.size≤gb192);have n3_:=n2_;clear HB;have HB:=n0_;have BK192:=n1_;have GW192:=n2_;have GE192:=n3_;clear n0_ n1_ n2_ n3_ hb hbox hg;have hcz8_0:=qq_c (.int .u8 a0_0) BK192.out 0 rfl;have hcz8_1:=qq_c (.int .u32 a0_1) BK192.out 1 rfl;have hfz8_0:=Qcu BK192.out 0;have hfz8_1:=Qcu BK192.out 1) |((with_reducible refine Qhd (f:=85) rfl ?_);refine Qfk (some 14) rfl rfl Tryz.func85 qq_5 rfl #[.agg #[.int .u8 a0_0,.int .u32 a0_1]] rfl qq_1 ?_;(with_reducible refine(Qal.calls a0_0 a0_1 t193 _ A3.out).mono ?_);rintro e w9 ⟨rfl,hb⟩;refine⟨_,rfl,?_⟩;have n0_:=QA (Qdg (g:=gb192) (o:=.cells #[.int .u8 a0_0,.int .u32 a0_1] 27 (0,0)) qq_0 hb);have n1_:=QA (Qeb qq_b hb);clear BK192 HB;have BK192:=n0_;have HB:=n1_;clear n0_ n1_;(try clear hb);(try clear hb2);(try clear hk);(try clear hi)) |((with_reducible refine Qhd (f:=124) rfl ?_);refine Qfk (some 19) rfl rfl Tryz.func124 qq_5 rfl #[.slice A1 l1.length c1] rfl qq_1 ?_;(with_reducible refine(Qbn.calls k _ _ l1 t194 _ ?side1 ?side2 A5.out).mono ?_);(case side1=>repeat(first|exact(Kd.C_below HR1.out HB.out) |(with_reducible refine Kd.C_alloc ?_ _) |(with_reducible refine Kd.C_drewN ?_ _) |(with_reducible refine Kd.C_drew ?_)));(case side2=>exact HC1.out);rintro e w10 ⟨rfl,hb⟩;refine⟨_,rfl,?_⟩;have n0_:=QA (Qdg (g:=gb192) (o:=.cells #[.int .u8 a0_0,.int .u32 a0_1] 27 (0,0)) qq_0 hb);have n1_:=QA (Qeb qq_b hb);clear BK192 HB;have BK192:=n0_;have HB:=n1_;clear n0_ n1_;(try clear hb);(try clear hb2);(try clear hk);(try clear hi)))
   go_loopg [5,25] k (fun kq v5 v25 w'=>∃(x5_1:List Int) (x25_1:Int),v25=.int .i64 x25_1∧Aside0 (Qbb.l0 kq x5_1 l1 (l1.length:Int) x25_1 a0_0 a0_1=some (r1,r2,r3))∧Aside0 (kq≤k)∧Aside0 (Kd.R (Kd.int .i64) 3 w' w.heap.size (fun _=>True) v5 x5_1)∧Aside0 (w'.heap[gb192]? = some (.cells #[.int .u8 a0_0,.int .u32 a0_1] 27 (0,0)))∧Aside0 (Below w.heap.size w w'))
   case atStart=>exact⟨(([]:List Int)),(0),qq_9,H',⟨Nat.le_refl _⟩,⟨by first|exact Kd.R_nil _ _ _ _ _|exact Kd.N_nil _ _ _ _ _|exact Kd.V_nil _ _ _ _ _|exact Kd.Q_nil _ _ _ _ _|exact Kd.S_nil _ _ _ _ _⟩,⟨by(with_reducible repeat(first|apply Qdf|apply Qde|apply Qdd));exact BK192.out⟩,⟨qq_b⟩⟩
   case round =>
    clear H'
    try clear c1
    try clear c4
    try clear c4b0
    try clear c4b1
    try clear c6
    try clear c6b0
    try clear c6b1
    try clear hcz8_0
    try clear hcz8_1
    try clear hfz8_0
    try clear hfz8_1
    obtain⟨x5_1,x25_1,rfl,HA,HK1,HO_5,BK192,HB⟩:=hrel
    cases gk with
    | zero=>exact absurd HA.out (by simp[Qbb.l0])
    | succ k1 =>
     have H:=HA.out
     clear HA
     simp only[Qbb.l0]at H
     by_cases c11:x25_1<(l1.length:Int)
     ·rw [if_pos c11]at H
      have c11b0:decide (x25_1<(l1.length:Int))=true:=decide_eq_true c11
      clear c11
      by_cases c12:0≤x25_1
      ·rw[if_pos c12]at H
       have c12b0:decide (0≤x25_1)=true:=decide_eq_true c12
       clear c12
       by_cases c13:x25_1<(l1.length:Int)
       ·rw[if_pos c13]at H
        have c13b0:decide (x25_1<(l1.length:Int))=true:=decide_eq_true c13
        clear c13
        replace H:=Option.bind_eq_some_iff.mp H
        obtain⟨⟨t197,t200⟩,A140,H⟩:=H
        replace H:(if x5_1.length<17592186044416 then(Qbb.l0 k1 (x5_1++[(t197.length:Int)]) l1 (l1.length:Int) (wrap64 (x25_1+1)) a0_0 a0_1)else(none))=some (r1,r2,r3):=H
        have A14:=QA A140
        clear A140
        by_cases c15:x5_1.length<17592186044416
        ·rw[if_pos c15]at H
         have LMc15:=QA c15
         clear c15
         obtain⟨y201,hy201⟩:∃y_:List Int,y_=(x5_1++[(t197.length:Int)]):=⟨_,rfl⟩
         replace H:(Qbb.l0 k1 y201 l1 (l1.length:Int) (wrap64 (x25_1+1)) a0_0 a0_1)=some (r1,r2,r3):=by first |(rw[hy201];with_reducible exact H) |(have H2_:=(Option.bind_some _ _).symm.trans H;rw[hy201];with_reducible exact H2_) |(have H2_:=(Option.bind_some _ _).symm.trans H;with_reducible exact H2_)|with_reducible exact H |(rw[hy201];exact H)|exact H
         have Ny201:=QA hy201
         clear hy201
         have H':=QA H
         clear H
         have p195:0≤(x25_1:Int):=of_decide_eq_true qq_6
         have q195:x25_1<(l1.length:Int):=of_decide_eq_true qq_6
         obtain⟨ad195,e195,hx195_0,hx195_1,hx195_2,hx195_3⟩:=Qho HR1.out x25_1 p195 q195
         cases e195
         replace hx195_0:=qq_h HB.out hx195_0
         replace hx195_1:=qq_h HB.out hx195_1
         replace hx195_2:=qq_h HB.out hx195_2
         replace hx195_3:=qq_h HB.out hx195_3
         replace p195:=eq_true p195
         replace q195:=eq_true q195
         go_wp2_with (first |((with_reducible refine Qel (N:=10) rfl ?_);refine qq_e 10 #[.bool false,.int .u64 0,.string (⟨#[]⟩:ByteArray),.string (⟨#[]⟩:ByteArray)] 39 ?_;intro gb196 hg w16 hbox hb;have n0_:=QA (Kd.R_below qq_3 hb);have n1_:=QA (Qdg (g:=gb192) (o:=.cells #[.int .u8 a0_0,.int .u32 a0_1] 27 (0,0)) qq_0 hb);have n2_:=QA (Qeb qq_b hb);have n3_:=QA (hbox);have n4_:=QA (qq_s hg:w.heap.size≤gb196);have n5_:=n4_;have n6_:=QA ((by rw[hg];exact Nat.ne_of_lt (Qcs (g:=gb192) (o:=.cells #[.int .u8 a0_0,.int .u32 a0_1] 27 (0,0)) qq_0):gb192≠gb196));have n7_:=QA ((by rw[hg];exact Nat.ne_of_gt (Qcs (g:=gb192) (o:=.cells #[.int .u8 a0_0,.int .u32 a0_1] 27 (0,0)) qq_0):gb196≠gb192));clear HO_5 BK192 HB;have HO_5:=n0_;have BK192:=n1_;have HB:=n2_;have BK196:=n3_;have GW196:=n4_;have GE196:=n5_;have NB192_196:=n6_;have NB196_192:=n7_;clear n0_ n1_ n2_ n3_ n4_ n5_ n6_ n7_ hb hbox hg;have hnb17:=NB196_192.out;have hnc17:=NB192_196.out;have hcz18_0:=qq_c (.bool false) BK196.out 0 rfl;have hcz18_1:=qq_c (.int .u64 0) BK196.out 1 rfl;have hcz18_2:=qq_c (.string (⟨#[]⟩:ByteArray)) BK196.out 2 rfl;have hcz18_3:=qq_c (.string (⟨#[]⟩:ByteArray)) BK196.out 3 rfl;have hfz18_0:=Qcu BK196.out 0;have hfz18_1:=Qcu BK196.out 1;have hfz18_2:=Qcu BK196.out 2;have hfz18_3:=Qcu BK196.out 3) |((with_reducible refine Qhd (f:=57) rfl ?_);refine Qfk (some 31) rfl rfl Tryz.func57 qq_5 rfl #[.agg #[.bool ((Qhn l1 x25_1).f0),.int .u64 ((Qhn l1 x25_1).f1),.string ((Qhn l1 x25_1).f2),.string ((Qhn l1 x25_1).f3)]] rfl qq_1 ?_;(with_reducible refine(Qaw.calls ((Qhn l1 x25_1).f0) ((Qhn l1 x25_1).f1) ((Qhn l1 x25_1).f2) ((Qhn l1 x25_1).f3) t197 t200 _ A14.out).mono ?_);rintro e w19 ⟨v198,rfl,ho0,hb⟩;refine⟨_,rfl,?_⟩;have n0_:=QA (Kd.R_below (by(with_reducible repeat(first|apply Kd.R_alloc|apply Kd.R_drewN|apply Kd.R_drew));exact(Kd.R_mono (Kd.R_far (p:=⟨gb196,3,none⟩) (Kd.R_far (p:=⟨gb196,2,none⟩) (Kd.R_far (p:=⟨gb196,1,none⟩) (Kd.R_far (p:=⟨gb196,0,none⟩) (Kd.R_types HO_5.out BK196.out (by decide)) (fun _ hk=>hk.2) (.bool ((Qhn l1 x25_1).f0))) (fun _ hk=>hk.2) (.int .u64 ((Qhn l1 x25_1).f1))) (fun _ hk=>hk.2) (.string ((Qhn l1 x25_1).f2))) (fun _ hk=>hk.2) (.string ((Qhn l1 x25_1).f3))) (fun _ h_=>h_.1))) hb);have n1_:=QA (Kd.R_lower ho0 (Qea qq_b));have n2_:=QA (Qdg (g:=gb192) (o:=.cells #[.int .u8 a0_0,.int .u32 a0_1] 27 (0,0)) qq_7 hb);have n3_:=QA (Qdg (g:=gb196) (o:=.cells #[.bool ((Qhn l1 x25_1).f0),.int .u64 ((Qhn l1 x25_1).f1),.string ((Qhn l1 x25_1).f2),.string ((Qhn l1 x25_1).f3)] 39 (0,0)) (by(with_reducible repeat(first|apply Qdf|apply Qde|apply Qdd));refine Qeg (cs:=#[.bool ((Qhn l1 x25_1).f0),.int .u64 ((Qhn l1 x25_1).f1),.string ((Qhn l1 x25_1).f2),.string (⟨#[]⟩:ByteArray)]) ?_ 3 _ rfl;(with_reducible repeat(first|apply Qdf|apply Qde|apply Qdd));refine Qeg (cs:=#[.bool ((Qhn l1 x25_1).f0),.int .u64 ((Qhn l1 x25_1).f1),.string (⟨#[]⟩:ByteArray),.string (⟨#[]⟩:ByteArray)]) ?_ 2 _ rfl;(with_reducible repeat(first|apply Qdf|apply Qde|apply Qdd));refine Qeg (cs:=#[.bool ((Qhn l1 x25_1).f0),.int .u64 0,.string (⟨#[]⟩:ByteArray),.string (⟨#[]⟩:ByteArray)]) ?_ 1 _ rfl;(with_reducible repeat(first|apply Qdf|apply Qde|apply Qdd));refine Qeg (cs:=#[.bool false,.int .u64 0,.string (⟨#[]⟩:ByteArray),.string (⟨#[]⟩:ByteArray)]) ?_ 0 _ rfl;(with_reducible repeat(first|apply Qdf|apply Qde|apply Qdd));exact BK196.out) hb);have n4_:=QA (Qeb qq_b hb);clear HO_5 BK192 BK196 HB;have HO_5:=n0_;have HO199:=n1_;have BK192:=n2_;have BK196:=n3_;have HB:=n4_;clear n0_ n1_ n2_ n3_ n4_;(try clear hb);(try clear hb2);(try clear hk);(try clear hi);(try clear ho0);obtain⟨Ao20,co20,eo20⟩:=Kd.R_slice HO199.out;subst eo20) |((with_reducible refine Qhe (b:=.append) (xs:=#[.tmp 34,.tmp 37]) rfl ?_);at_builtin;refine Kd.R_append (Kd.int .i64) (w0:=w) w.heap.size rfl (.tmp 34) (.tmp 37) 133 3 (.int .i64 0) 8 rfl Tryz.underlying133 info3 rfl (by decide) (by omega) u5 x5_1 (t197.length:Int) [.int .i64 (t197.length:Int)] (fun _=>True) (fun _=>False) rfl rfl ?aP (fun _ hk=>hk.elim) ?aF ?aO ?aB ?aS ?aL ?_;(case aP=>exact rfl);(case aB=>exact qq_b);(case aF=>exact(fun _ _=>trivial));(case aO=>exact qq_3);(case aS=>exact(Qea qq_b));(case aL=>have:=LMc15.out;omega);intro v202 w21 ho hb hg hat;rw[← Ny201.out]at ho;have n0_:=QA (Qcv (g:=gb192) (o:=.cells #[.int .u8 a0_0,.int .u32 a0_1] 27 (0,0)) qq_0 hg (Kd.R_ne HO_5.out BK192.out (by decide)));have n1_:=QA (Qcv (g:=gb196) (o:=.cells #[.bool ((Qhn l1 x25_1).f0),.int .u64 ((Qhn l1 x25_1).f1),.string ((Qhn l1 x25_1).f2),.string ((Qhn l1 x25_1).f3)] 39 (0,0)) qq_0 hg (Kd.R_ne HO_5.out BK196.out (by decide)));have n2_:=QA (Kd.R_over' qq_3 (Kd.R_typed qq_3) (by decide) hg);have n3_:=QA (hb);have n4_:=QA (ho);clear BK192 BK196 HO199 HB HO_5;have BK192:=n0_;have BK196:=n1_;have HO199:=n2_;have HB:=n3_;have HO203:=n4_;clear n0_ n1_ n2_ n3_ n4_;clear ho hb hg hat))
         go_roundg k1
         case measure=>have:=HK1.out;omega
         case rel=>exact⟨(y201),(wrap64 (x25_1+1)),qq_9,H',⟨by have:=HK1.out;omega⟩,⟨by(with_reducible repeat(first|apply Kd.R_alloc|apply Kd.R_drewN|apply Kd.R_drew));exact HO203.out⟩,⟨by(with_reducible repeat(first|apply Qdf|apply Qde|apply Qdd));exact BK192.out⟩,⟨qq_b⟩⟩
        ·rw[if_neg c15]at H
         exact absurd H (by simp)
       ·rw[if_neg c13]at H
        exact absurd H (by simp)
      ·rw[if_neg c12]at H
       exact absurd H (by simp)
     ·rw[if_neg c11]at H
      have c11b0:decide (x25_1<(l1.length:Int))=false:=decide_eq_false c11
      clear c11
      replace H:=Option.bind_eq_some_iff.mp H
      obtain⟨⟨t204,t207⟩,A220,H⟩:=H
      replace H:(some (t204,x5_1,t207))=some (r1,r2,r3):=H
      have A22:=QA A220
      clear A220
      simp only[Option.some.injEq,Prod.mk.injEq]at H
      obtain⟨rfl,rfl,rfl⟩:=H
      have hcz23_0:=qq_c (.int .u8 a0_0) BK192.out 0 rfl
      have hcz23_1:=qq_c (.int .u32 a0_1) BK192.out 1 rfl
      have hfz23_0:=Qcu BK192.out 0
      have hfz23_1:=Qcu BK192.out 1
      obtain⟨Ao24,co24,eo24⟩:=Kd.R_slice HO_5.out
      subst eo24
      go_wp2_with (first |((with_reducible refine Qhd (f:=125) rfl ?_);refine Qfk (some 43) rfl rfl Tryz.func125 qq_5 rfl #[.agg #[.int .u8 a0_0,.int .u32 a0_1],.slice Ao24 x5_1.length co24] rfl qq_1 ?_;(with_reducible refine(Qbg.calls k1 a0_0 a0_1 _ _ x5_1 t204 t207 _ ?side1 ?side2 A22.out).mono ?_);(case side1=>repeat(first|exact(Kd.R_reads' HO_5.out).2.2 |(with_reducible refine Kd.C_alloc ?_ _) |(with_reducible refine Kd.C_drewN ?_ _) |(with_reducible refine Kd.C_drew ?_)));(case side2=>exact(Kd.R_reads' HO_5.out).2.1);rintro e w25 ⟨v205,rfl,ho0,hb⟩;refine⟨_,rfl,?_⟩;have n0_:=QA (Kd.R_below qq_3 hb);have n1_:=QA (Kd.R_lower ho0 (Qea qq_b));have n2_:=QA (Qdg (g:=gb192) (o:=.cells #[.int .u8 a0_0,.int .u32 a0_1] 27 (0,0)) qq_0 hb);have n3_:=QA (Qeb qq_b hb);clear HO_5 BK192 HB;have HO_5:=n0_;have HO206:=n1_;have BK192:=n2_;have HB:=n3_;clear n0_ n1_ n2_ n3_;(try clear hb);(try clear hb2);(try clear hk);(try clear hi);(try clear ho0)))
      go_ret3
      exact⟨_,_,by first|rfl |(simp[Qhh,Qhi]<;>rfl) |(simp[*,Qhh,Qhi]<;>rfl),by(with_reducible repeat(first|apply Kd.R_alloc|apply Kd.R_drewN|apply Kd.R_drew));exact HO206.out,by(with_reducible repeat(first|apply Kd.R_alloc|apply Kd.R_drewN|apply Kd.R_drew));exact HO_5.out,qq_b⟩
  ·rw[if_neg c6]at H
   have c6b0:(t194 == 0)=false:=beq_eq_false_iff_ne.mpr c6
   have c6b1:(t194 != 0)=true:=bne_iff_ne.mpr c6
   simp only[Option.some.injEq,Prod.mk.injEq]at H
   obtain⟨rfl,rfl,rfl⟩:=H
   go_enter Tryz.func73,Tryz.ntmps73
   go_wp2_with (first |((with_reducible refine Qel (N:=2) rfl ?_);refine qq_e 2 #[.int .u8 a0_0,.int .u32 a0_1] 27 ?_;intro gb192 hg w26 hbox hb;have n0_:=QA (Qeb qq_b hb);have n1_:=QA (hbox);have n2_:=QA (qq_s hg:w.heap.size≤gb192);have n3_:=n2_;clear HB;have HB:=n0_;have BK192:=n1_;have GW192:=n2_;have GE192:=n3_;clear n0_ n1_ n2_ n3_ hb hbox hg;have hcz27_0:=qq_c (.int .u8 a0_0) BK192.out 0 rfl;have hcz27_1:=qq_c (.int .u32 a0_1) BK192.out 1 rfl;have hfz27_0:=Qcu BK192.out 0;have hfz27_1:=Qcu BK192.out 1) |((with_reducible refine Qhd (f:=85) rfl ?_);refine Qfk (some 14) rfl rfl Tryz.func85 qq_5 rfl #[.agg #[.int .u8 a0_0,.int .u32 a0_1]] rfl qq_1 ?_;(with_reducible refine(Qal.calls a0_0 a0_1 t193 _ A3.out).mono ?_);rintro e w28 ⟨rfl,hb⟩;refine⟨_,rfl,?_⟩;have n0_:=QA (Qdg (g:=gb192) (o:=.cells #[.int .u8 a0_0,.int .u32 a0_1] 27 (0,0)) qq_0 hb);have n1_:=QA (Qeb qq_b hb);clear BK192 HB;have BK192:=n0_;have HB:=n1_;clear n0_ n1_;(try clear hb);(try clear hb2);(try clear hk);(try clear hi)) |((with_reducible refine Qhd (f:=124) rfl ?_);refine Qfk (some 19) rfl rfl Tryz.func124 qq_5 rfl #[.slice A1 l1.length c1] rfl qq_1 ?_;(with_reducible refine(Qbn.calls k _ _ l1 t194 _ ?side1 ?side2 A5.out).mono ?_);(case side1=>repeat(first|exact(Kd.C_below HR1.out HB.out) |(with_reducible refine Kd.C_alloc ?_ _) |(with_reducible refine Kd.C_drewN ?_ _) |(with_reducible refine Kd.C_drew ?_)));(case side2=>exact HC1.out);rintro e w29 ⟨rfl,hb⟩;refine⟨_,rfl,?_⟩;have n0_:=QA (Qdg (g:=gb192) (o:=.cells #[.int .u8 a0_0,.int .u32 a0_1] 27 (0,0)) qq_0 hb);have n1_:=QA (Qeb qq_b hb);clear BK192 HB;have BK192:=n0_;have HB:=n1_;clear n0_ n1_;(try clear hb);(try clear hb2);(try clear hk);(try clear hi)))
   go_ret3
   exact⟨_,_,by first|rfl |(simp[Qhh,Qhi]<;>rfl) |(simp[*,Qhh,Qhi]<;>rfl),by first|exact Kd.R_nil _ _ _ _ _|exact Kd.N_nil _ _ _ _ _|exact Kd.V_nil _ _ _ _ _|exact Kd.Q_nil _ _ _ _ _|exact Kd.S_nil _ _ _ _ _,by first|exact Kd.R_nil _ _ _ _ _|exact Kd.N_nil _ _ _ _ _|exact Kd.V_nil _ _ _ _ _|exact Kd.Q_nil _ _ _ _ _|exact Kd.S_nil _ _ _ _ _,qq_b⟩
 ·rw[if_neg c4]at H
  have c4b0:(t193 == 0)=false:=beq_eq_false_iff_ne.mpr c4
  have c4b1:(t193 != 0)=true:=bne_iff_ne.mpr c4
  simp only[Option.some.injEq,Prod.mk.injEq]at H
  obtain⟨rfl,rfl,rfl⟩:=H
  go_enter Tryz.func73,Tryz.ntmps73
  go_wp2_with (first |((with_reducible refine Qel (N:=2) rfl ?_);refine qq_e 2 #[.int .u8 a0_0,.int .u32 a0_1] 27 ?_;intro gb192 hg w30 hbox hb;have n0_:=QA (Qeb qq_b hb);have n1_:=QA (hbox);have n2_:=QA (qq_s hg:w.heap.size≤gb192);have n3_:=n2_;clear HB;have HB:=n0_;have BK192:=n1_;have GW192:=n2_;have GE192:=n3_;clear n0_ n1_ n2_ n3_ hb hbox hg;have hcz31_0:=qq_c (.int .u8 a0_0) BK192.out 0 rfl;have hcz31_1:=qq_c (.int .u32 a0_1) BK192.out 1 rfl;have hfz31_0:=Qcu BK192.out 0;have hfz31_1:=Qcu BK192.out 1) |((with_reducible refine Qhd (f:=85) rfl ?_);refine Qfk (some 14) rfl rfl Tryz.func85 qq_5 rfl #[.agg #[.int .u8 a0_0,.int .u32 a0_1]] rfl qq_1 ?_;(with_reducible refine(Qal.calls a0_0 a0_1 t193 _ A3.out).mono ?_);rintro e w32 ⟨rfl,hb⟩;refine⟨_,rfl,?_⟩;have n0_:=QA (Qdg (g:=gb192) (o:=.cells #[.int .u8 a0_0,.int .u32 a0_1] 27 (0,0)) qq_0 hb);have n1_:=QA (Qeb qq_b hb);clear BK192 HB;have BK192:=n0_;have HB:=n1_;clear n0_ n1_;(try clear hb);(try clear hb2);(try clear hk);(try clear hi)))
  go_ret3
  exact⟨_,_,by first|rfl |(simp[Qhh,Qhi]<;>rfl) |(simp[*,Qhh,Qhi]<;>rfl),by first|exact Kd.R_nil _ _ _ _ _|exact Kd.N_nil _ _ _ _ _|exact Kd.V_nil _ _ _ _ _|exact Kd.Q_nil _ _ _ _ _|exact Kd.S_nil _ _ _ _ _,by first|exact Kd.R_nil _ _ _ _ _|exact Kd.N_nil _ _ _ _ _|exact Kd.V_nil _ _ _ _ _|exact Kd.Q_nil _ _ _ _ _|exact Kd.S_nil _ _ _ _ _,qq_b⟩
def fascicleref07_Body.T2:Bool × List (List Nat × List Nat):=(true,[([],[]),([0],[0]),([1],[1]),([2],[2]),([],[]),([4],[4]),([5,2],[5]),([3,6],[3,6]),([7,6,0,1,2,3,4,5,6,7],[7])])
def fascicleref09_Head.T1:Bool × List (List Nat × List Nat):=(true,[([],[]),([0],[0]),([1],[1]),([2],[2]),([3],[3]),([],[]),([5],[5]),([6],[6]),([7],[7]),([4,8],[4,8]),([],[]),([10,8],[10]),([9,11],[9,11]),([12,11],[12]),([13,13,0,1,2,3,4,5,6,7,8,9,10,11,12,13],[13])])
def fascicleref09_Head.B1:List Nat:=[0,1,3,7,15,0,32,96,224,511,0,1504,4095,8191,16383]
def fascicleref14_Empty.T1:Bool × List (List Nat × List Nat):=(true,[([],[]),([],[]),([],[]),([],[]),([2,3],[2,3]),([4],[4]),([0,1,5],[0,1,5]),([6,4,0,1,2,3,4,5,6],[6])])
def fascicleref14_Empty.B1:List Nat:=[0,0,0,0,12,28,63,127]
end Go.Proofs.YtnnofopfbeklbaaGreat.C
end
section
namespace Go.Proofs.YtnnofopfbeklbaaGreat.C
open Go.RowKit Go.Proofs.YtnnofopfbeklbaaGreatW.PrintWords Go.Proofs.YtnnofopfbeklbaaGreatW.PrintLast Go.Proofs.YtnnofopfbeklbaaGreatW.PrintMore
abbrev Room5:=Int × Int × Int × Int × Int
def IsBd(W:World)(b g:Nat)(R:Room5)(fr:List Int)(tb:List S117):Prop :=
 ∃fv tv,W.heap[g]? = some (.cells #[.int .u8 R.1,.int .u32 R.2.1,.int .u32 R.2.2.1,.int .i64 R.2.2.2.1,.int .i64 R.2.2.2.2,fv,tv] 108 (0,0))∧R8 W b fv fr∧Kd.R k117 117 W b (fun _=>True) tv tb
theorem IsBd.kept{W W':World}{b g:Nat}{R:Room5}{fr:List Int}{tb:List S117}(h:IsBd W b g R fr tb)(hb:Below W.heap.size W W'):IsBd W' b g R fr tb:=by
 obtain⟨fv,tv,h1,h2,h3⟩:=h
 exact⟨fv,tv,Qdg h1 hb,h2.kept hb,Kd.R_below h3 hb⟩
theorem room5{W:World}{B:Nat}{e s n u c:Int}(h:W.heap[B]? = some (.cells #[.int .u8 e,.int .u32 s,.int .u32 n,.int .i64 u,.int .i64 c] 47 (0,0))) :
  W.cell? ⟨B,0,none⟩=some (.int .u8 e)∧W.cell? ⟨B,1,none⟩=some (.int .u32 s)∧W.cell? ⟨B,2,none⟩=some (.int .u32 n)∧W.cell? ⟨B,3,none⟩=some (.int .i64 u)∧W.cell? ⟨B,4,none⟩=some (.int .i64 c) :=
 ⟨(Qct h 0).trans rfl,(Qct h 1).trans rfl,(Qct h 2).trans rfl,(Qct h 3).trans rfl,(Qct h 4).trans rfl⟩
theorem Qly(e s n u c:Int)(hd:List Int)(w:World)(hp:Qbf.f e s n=some (e,s,n,u,c,0))(hh:Qav.f e s n=some (hd,0)) :
  Calls Tryz.prog 18 #[.agg #[.int .u8 e,.int .u32 s],.int .u32 n] w fun ee w'=>∃g,ee=.returned (.tuple #[.pointer (some ⟨g,0,none⟩),.int .i64 0])∧IsBd w' w.heap.size g (e,s,n,u,c) hd []∧Below w.heap.size w w'∧w.heap.size≤g:=by
 have hu:=Tryz.underlying27
 have hu2:=Tryz.underlying47
 have hu3:=Tryz.underlying108
 have HP:=QA hp
 have HH:=QA hh
 clear hp hh
 have hba:Below w.heap.size w (w.alloc (.cells #[.int .u8 e,.int .u32 s] 27)):=Qbw (Below.refl _ _) _
 have hbn:=Qdh w (.cells #[.int .u8 e,.int .u32 s] 27)
 go_enter Tryz.func18,Tryz.ntmps18
 go_wp2_with (first
  |(go_at_call 52;refine(Qbf.calls e s n _ _ _ _ _ _ _ HP.out).mono ?_;rintro ee w1 ⟨rfl,hb1⟩;have hk1:=Qdg hbn hb1;have hw1:=QA (Qbz hba hba.size hb1);have hs1:=QA (show w.heap.size<w1.heap.size from Qcs hk1);have hk1':=Qdd hk1 (.cells #[.int .u8 e,.int .u32 s,.int .u32 n,.int .i64 u,.int .i64 c] 47);obtain⟨c0,c1⟩:=box2 hk1';clear hk1 hb1 hbn hba)
  |(go_at_call 53;refine(Qav.calls e s n hd 0 _ HH.out).mono ?_;rintro ee w3 ⟨v3,rfl,hR3,hb3⟩;have hk3:=Qdg (Qdh w1 (.cells #[.int .u8 e,.int .u32 s,.int .u32 n,.int .i64 u,.int .i64 c] 47)) hb3;obtain⟨d0,d1,d2,d3,d4⟩:=room5 hk3;obtain⟨A3,n3,c3,rfl⟩:=R8.shape hR3))
 refine bodyPost_ret (results_tmp2 rfl _ _ _) rfl ?_
 have hz1:=Nat.le_of_lt hs1.out
 have hbr:Below w1.heap.size w1 (w1.alloc (.cells #[.int .u8 e,.int .u32 s,.int .u32 n,.int .i64 u,.int .i64 c] 47)):=Qbw (Below.refl _ _) _
 have hz3:w.heap.size≤w3.heap.size:=Nat.le_trans (Nat.le_trans hz1 hbr.size) hb3.size
 refine⟨w3.heap.size,rfl,⟨_,_,Qdh w3 _,?_,Kd.R_nil _ _ _ _ _⟩,?_,hz3⟩
 ·exact R8.low (R8.kept hR3 (Qbw (Below.refl _ _) _)) (Nat.le_trans hz1 hbr.size)
 ·exact((hw1.out.trans (Qia hbr hz1)).trans (Qia hb3 (Nat.le_trans hz1 hbr.size))).trans (Qia (Qbw (Below.refl w3.heap.size w3) _) hz3)
theorem Qlz(b g:Nat)(R:Room5)(fr:List Int)(tb:List S117)(w:World)(hI:IsBd w b g R fr tb)(hl:fr.length≤140737488355328) :
  Calls Tryz.prog 29 #[.pointer (some ⟨g,0,none⟩)] w fun e w'=>∃v:Value,e=.returned v∧R8 w' w.heap.size v fr∧Below w.heap.size w w':=by
 obtain⟨fv,tv,hv,hR,hT⟩:=hI
 obtain⟨A,n,c,rfl,hn,hlc,hC⟩:=R8.reads hR
 have hc:w.cell? ⟨g,5,none⟩=some (.slice A n c):=(Qct hv 5).trans rfl
 have hcl:=hC.1
 have hu3:=Tryz.underlying108
 have hcall:Calls Tryz.prog 70 #[.slice A n c] w fun e w'=>∃v0_:Value,e=.returned (v0_)∧R8 w' w.heap.size v0_ fr∧Below w.heap.size w w':=by
  subst hcl
  exact Qib A c fr w hC hl
 clear hcl
 go_enter Tryz.func29,Tryz.ntmps29
 go_wp2_with (go_at_call 70;refine hcall.mono ?_;rintro e w' ⟨v1,rfl,hd,hb⟩)
 go_ret
 exact⟨_,rfl,hd,hb⟩
theorem Qma(b0 b g:Nat)(R:Room5)(fr:List Int)(tb:List S117)(fs:List Int)(fsv:Value)(sz:Nat)(w:World)(hI:IsBd w b0 g R fr tb)(hF:R8 w b fsv fs)(hbw:b≤w.heap.size)(hsz:Qam.f R.1 R.2.1=some (sz:Int))(hle:fs.length≤sz)(hs2:sz≤70368744177664) :
  Calls Tryz.prog 69 #[.pointer (some ⟨g,0,none⟩),fsv] w fun e w'=>∃v:Value,e=.returned v∧R8 w' b v (fs++List.replicate (sz-fs.length) 255)∧Below b w w':=by
 obtain⟨fv,tv,hv,hR,hT⟩:=hI
 obtain⟨A,n,c,rfl,hn,hlc,hC⟩:=R8.reads hF
 have hnf:n=fs.length:=hn.out
 have hc0:w.cell? ⟨g,0,none⟩=some (.int .u8 R.1):=(Qct hv 0).trans rfl
 have hc1:w.cell? ⟨g,1,none⟩=some (.int .u32 R.2.1):=(Qct hv 1).trans rfl
 have hu:=Tryz.underlying27
 have hu2:=Tryz.underlying47
 have hu3:=Tryz.underlying108
 have hnsz:n≤sz:=by omega
 have hsub:IntKind.i64.wrap ((sz:Int)-(n:Int))=((sz-n:Nat):Int):=by rw[IntWalk.i64_in _ (by omega)];omega
 have hsub2:(sz:Int)-(n:Int)=((sz-n:Nat):Int):=by omega
 obtain⟨k,hk⟩:∃k,k=sz-n:=⟨_,rfl⟩
 rw[← hk]at hsub hsub2
 have HK:=QA hk
 have HSZ:=QA hsz
 have HF:=QA hF
 have HNF:=QA hnf
 clear hk hsz hF hnf
 go_enter Tryz.func69,Tryz.ntmps69
 go_wp2_with (first
  |(go_at_call 78;refine(Qam.calls _ _ _ _ HSZ.out).mono ?_;rintro e w1 ⟨rfl,hb1⟩)
  |(go_at_call 120;go_loud (refine(Qlx _ _ 255 k _ (by have:=HK.out;omega) ?hrep).mono ?_;(case hrep=>exact Kd.C_of_reads (d:=(0:Int)) ⟨rfl,by omega,fun _=>⟨_,rfl,fun j hj=>by(obtain rfl:j=0:=(by omega));exact(Qct (Qdh w1 _) 0).trans rfl⟩⟩);rintro e w2 ⟨A2,c2,rfl,hkc2,hC2,hb2⟩))
  |(at_builtin;refine Kd.R_append_rows (Kd.int .u8) (Rr:=fun x cs=>cs=[.int .u8 x]) (w0:=w) b rfl (.tmp 15) (.tmp 18) 52 5 (.int .u8 0) 1 rfl Tryz.underlying52 Qhj rfl (by decide) (by omega) (.slice A n c) fs (List.replicate k 255) A2 k c2 (fun _=>True) (fun _=>False) rfl rfl ?bO hC2 (fun _ _ h=>h) (fun _ hk=>hk.elim) (fun _ _=>trivial) ?bB ?bS ?bL ?_;(case bO=>exact R8.kept (R8.kept (R8.kept HF.out hb1) (Qbw (Below.refl _ _) _)) hb2);(case bB=>exact((Qia hb1 hbw).trans (Qia (Qbw (Below.refl w1.heap.size w1) _) (Nat.le_trans hbw hb1.size))).trans (Qia hb2 (by rw[World.size_alloc];have:=hb1.size;omega)););(case bS=>have h1:=hb1.size;have h2:=hb2.size;rw[World.size_alloc]at h2;omega);(case bL=>have:=HK.out;have:=HNF.out;omega);intro v3 w3 HR3 hb3 hg3 hat3))
 go_ret
 refine⟨v3,rfl,?_,hb3⟩
 have e1:k=sz-fs.length:=by rw[HK.out,HNF.out]
 rw[← e1]
 exact HR3
theorem Qmb(b g:Nat)(R:Room5)(fr:List Int)(tb:List S117)(sz:Nat)(w:World)(hI:IsBd w b g R fr tb)(hsz:Qam.f R.1 R.2.1=some (sz:Int))(hle:fr.length≤sz)(hs2:sz≤70368744177664) :
  Calls Tryz.prog 30 #[.pointer (some ⟨g,0,none⟩)] w fun e w'=>∃v:Value,e=.returned v∧R8 w' w.heap.size v (fr++List.replicate (sz-fr.length) 255)∧Below w.heap.size w w':=by
 go_enter Tryz.func30,Tryz.ntmps30
 go_wp2_with (first
  |(go_at_call 29;refine(Qlz b g R fr tb w hI (by omega)).mono ?_;rintro e w1 ⟨v1,rfl,hR1,hb1⟩)
  |(go_at_call 69;refine(Qma b w.heap.size g R fr tb fr v1 sz w1 (hI.kept hb1) hR1 hb1.size hsz hle hs2).mono ?_;rintro e w2 ⟨v2,rfl,hR2,hb2⟩))
 go_ret
 exact⟨v2,rfl,hR2,hb1.trans hb2⟩
def Qmc(W:World)(g:Nat)(R:Room5)(fv tv:Value):Prop:=W.heap[g]? = some (.cells #[.int .u8 R.1,.int .u32 R.2.1,.int .u32 R.2.2.1,.int .i64 R.2.2.2.1,.int .i64 R.2.2.2.2,fv,tv] 108 (0,0))
theorem Qmd{W:World}{g:Nat}{R:Room5}{fv tv:Value}(h:Qmc W g R fv tv) :
  W.cell? ⟨g,0,none⟩=some (.int .u8 R.1)∧W.cell? ⟨g,1,none⟩=some (.int .u32 R.2.1)∧W.cell? ⟨g,2,none⟩=some (.int .u32 R.2.2.1)∧W.cell? ⟨g,3,none⟩=some (.int .i64 R.2.2.2.1)∧W.cell? ⟨g,4,none⟩=some (.int .i64 R.2.2.2.2)∧W.cell? ⟨g,5,none⟩=some fv∧W.cell? ⟨g,6,none⟩=some tv :=
 ⟨(Qct h 0).trans rfl,(Qct h 1).trans rfl,(Qct h 2).trans rfl,(Qct h 3).trans rfl,(Qct h 4).trans rfl,(Qct h 5).trans rfl,(Qct h 6).trans rfl⟩
theorem Qme:(Tryz.prog.info? 117).map (fun i=>(i.zero,i.size,i.bytes))=some (some (.agg #[.int .u64 0,.int .u32 0]),2,16):=by kernel_rfl
theorem bd_set5{W:World}{b g:Nat}{R:Room5}(R':Room5){fv tv:Value}{fr:List Int}{tb:List S117}(hv:Qmc W g R fv tv)(hR:R8 W b fv fr)(hT:Kd.R k117 117 W b (fun _=>True) tv tb)(hbg:b≤g) :
  ∃W',W'=(((((W.setCell ⟨g,0,none⟩ (.int .u8 R'.1)).setCell ⟨g,1,none⟩ (.int .u32 R'.2.1)).setCell ⟨g,2,none⟩ (.int .u32 R'.2.2.1)).setCell ⟨g,3,none⟩ (.int .i64 R'.2.2.2.1)).setCell ⟨g,4,none⟩ (.int .i64 R'.2.2.2.2)) ∧
   Qmc W' g R' fv tv∧R8 W' b fv fr∧Kd.R k117 117 W' b (fun _=>True) tv tb∧Below b W W'∧∀k,k≠g→W'.heap[k]? = W.heap[k]?:=by
 have ht:∀q,q∈117 :: (k117).E→q≠108:=by decide
 have b1:=Qcq hv 0 (.int .u8 R'.1)
 have b2:=Qcq b1 1 (.int .u32 R'.2.1)
 have b3:=Qcq b2 2 (.int .u32 R'.2.2.1)
 have b4:=Qcq b3 3 (.int .i64 R'.2.2.2.1)
 have b5:=Qcq b4 4 (.int .i64 R'.2.2.2.2)
 refine⟨_,rfl,b5,?_,?_,?_,fun k hk=>?_⟩
 ·exact R8.set (R8.set (R8.set (R8.set (R8.set hR hv (by decide) 0 _) b1 (by decide) 1 _) b2 (by decide) 2 _) b3 (by decide) 3 _) b4 (by decide) 4 _
 ·exact Kd.R_set (Kd.R_set (Kd.R_set (Kd.R_set (Kd.R_set hT hv ht 0 _) b1 ht 1 _) b2 ht 2 _) b3 ht 3 _) b4 ht 4 _
 ·exact Qhz (Qhz (Qhz (Qhz (Qhz (Below.refl _ _) hbg) hbg) hbg) hbg) hbg
 ·rw[Below.heap_setCell _ _ _ k hk,Below.heap_setCell _ _ _ k hk,Below.heap_setCell _ _ _ k hk,Below.heap_setCell _ _ _ k hk,Below.heap_setCell _ _ _ k hk]
def Tb(g:Nat)(w w':World):Prop:=∀k cs t,w.heap[k]? = some (.cells cs t (0,0))→t≠5→t≠117→k≠g→w'.heap[k]? = some (.cells cs t (0,0))
theorem Tb.below{g:Nat}{w w':World}(h:Below w.heap.size w w'):Tb g w w':=fun _ _ _ h1 _ _ _=>Qdg h1 h
theorem Tb.trans{g:Nat}{a b c:World}(h:Tb g a b)(k:Tb g b c):Tb g a c:=fun _ _ _ h1 h2 h3 h4=>k _ _ _ (h _ _ _ h1 h2 h3 h4) h2 h3 h4
theorem Tb.set{g j:Nat}{w W:World}(h:Tb g w W)(v:Value):Tb g w (W.setCell ⟨g,j,none⟩ v):=fun _ _ _ h1 h2 h3 h4=>Qcr (h _ _ _ h1 h2 h3 h4) h4 v
theorem Tb.grown{g q:Nat}{w W W':World}{row:Option Nat}(h:Tb g w W)(hg:W.grownBy W' row)(hty:∀k,row=some k→∃cells,W.heap[k]? = some (.cells cells q (0,0)))(hq:q=5∨q=117):Tb g w W':=fun k cs t h1 h2 h3 h4=>by
 have h5:=h _ _ _ h1 h2 h3 h4
 refine Qcv h5 hg (fun e=>?_)
 obtain⟨cells,hc⟩:=hty k e.symm
 rw[hc]at h5
 injection h5 with h5
 injection h5 with _ h5
 rcases hq with hq|hq
 ·exact h2 (h5.symm.trans hq)
 ·exact h3 (h5.symm.trans hq)
theorem bd_Add(b g:Nat)(R R':Room5)(fr F:List Int)(tb:List S117)(d:Bool)(s:Int)(key v:ByteArray)(w:World)(hI:IsBd w b g R fr tb)(hbg:b≤g)(hbw:b≤w.heap.size)
  (hchk:chk d key v=0) (hput:Qaw.f d s key v=some (F,0)) (htl:Qbk.f R.1 R.2.1 F.length=some false) (htk:Qbj.f R.1 R.2.1 R.2.2.1 R.2.2.2.1 R.2.2.2.2 F.length=some (R'.1,R'.2.1,R'.2.2.1,R'.2.2.2.1,R'.2.2.2.2,0))
  (hl:fr.length+F.length≤70368744177664) (hk:key.size≤70368744177664) (ht:tb.length≤1099511627776) :
  Calls Tryz.prog 21 #[.pointer (some ⟨g,0,none⟩),.agg #[.bool d,.int .u64 s,.string key,.string v]] w fun e w'=>e=.returned (.tuple #[.int .u32 ((fr.length:Int)%4294967296),.int .i64 0])∧IsBd w' b g R' (fr++F) (tb++[⟨Qjx 0 (bytesOf key),(fr.length:Int)%4294967296⟩])∧Below b w w'∧Tb g w w':=by
 have hu:=Tryz.underlying39
 have hu1:=Tryz.underlying27
 have hu2:=Tryz.underlying47
 have hu3:=Tryz.underlying108
 obtain⟨fv,tv,hv,hR,hT⟩:=hI
 obtain⟨AT,nT,cT,rfl⟩:∃A n c,tv=.slice A n c:=by
  obtain⟨A,c,e⟩:=Kd.R_slice hT
  exact⟨A,_,c,e⟩
 obtain⟨A,n,c,rfl,hn,hlc,hC⟩:=R8.reads hR
 have hv':Qmc w g R (.slice A n c) (.slice AT nT cT):=hv
 have hgw:g<w.heap.size:=Qcs hv
 have hcheck:=Qlf d s key v
 rw[hchk]at hcheck
 have HCK:=QA hcheck
 have HPU:=QA hput
 have HTL:=QA htl
 have HTK:=QA htk
 have HR:=QA hR
 have HT:=QA hT
 have HV:=QA hv'
 have hn0:=hn
 clear hcheck hput htl htk hchk hR hT hv hC hn hv'
 have hba:Below w.heap.size w (w.alloc (.cells #[.bool d,.int .u64 s,.string key,.string v] 39)):=Qbw (Below.refl _ _) _
 have hbn:=Qdh w (.cells #[.bool d,.int .u64 s,.string key,.string v] 39)
 go_enter Tryz.func21,Tryz.ntmps21
 go_upto_region 12 with(first
  |(go_at_call 56;refine(Qbm.calls 1 _ s key v 0 _ HCK.out).mono ?_;rintro e w1 ⟨rfl,hb1⟩;have hB1:=QA (Qbz hba hba.size hb1);have hk1:=Qdg hbn hb1;obtain⟨c0,c1,c2,c3⟩:=box4 hk1)
  |(go_at_call 57;refine(Qaw.calls _ s key v F 0 _ HPU.out).mono ?_;rintro e w2 ⟨vF,rfl,hRF,hb2⟩;have hB2:=QA (Qbz hB1.out hB1.out.size hb2);have hk2:=Qdg hk1 hb2;obtain⟨AF,nF,cF,rfl,hnF,hlF,hCF⟩:=R8.reads hRF;have hv2:Qmc w2 g R (.slice A n c) (.slice AT nT cT):=Qdg HV.out hB2.out;obtain⟨g0,g1,g2,g3,g4,g5,g6⟩:=Qmd hv2;clear c0 c1 c2 c3)
  |(go_at_call 58;refine(Qbk.calls _ _ _ false _ (by rw[hnF.out];exact HTL.out)).mono ?_;rintro e w3 ⟨rfl,hb3⟩;have hB3:=QA (Qbz hB2.out hB2.out.size hb3);have hk3:=Qdg hk2 hb3;have hv3:Qmc w3 g R (.slice A n c) (.slice AT nT cT):=Qdg HV.out hB3.out;obtain⟨h0,h1,h2,h3,h4,h5,h6⟩:=Qmd hv3;clear g0 g1 g2 g3 g4 g5 g6)
  |(go_at_call 59;refine(Qbj.calls _ _ _ _ _ _ _ _ _ _ _ _ _ (by rw[hnF.out];exact HTK.out)).mono ?_;rintro e w4 ⟨rfl,hb4⟩;have hB4:=QA (Qbz hB3.out hB3.out.size hb4);have hk4:=Qdg hk3 hb4;have hv4:Qmc w4 g R (.slice A n c) (.slice AT nT cT):=Qdg HV.out hB4.out;have hv5:Qmc (w4.alloc (.cells #[.int .u8 R'.1,.int .u32 R'.2.1,.int .u32 R'.2.2.1,.int .i64 R'.2.2.2.1,.int .i64 R'.2.2.2.2] 47)) g R (.slice A n c) (.slice AT nT cT):=Qdd hv4 _;obtain⟨i0,i1,i2,i3,i4,i5,i6⟩:=Qmd hv5;have f0:=Qcu hv5 0;have f1:=Qcu hv5 1;have f2:=Qcu hv5 2;have f3:=Qcu hv5 3;have f4:=Qcu hv5 4;have f5:=Qcu hv5 5;clear h0 h1 h2 h3 h4 h5 h6))
 have hv5:Qmc (w4.alloc (.cells #[.int .u8 R'.1,.int .u32 R'.2.1,.int .u32 R'.2.2.1,.int .i64 R'.2.2.2.1,.int .i64 R'.2.2.2.2] 47)) g R (.slice A n c) (.slice AT nT cT):=Qdd hv4 _
 have hb5:Below w4.heap.size w4 (w4.alloc (.cells #[.int .u8 R'.1,.int .u32 R'.2.1,.int .u32 R'.2.2.1,.int .i64 R'.2.2.2.1,.int .i64 R'.2.2.2.2] 47)):=Qbw (Below.refl _ _) _
 have hB5:=Qbz hB4.out hB4.out.size hb5
 obtain⟨W6,hW6,hv6,hR6,hT6,hb6,hk6⟩:=bd_set5 R' hv5 (R8.kept HR.out hB5) (Kd.R_below HT.out hB5) hbg
 have K6:Aside0 (Tb g w W6):=⟨fun k cs t h1 _ _ h4=>(hk6 k h4).trans (Qdg h1 hB5)⟩
 rw[← hW6]
 have hs6:w4.heap.size≤W6.heap.size:=Nat.le_trans hb5.size hb6.size
 clear hW6 i0 i1 i2 i3 i4 i5 i6 f0 f1 f2 f3 f4 f5
 obtain⟨m0,m1,m2,m3,m4,m5,m6⟩:=Qmd hv6
 have hg1:g<w1.heap.size:=Nat.lt_of_lt_of_le hgw hB1.out.size
 have hRF5:=R8.kept (R8.kept (R8.kept hRF hb3) hb4) hb5
 have hRF6:R8 W6 w1.heap.size (.slice AF nF cF) F:=Kd.R_mono (Kd.R_step (Kd.R_bound hRF5) (fun k hk _=>hk6 k (by have:=hk.2.1;omega))) (fun _ _=>trivial)
 have hCF6:Kd.C (Kd.int .u8) W6 AF nF F:=by
  have h:=Kd.R_reads' hRF6
  rw[h.1]
  exact h.2.2
 have hB6:=QA ((Qia hB5 hbw).trans hb6)
 have hz6:b≤W6.heap.size:=Nat.le_trans hbw hB6.out.size
 clear hRF5 hRF6 hRF
 go_wp2_with (first
  |(at_builtin;go_loud (refine Kd.R_append_rows (Kd.int .u8) (Rr:=fun x cs=>cs=[.int .u8 x]) (w0:=W6) b rfl (.tmp 57) (.tmp 58) 52 5 (.int .u8 0) 1 rfl Tryz.underlying52 Qhj rfl (by decide) (by omega) (.slice A n c) fr F AF nF cF (fun _=>True) (fun _=>False) rfl rfl hR6 hCF6 (fun _ _ h=>h) (fun _ hk=>hk.elim) (fun _ _=>trivial) (Below.refl _ _) hz6 ?bL ?_;(case bL=>have:=hnF.out;omega);intro v7 w7 HR7 hb7 hg7 hat7;obtain⟨A7,n7,c7,rfl⟩:=R8.shape HR7;have hv7:Qmc w7 g R' (.slice A n c) (.slice AT nT cT):=Qcv hv6 hg7 (R8.clean hR6 hv6 (by decide));obtain⟨p0,p1,p2,p3,p4,p5,p6⟩:=Qmd hv7;have f5:=Qcu hv7 5;clear m0 m1 m2 m3 m4 m5 m6)))
 have K7:=QA (Tb.grown K6.out hg7 (Kd.R_typed hR6) (.inl rfl))
 have hgB:w.heap.size≠g:=by omega
 have q5:=Qdd hk4 (.cells #[.int .u8 R'.1,.int .u32 R'.2.1,.int .u32 R'.2.2.1,.int .i64 R'.2.2.2.1,.int .i64 R'.2.2.2.2] 47)
 have q6:=(hk6 _ hgB).trans q5
 have q7:=Qcv q6 hg7 (R8.clean hR6 q6 (by decide))
 have hT7:=Kd.R_over' hT6 (Kd.R_typed hR6) (by decide) hg7
 have ht:∀q,q∈117 :: (k117).E→q≠108:=by decide
 obtain⟨W8,hW8⟩:∃W8,W8=w7.setCell ⟨g,5,none⟩ (.slice A7 n7 c7):=⟨_,rfl⟩
 have q8:W8.heap[w.heap.size]? = some (.cells #[.bool d,.int .u64 s,.string key,.string v] 39 (0,0)):=by rw[hW8];exact Qcr q7 hgB _
 have hv8:Qmc W8 g R' (.slice A7 n7 c7) (.slice AT nT cT):=by rw[hW8];exact Qcq hv7 5 _
 have hR8:R8 W8 b (.slice A7 n7 c7) (fr++F):=by rw[hW8];exact R8.set HR7 hv7 (by decide) 5 _
 have hT8:Kd.R k117 117 W8 b (fun _=>True) (.slice AT nT cT) tb:=by rw[hW8];exact Kd.R_set hT7 hv7 ht 5 _
 have hB8:Aside0 (Below b w W8):=⟨by rw[hW8];exact Qhz (hB6.out.trans hb7) hbg⟩
 have K8:Aside0 (Tb g w W8):=⟨by rw[hW8];exact K7.out.set _⟩
 rw[← hW8]
 clear hW8
 have HR8:=QA hR8
 have HT8:=QA hT8
 clear hR8 hT8 hT7 hT6 hR6 HR7 q5 q6 q7 hv7
 obtain⟨r0,r1,r2,r3⟩:=box4 q8
 obtain⟨s0,s1,s2,s3,s4,s5,s6⟩:=Qmd hv8
 have hz8:b≤W8.heap.size:=Nat.le_trans hbw hB8.out.size
 clear p0 p1 p2 p3 p4 p5 p6
 have hnn:n=fr.length:=hn0.out
 have HNN:=QA hnn
 clear hnn
 go_region_law (first
  |(go_simp;go_at_call 60;refine(hash_of key W8.drew (by omega)).mono ?_;rintro e w9 ⟨rfl,hb9⟩;have hv9:Qmc w9 g R' (.slice A7 n7 c7) (.slice AT nT cT):=Qdg (w:=W8.drew) hv8 hb9;have hB9:Aside0 (Below b w w9):=⟨(hB8.out.trans (Qbx (Below.refl _ _))).trans (Qia hb9 hz8)⟩;have K9:=QA (K8.out.trans (Tb.below (w:=W8.drew) hb9));have HR9:=QA (R8.kept (W:=W8.drew) HR8.out hb9);have HT9:=QA (Kd.R_below (w:=W8.drew) HT8.out hb9);obtain⟨u0,u1,u2,u3,u4,u5,u6⟩:=Qmd hv9;have a6:∀o,(w9.alloc o).cell? ⟨g,6,none⟩=some (.slice AT nT cT):=(fun o=>(Qmd (Qdd hv9 o)).2.2.2.2.2.2))
  |(refine Kd.R_append_step k117 (w0:=w) b (by rfl) (.tmp 66) (.tmp 72) 106 117 (.agg #[(.int .u64 0),(.int .u32 0)]) 16 rfl Tryz.underlying106 Qme rfl (by decide) (by omega) (.slice AT nT cT) tb (⟨Qjx 0 (bytesOf key),(n:Int)%4294967296⟩:S117) [.int .u64 (Qjx 0 (bytesOf key)),.int .u32 ((n:Int)%4294967296)] (fun _=>True) (fun _=>False) rfl ?ax ?aP (fun _ hk=>hk.elim) (fun _ _=>trivial) ?aO hB9.out ?aS ?aL ?_;(case ax=>rfl);(case aP=>exact Qhs _ _ _ (⟨Qjx 0 (bytesOf key),(n:Int)%4294967296⟩:S117));(case aO=>exact HT9.out);(case aS=>exact Nat.le_trans hbw hB9.out.size);(case aL=>omega);intro v10 w10 HR10 hb10 hg10 hat10;obtain⟨A10,n10,c10,rfl⟩:∃A n c,v10=.slice A n c:=(by obtain⟨A,c,e⟩:=Kd.R_slice HR10;exact⟨A,_,c,e⟩);have hv10:Qmc w10 g R' (.slice A7 n7 c7) (.slice AT nT cT):=Qcv hv9 hg10 (Kd.R_ne HT9.out hv9 (by decide));have K10:=QA (Tb.grown K9.out hg10 (Kd.R_typed HT9.out) (.inr rfl));have HR10':=QA (Kd.R_over' HR9.out (Kd.R_typed HT9.out) (by decide) hg10);obtain⟨x0,x1,x2,x3,x4,x5,x6⟩:=Qmd hv10;have fx:=Qcu hv10 6;clear u0 u1 u2 u3 u4 u5 u6 a6))
 all_goals
  go_wp2
  refine bodyPost_ret (results_tmp2 rfl _ _ _) rfl ?_
  refine⟨by(rw[← HNN.out];rfl),⟨_,_,Qcq hv10 6 _,R8.set HR10'.out hv10 (by decide) 6 _,?_⟩,Qhz hb10 hbg,K10.out.set _⟩
  rw[← HNN.out]
  exact Kd.R_set HR10 hv10 ht 6 _
def h12:List Int:=[5,1,2,12,1,9,239,228,35,222,95,189,149,23,0]
theorem head12:Qav.f 12 1 0=some (h12,0):=by kernel_rfl
theorem empty12:Qbf.f 12 1 0=some (12,1,0,15,0,0):=by kernel_rfl
theorem size12:Qam.f 12 1=some ((4096:Nat):Int):=by kernel_rfl
def o12:List Int:=h12++List.replicate (4096-h12.length) 255
theorem o12_at:o12.length=4096∧rd o12 14=0∧rd o12 15=255∧rd o12 4095=255:=⟨by kernel_rfl,by kernel_rfl,by kernel_rfl,by kernel_rfl⟩
def Qap.f:Option Bool:=some true
theorem Qap.calls(r:Bool)(w:World)(h:Qap.f=some r) :
  Calls Tryz.prog 15 #[] w fun e w'=>e=.returned (.bool r)∧Below w.heap.size w w':=by
 obtain rfl:=Option.some.inj h
 have hu:=Tryz.underlying27
 go_enter Tryz.func15,Tryz.ntmps15
 go_wp2_with (first
  |(go_at_call 18;refine(Qly 12 1 0 15 0 h12 w empty12 head12).mono ?_;rintro e w1 ⟨g,rfl,hI1,hb1,hg1⟩)
  |(go_at_call 30;go_loud (refine(Qmb w.heap.size g (12,1,0,15,0) h12 [] 4096 w1 hI1 size12 (by decide) (by decide)).mono ?_;rintro e w2 ⟨v2,rfl,hR2,hb2⟩;obtain⟨A2,n2,c2,rfl,hn2,hlc2,hC2⟩:=R8.reads hR2;have hn2':n2=4096:=hn2.out.trans o12_at.1;subst hn2';obtain⟨ad,rfl,x14⟩:=Kd.at_int hC2 14 (by decide) (by decide);obtain⟨ad',hh,x15⟩:=Kd.at_int hC2 15 (by decide) (by decide);cases hh;obtain⟨ad',hh,x4095⟩:=Kd.at_int hC2 4095 (by decide) (by decide);cases hh;have y14:w2.cell? ⟨ad.block,ad.off+14,none⟩=some (.int .u8 0):=x14.trans (congrArg (fun z=>some (Value.int .u8 z)) o12_at.2.1);have y15:w2.cell? ⟨ad.block,ad.off+15,none⟩=some (.int .u8 255):=x15.trans (congrArg (fun z=>some (Value.int .u8 z)) o12_at.2.2.1);have y4095:w2.cell? ⟨ad.block,ad.off+4095,none⟩=some (.int .u8 255):=x4095.trans (congrArg (fun z=>some (Value.int .u8 z)) o12_at.2.2.2);clear x14 x15 x4095)))
 go_ret
 exact⟨rfl,hb1.trans (Qia hb2 hb1.size)⟩
end Go.Proofs.YtnnofopfbeklbaaGreat.C
end
