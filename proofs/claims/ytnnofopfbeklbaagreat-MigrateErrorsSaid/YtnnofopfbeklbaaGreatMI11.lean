/- Texts of this claim's author and of the print of its functions, merged by merge.py. -/
import Derived.Test.YtnnofopfbeklbaaGreatMI02
import Derived.Test.YtnnofopfbeklbaaGreatMI10
import Derived.Test.YtnnofopfbeklbaaGreatMI04
set_option linter.unusedVariables false
set_option linter.unusedSimpArgs false
set_option maxHeartbeats 8000000
set_option maxRecDepth 100000
section
namespace Go.Proofs.YtnnofopfbeklbaaGreat.C
open Go.RowKit Go.Proofs.YtnnofopfbeklbaaGreatW.PrintWords Go.Proofs.YtnnofopfbeklbaaGreatW.PrintLast Go.Proofs.YtnnofopfbeklbaaGreatW.PrintMore
attribute [local go_sem] Qgv Qgw Qgx Qgy Qgz Qha Qhb Qhc
def Qbg.l0:Nat→List Int→List Int→Int→Int→Int→Int→Int→Int→Int→Int→Int→Int→Int→Int→Int→Int→Option (List Int × Int)
 | 0,_,_,_,_,_,_,_,_,_,_,_,_,_,_,_,_=>none
 | k+1,x10,x29,x30,x31,x151000,x151001,x158000,x158001,x158002,x158003,x158004,x165000,x165001,x165002,x165003,x165004=>if x31<x30 then(if 0≤x31 then(if x31<(x29.length:Int)then((Qbh.f x165000 x165001 x165002 x165003 x165004 (rd x29 x31)).bind fun t166=>(if t166=true then((Qbh.f x158000 x158001 x158002 x158003 x158004 (rd x29 x31)).bind fun t167=>(if t167=true then((Qbj.f x158000 x158001 x158002 x158003 x158004 (rd x29 x31)).bind fun bt168=>(if x10.length<35184372088832 then(Qbg.l0 k (x10++[bt168.2.2.1]) x29 x30 (wrap64 (x31+1)) x151000 x151001 bt168.1 bt168.2.1 bt168.2.2.1 bt168.2.2.2.1 bt168.2.2.2.2.1 x165000 x165001 x165002 x165003 x165004)else(none)))else((Qbf.f x151000 x151001 ((x158002+1)%4294967296)).bind fun bt177=>(if bt177.2.2.2.2.2=0 then((Qbj.f bt177.1 bt177.2.1 bt177.2.2.1 bt177.2.2.2.1 bt177.2.2.2.2.1 (rd x29 x31)).bind fun bt183=>(if x10.length<35184372088832 then(Qbg.l0 k (x10++[bt183.2.2.1]) x29 x30 (wrap64 (x31+1)) x151000 x151001 bt183.1 bt183.2.1 bt183.2.2.1 bt183.2.2.2.1 bt183.2.2.2.2.1 x165000 x165001 x165002 x165003 x165004)else(none)))else(some (([]:List Int),7))))))else(some (([]:List Int),6))))else(none))else(none))else(some (x10,0))
def Qbg.f(k:Nat)(a0_0:Int)(a0_1:Int)(l1:List Int):Option (List Int × Int):=(Qbf.f a0_0 a0_1 0).bind fun bt151=>(if bt151.2.2.2.2.2=0 then((Qbf.f a0_0 a0_1 ((a0_1-1)%4294967296)).bind fun bt158=>(Qbg.l0 k ([]:List Int) l1 (l1.length:Int) 0 a0_0 a0_1 bt151.1 bt151.2.1 bt151.2.2.1 bt151.2.2.2.1 bt151.2.2.2.2.1 bt158.1 bt158.2.1 bt158.2.2.1 bt158.2.2.2.1 bt158.2.2.2.2.1))else(some (([]:List Int),bt151.2.2.2.2.2)))
theorem Qbg.calls (k:Nat) (a0_0:Int) (a0_1:Int) (A1:Option Addr) (c1:Nat) (l1:List Int) (r1:List Int) (r2:Int) (w:World) (hr1:Kd.C (Kd.int .i64) w A1 l1.length l1) (hc1:l1.length≤c1) (h:Qbg.f k a0_0 a0_1 l1=some (r1,r2)) :
  Calls Tryz.prog 125 #[.agg #[.int .u8 a0_0,.int .u32 a0_1],.slice A1 l1.length c1] w fun e w'=>∃v0_:Value,e=.returned (.tuple #[v0_,.int .i64 r2])∧Kd.R (Kd.int .u32) 22 w' w.heap.size (fun _=>True) v0_ r1∧Below w.heap.size w w':=by
 have hu27:=Tryz.underlying27
 have hu47:=Tryz.underlying47
 have HR1:=QA hr1
 have HC1:=QA hc1
 clear hr1 hc1
 have HB:=QA (Below.refl w.heap.size w)
 have H:((Qbf.f a0_0 a0_1 0).bind fun bt151=>(if bt151.2.2.2.2.2=0 then((Qbf.f a0_0 a0_1 ((a0_1-1)%4294967296)).bind fun bt158=>(Qbg.l0 k ([]:List Int) l1 (l1.length:Int) 0 a0_0 a0_1 bt151.1 bt151.2.1 bt151.2.2.1 bt151.2.2.2.1 bt151.2.2.2.2.1 bt158.1 bt158.2.1 bt158.2.2.1 bt158.2.2.2.1 bt158.2.2.2.2.1))else(some (([]:List Int),bt151.2.2.2.2.2))))=some (r1,r2):=h
 clear h
 replace H:=Option.bind_eq_some_iff.mp H
 obtain⟨⟨t151,t152,t153,t154,t155,t156⟩,A30,H⟩:=H
 replace H:(if t156=0 then((Qbf.f a0_0 a0_1 ((a0_1-1)%4294967296)).bind fun bt158=>(Qbg.l0 k ([]:List Int) l1 (l1.length:Int) 0 a0_0 a0_1 t151 t152 t153 t154 t155 bt158.1 bt158.2.1 bt158.2.2.1 bt158.2.2.2.1 bt158.2.2.2.2.1))else(some (([]:List Int),t156)))=some (r1,r2):=H
 have A3:=QA A30
 clear A30
 by_cases c4:t156=0
 ·rw [if_pos c4]at H
  have c4b0:(t156 == 0)=true:=beq_iff_eq.mpr c4
  have c4b1:(t156 != 0)=false:=bne_eq_false_iff_eq.mpr c4
  clear c4
  replace H:=Option.bind_eq_some_iff.mp H
  obtain⟨⟨t158,t159,t160,t161,t162,t163⟩,A50,H⟩:=H
  replace H:(Qbg.l0 k ([]:List Int) l1 (l1.length:Int) 0 a0_0 a0_1 t151 t152 t153 t154 t155 t158 t159 t160 t161 t162)=some (r1,r2):=H
  have A5:=QA A50
  clear A50
  have H':=QA H
  clear H
  go_enter Tryz.func125,Tryz.ntmps125
  go_wp2_with (first |((with_reducible refine Qel (N:=2) rfl ?_);refine qq_e 2 #[.int .u8 a0_0,.int .u32 a0_1] 27 ?_;intro gb150 hg w6 hbox hb;have n0_:=QA (Qeb qq_b hb);have n1_:=QA (hbox);have n2_:=QA (qq_s hg:w.heap.size≤gb150);have n3_:=n2_;clear HB;have HB:=n0_;have BK150:=n1_;have GW150:=n2_;have GE150:=n3_;clear n0_ n1_ n2_ n3_ hb hbox hg;have hcz7_0:=qq_c (.int .u8 a0_0) BK150.out 0 rfl;have hcz7_1:=qq_c (.int .u32 a0_1) BK150.out 1 rfl;have hfz7_0:=Qcu BK150.out 0;have hfz7_1:=Qcu BK150.out 1) |((with_reducible refine Qhd (f:=52) rfl ?_);refine Qfk (some 15) rfl rfl Tryz.func52 qq_5 rfl #[.agg #[.int .u8 a0_0,.int .u32 a0_1],.int .u32 0] rfl qq_1 ?_;(with_reducible refine(Qbf.calls a0_0 a0_1 0 t151 t152 t153 t154 t155 t156 _ A3.out).mono ?_);rintro e w8 ⟨rfl,hb⟩;refine⟨_,rfl,?_⟩;have n0_:=QA (Qdg (g:=gb150) (o:=.cells #[.int .u8 a0_0,.int .u32 a0_1] 27 (0,0)) qq_0 hb);have n1_:=QA (Qeb qq_b hb);clear BK150 HB;have BK150:=n0_;have HB:=n1_;clear n0_ n1_;(try clear hb);(try clear hb2);(try clear hk);(try clear hi)) |((with_reducible refine Qel (N:=6) rfl ?_);refine qq_e 6 #[.int .u8 0,.int .u32 0,.int .u32 0,.int .i64 0,.int .i64 0] 47 ?_;intro gb157 hg w9 hbox hb;have n0_:=QA (Qdg (g:=gb150) (o:=.cells #[.int .u8 a0_0,.int .u32 a0_1] 27 (0,0)) qq_0 hb);have n1_:=QA (Qeb qq_b hb);have n2_:=QA (hbox);have n3_:=QA (qq_s hg:w.heap.size≤gb157);have n4_:=n3_;have n5_:=QA ((by rw[hg];exact Nat.ne_of_lt (Qcs (g:=gb150) (o:=.cells #[.int .u8 a0_0,.int .u32 a0_1] 27 (0,0)) qq_0):gb150≠gb157));have n6_:=QA ((by rw[hg];exact Nat.ne_of_gt (Qcs (g:=gb150) (o:=.cells #[.int .u8 a0_0,.int .u32 a0_1] 27 (0,0)) qq_0):gb157≠gb150));clear BK150 HB;have BK150:=n0_;have HB:=n1_;have BK157:=n2_;have GW157:=n3_;have GE157:=n4_;have NB150_157:=n5_;have NB157_150:=n6_;clear n0_ n1_ n2_ n3_ n4_ n5_ n6_ hb hbox hg;have hnb10:=NB157_150.out;have hnc10:=NB150_157.out;have hcz11_0:=qq_c (.int .u8 0) BK157.out 0 rfl;have hcz11_1:=qq_c (.int .u32 0) BK157.out 1 rfl;have hcz11_2:=qq_c (.int .u32 0) BK157.out 2 rfl;have hcz11_3:=qq_c (.int .i64 0) BK157.out 3 rfl;have hcz11_4:=qq_c (.int .i64 0) BK157.out 4 rfl;have hfz11_0:=Qcu BK157.out 0;have hfz11_1:=Qcu BK157.out 1;have hfz11_2:=Qcu BK157.out 2;have hfz11_3:=Qcu BK157.out 3;have hfz11_4:=Qcu BK157.out 4;have hcz12_0:=qq_c (.int .u8 a0_0) BK150.out 0 rfl;have hcz12_1:=qq_c (.int .u32 a0_1) BK150.out 1 rfl;have hfz12_0:=Qcu BK150.out 0;have hfz12_1:=Qcu BK150.out 1) |((with_reducible refine Qhd (f:=52) rfl ?_);refine Qfk (some 26) rfl rfl Tryz.func52 qq_5 rfl #[.agg #[.int .u8 a0_0,.int .u32 a0_1],.int .u32 ((a0_1-1)%4294967296)] rfl qq_1 ?_;(with_reducible refine(Qbf.calls a0_0 a0_1 ((a0_1-1)%4294967296) t158 t159 t160 t161 t162 t163 _ A5.out).mono ?_);rintro e w13 ⟨rfl,hb⟩;refine⟨_,rfl,?_⟩;have n0_:=QA (Qdg (g:=gb150) (o:=.cells #[.int .u8 a0_0,.int .u32 a0_1] 27 (0,0)) qq_7 hb);have n1_:=QA (Qdg (g:=gb157) (o:=.cells #[.int .u8 t151,.int .u32 t152,.int .u32 t153,.int .i64 t154,.int .i64 t155] 47 (0,0)) (by(with_reducible repeat(first|apply Qdf|apply Qde|apply Qdd));refine Qeg (cs:=#[.int .u8 t151,.int .u32 t152,.int .u32 t153,.int .i64 t154,.int .i64 0]) ?_ 4 _ rfl;(with_reducible repeat(first|apply Qdf|apply Qde|apply Qdd));refine Qeg (cs:=#[.int .u8 t151,.int .u32 t152,.int .u32 t153,.int .i64 0,.int .i64 0]) ?_ 3 _ rfl;(with_reducible repeat(first|apply Qdf|apply Qde|apply Qdd));refine Qeg (cs:=#[.int .u8 t151,.int .u32 t152,.int .u32 0,.int .i64 0,.int .i64 0]) ?_ 2 _ rfl;(with_reducible repeat(first|apply Qdf|apply Qde|apply Qdd));refine Qeg (cs:=#[.int .u8 t151,.int .u32 0,.int .u32 0,.int .i64 0,.int .i64 0]) ?_ 1 _ rfl;(with_reducible repeat(first|apply Qdf|apply Qde|apply Qdd));refine Qeg (cs:=#[.int .u8 0,.int .u32 0,.int .u32 0,.int .i64 0,.int .i64 0]) ?_ 0 _ rfl;(with_reducible repeat(first|apply Qdf|apply Qde|apply Qdd));exact BK157.out) hb);have n2_:=QA (Qeb qq_b hb);clear BK150 BK157 HB;have BK150:=n0_;have BK157:=n1_;have HB:=n2_;clear n0_ n1_ n2_;(try clear hb);(try clear hb2);(try clear hk);(try clear hi)) |((with_reducible refine Qel (N:=8) rfl ?_);refine qq_e 8 #[.int .u8 0,.int .u32 0,.int .u32 0,.int .i64 0,.int .i64 0] 47 ?_;intro gb164 hg w14 hbox hb;have n0_:=QA (Qdg (g:=gb150) (o:=.cells #[.int .u8 a0_0,.int .u32 a0_1] 27 (0,0)) qq_0 hb);have n1_:=QA (Qdg (g:=gb157) (o:=.cells #[.int .u8 t151,.int .u32 t152,.int .u32 t153,.int .i64 t154,.int .i64 t155] 47 (0,0)) qq_0 hb);have n2_:=QA (Qeb qq_b hb);have n3_:=QA (hbox);have n4_:=QA (qq_s hg:w.heap.size≤gb164);have n5_:=n4_;have n6_:=QA ((by rw[hg];exact Nat.ne_of_lt (Qcs (g:=gb150) (o:=.cells #[.int .u8 a0_0,.int .u32 a0_1] 27 (0,0)) qq_0):gb150≠gb164));have n7_:=QA ((by rw[hg];exact Nat.ne_of_gt (Qcs (g:=gb150) (o:=.cells #[.int .u8 a0_0,.int .u32 a0_1] 27 (0,0)) qq_0):gb164≠gb150));have n8_:=QA ((by rw[hg];exact Nat.ne_of_lt (Qcs (g:=gb157) (o:=.cells #[.int .u8 t151,.int .u32 t152,.int .u32 t153,.int .i64 t154,.int .i64 t155] 47 (0,0)) qq_0):gb157≠gb164));have n9_:=QA ((by rw[hg];exact Nat.ne_of_gt (Qcs (g:=gb157) (o:=.cells #[.int .u8 t151,.int .u32 t152,.int .u32 t153,.int .i64 t154,.int .i64 t155] 47 (0,0)) qq_0):gb164≠gb157));clear BK150 BK157 HB;have BK150:=n0_;have BK157:=n1_;have HB:=n2_;have BK164:=n3_;have GW164:=n4_;have GE164:=n5_;have NB150_164:=n6_;have NB164_150:=n7_;have NB157_164:=n8_;have NB164_157:=n9_;clear n0_ n1_ n2_ n3_ n4_ n5_ n6_ n7_ n8_ n9_ hb hbox hg;have hnb15:=NB164_150.out;have hnc15:=NB150_164.out;have hnb16:=NB164_157.out;have hnc16:=NB157_164.out;have hcz17_0:=qq_c (.int .u8 0) BK164.out 0 rfl;have hcz17_1:=qq_c (.int .u32 0) BK164.out 1 rfl;have hcz17_2:=qq_c (.int .u32 0) BK164.out 2 rfl;have hcz17_3:=qq_c (.int .i64 0) BK164.out 3 rfl;have hcz17_4:=qq_c (.int .i64 0) BK164.out 4 rfl;have hfz17_0:=Qcu BK164.out 0;have hfz17_1:=Qcu BK164.out 1;have hfz17_2:=Qcu BK164.out 2;have hfz17_3:=Qcu BK164.out 3;have hfz17_4:=Qcu BK164.out 4))
  go_loopg [10,31] k (fun kq v10 v31 w'=>∃(x10_1:List Int) (x31_1:Int) (x158000_1:Int) (x158001_1:Int) (x158002_1:Int) (x158003_1:Int) (x158004_1:Int),v31=.int .i64 x31_1∧Aside0 (Qbg.l0 kq x10_1 l1 (l1.length:Int) x31_1 a0_0 a0_1 x158000_1 x158001_1 x158002_1 x158003_1 x158004_1 t158 t159 t160 t161 t162=some (r1,r2))∧Aside0 (kq≤k)∧Aside0 (Kd.R (Kd.int .u32) 22 w' w.heap.size (fun _=>True) v10 x10_1)∧Aside0 (w'.heap[gb150]? = some (.cells #[.int .u8 a0_0,.int .u32 a0_1] 27 (0,0)))∧Aside0 (w'.heap[gb157]? = some (.cells #[.int .u8 x158000_1,.int .u32 x158001_1,.int .u32 x158002_1,.int .i64 x158003_1,.int .i64 x158004_1] 47 (0,0)))∧Aside0 (w'.heap[gb164]? = some (.cells #[.int .u8 t158,.int .u32 t159,.int .u32 t160,.int .i64 t161,.int .i64 t162] 47 (0,0)))∧Aside0 (Below w.heap.size w w'))
  case atStart=>exact⟨(([]:List Int)),(0),(t151),(t152),(t153),(t154),(t155),qq_9,H',⟨Nat.le_refl _⟩,⟨by first|exact Kd.R_nil _ _ _ _ _|exact Kd.N_nil _ _ _ _ _|exact Kd.V_nil _ _ _ _ _|exact Kd.Q_nil _ _ _ _ _|exact Kd.S_nil _ _ _ _ _⟩,⟨by(with_reducible repeat(first|apply Qdf|apply Qde|apply Qdd));refine Qcr ?_ NB150_164.out _;(with_reducible repeat(first|apply Qdf|apply Qde|apply Qdd));refine Qcr ?_ NB150_164.out _;(with_reducible repeat(first|apply Qdf|apply Qde|apply Qdd));refine Qcr ?_ NB150_164.out _;(with_reducible repeat(first|apply Qdf|apply Qde|apply Qdd));refine Qcr ?_ NB150_164.out _;(with_reducible repeat(first|apply Qdf|apply Qde|apply Qdd));refine Qcr ?_ NB150_164.out _;(with_reducible repeat(first|apply Qdf|apply Qde|apply Qdd));exact BK150.out⟩,⟨by(with_reducible repeat(first|apply Qdf|apply Qde|apply Qdd));refine Qcr ?_ NB157_164.out _;(with_reducible repeat(first|apply Qdf|apply Qde|apply Qdd));refine Qcr ?_ NB157_164.out _;(with_reducible repeat(first|apply Qdf|apply Qde|apply Qdd));refine Qcr ?_ NB157_164.out _;(with_reducible repeat(first|apply Qdf|apply Qde|apply Qdd));refine Qcr ?_ NB157_164.out _;(with_reducible repeat(first|apply Qdf|apply Qde|apply Qdd));refine Qcr ?_ NB157_164.out _;(with_reducible repeat(first|apply Qdf|apply Qde|apply Qdd));exact BK157.out⟩,⟨by(with_reducible repeat(first|apply Qdf|apply Qde|apply Qdd));refine Qeg (cs:=#[.int .u8 t158,.int .u32 t159,.int .u32 t160,.int .i64 t161,.int .i64 0]) ?_ 4 _ rfl;(with_reducible repeat(first|apply Qdf|apply Qde|apply Qdd));refine Qeg (cs:=#[.int .u8 t158,.int .u32 t159,.int .u32 t160,.int .i64 0,.int .i64 0]) ?_ 3 _ rfl;(with_reducible repeat(first|apply Qdf|apply Qde|apply Qdd));refine Qeg (cs:=#[.int .u8 t158,.int .u32 t159,.int .u32 0,.int .i64 0,.int .i64 0]) ?_ 2 _ rfl;(with_reducible repeat(first|apply Qdf|apply Qde|apply Qdd));refine Qeg (cs:=#[.int .u8 t158,.int .u32 0,.int .u32 0,.int .i64 0,.int .i64 0]) ?_ 1 _ rfl;(with_reducible repeat(first|apply Qdf|apply Qde|apply Qdd));refine Qeg (cs:=#[.int .u8 0,.int .u32 0,.int .u32 0,.int .i64 0,.int .i64 0]) ?_ 0 _ rfl;(with_reducible repeat(first|apply Qdf|apply Qde|apply Qdd));exact BK164.out⟩,⟨qq_b⟩⟩
  case round =>
   clear H'
   try clear c1
   try clear c4
   try clear c4b0
   try clear c4b1
   try clear hcz11_0
   try clear hcz11_1
   try clear hcz11_2
   try clear hcz11_3
   try clear hcz11_4
   try clear hcz12_0
   try clear hcz12_1
   try clear hcz17_0
   try clear hcz17_1
   try clear hcz17_2
   try clear hcz17_3
   try clear hcz17_4
   try clear hcz7_0
   try clear hcz7_1
   try clear hfz11_0
   try clear hfz11_1
   try clear hfz11_2
   try clear hfz11_3
   try clear hfz11_4
   try clear hfz12_0
   try clear hfz12_1
   try clear hfz17_0
   try clear hfz17_1
   try clear hfz17_2
   try clear hfz17_3
   try clear hfz17_4
   try clear hfz7_0
   try clear hfz7_1
   obtain⟨x10_1,x31_1,x158000_1,x158001_1,x158002_1,x158003_1,x158004_1,rfl,HA,HK1,HO_10,BK150,BK157,BK164,HB⟩:=hrel
   cases gk with
   | zero=>exact absurd HA.out (by simp[Qbg.l0])
   | succ k1 =>
    have H:=HA.out
    clear HA
    simp only[Qbg.l0]at H
    by_cases c18:x31_1<(l1.length:Int)
    ·rw [if_pos c18]at H
     have c18b0:decide (x31_1<(l1.length:Int))=true:=decide_eq_true c18
     clear c18
     by_cases c19:0≤x31_1
     ·rw [if_pos c19]at H
      have c19b0:decide (0≤x31_1)=true:=decide_eq_true c19
      clear c19
      by_cases c20:x31_1<(l1.length:Int)
      ·rw [if_pos c20]at H
       have c20b0:decide (x31_1<(l1.length:Int))=true:=decide_eq_true c20
       clear c20
       replace H:=Option.bind_eq_some_iff.mp H
       obtain⟨t166,A210,H⟩:=H
       replace H:(if t166=true then((Qbh.f x158000_1 x158001_1 x158002_1 x158003_1 x158004_1 (rd l1 x31_1)).bind fun t167=>(if t167=true then((Qbj.f x158000_1 x158001_1 x158002_1 x158003_1 x158004_1 (rd l1 x31_1)).bind fun bt168=>(if x10_1.length<35184372088832 then(Qbg.l0 k1 (x10_1++[bt168.2.2.1]) l1 (l1.length:Int) (wrap64 (x31_1+1)) a0_0 a0_1 bt168.1 bt168.2.1 bt168.2.2.1 bt168.2.2.2.1 bt168.2.2.2.2.1 t158 t159 t160 t161 t162)else(none)))else((Qbf.f a0_0 a0_1 ((x158002_1+1)%4294967296)).bind fun bt177=>(if bt177.2.2.2.2.2=0 then((Qbj.f bt177.1 bt177.2.1 bt177.2.2.1 bt177.2.2.2.1 bt177.2.2.2.2.1 (rd l1 x31_1)).bind fun bt183=>(if x10_1.length<35184372088832 then(Qbg.l0 k1 (x10_1++[bt183.2.2.1]) l1 (l1.length:Int) (wrap64 (x31_1+1)) a0_0 a0_1 bt183.1 bt183.2.1 bt183.2.2.1 bt183.2.2.2.1 bt183.2.2.2.2.1 t158 t159 t160 t161 t162)else(none)))else(some (([]:List Int),7))))))else(some (([]:List Int),6)))=some (r1,r2):=H
       have A21:=QA A210
       clear A210
       by_cases c22:t166=true
       ·subst c22
        have H1:((Qbh.f x158000_1 x158001_1 x158002_1 x158003_1 x158004_1 (rd l1 x31_1)).bind fun t167=>(if t167=true then((Qbj.f x158000_1 x158001_1 x158002_1 x158003_1 x158004_1 (rd l1 x31_1)).bind fun bt168=>(if x10_1.length<35184372088832 then(Qbg.l0 k1 (x10_1++[bt168.2.2.1]) l1 (l1.length:Int) (wrap64 (x31_1+1)) a0_0 a0_1 bt168.1 bt168.2.1 bt168.2.2.1 bt168.2.2.2.1 bt168.2.2.2.2.1 t158 t159 t160 t161 t162)else(none)))else((Qbf.f a0_0 a0_1 ((x158002_1+1)%4294967296)).bind fun bt177=>(if bt177.2.2.2.2.2=0 then((Qbj.f bt177.1 bt177.2.1 bt177.2.2.1 bt177.2.2.2.1 bt177.2.2.2.2.1 (rd l1 x31_1)).bind fun bt183=>(if x10_1.length<35184372088832 then(Qbg.l0 k1 (x10_1++[bt183.2.2.1]) l1 (l1.length:Int) (wrap64 (x31_1+1)) a0_0 a0_1 bt183.1 bt183.2.1 bt183.2.2.1 bt183.2.2.2.1 bt183.2.2.2.2.1 t158 t159 t160 t161 t162)else(none)))else(some (([]:List Int),7))))))=some (r1,r2):=by rw[if_pos rfl]at H;exact H
        clear H
        have H:=H1
        clear H1
        replace H:=Option.bind_eq_some_iff.mp H
        obtain⟨t167,A230,H⟩:=H
        replace H:(if t167=true then((Qbj.f x158000_1 x158001_1 x158002_1 x158003_1 x158004_1 (rd l1 x31_1)).bind fun bt168=>(if x10_1.length<35184372088832 then(Qbg.l0 k1 (x10_1++[bt168.2.2.1]) l1 (l1.length:Int) (wrap64 (x31_1+1)) a0_0 a0_1 bt168.1 bt168.2.1 bt168.2.2.1 bt168.2.2.2.1 bt168.2.2.2.2.1 t158 t159 t160 t161 t162)else(none)))else((Qbf.f a0_0 a0_1 ((x158002_1+1)%4294967296)).bind fun bt177=>(if bt177.2.2.2.2.2=0 then((Qbj.f bt177.1 bt177.2.1 bt177.2.2.1 bt177.2.2.2.1 bt177.2.2.2.2.1 (rd l1 x31_1)).bind fun bt183=>(if x10_1.length<35184372088832 then(Qbg.l0 k1 (x10_1++[bt183.2.2.1]) l1 (l1.length:Int) (wrap64 (x31_1+1)) a0_0 a0_1 bt183.1 bt183.2.1 bt183.2.2.1 bt183.2.2.2.1 bt183.2.2.2.2.1 t158 t159 t160 t161 t162)else(none)))else(some (([]:List Int),7)))))=some (r1,r2):=H
        have A23:=QA A230
        clear A230
        by_cases c24:t167=true
        ·subst c24
         have H1:((Qbj.f x158000_1 x158001_1 x158002_1 x158003_1 x158004_1 (rd l1 x31_1)).bind fun bt168=>(if x10_1.length<35184372088832 then(Qbg.l0 k1 (x10_1++[bt168.2.2.1]) l1 (l1.length:Int) (wrap64 (x31_1+1)) a0_0 a0_1 bt168.1 bt168.2.1 bt168.2.2.1 bt168.2.2.2.1 bt168.2.2.2.2.1 t158 t159 t160 t161 t162)else(none)))=some (r1,r2):=by rw[if_pos rfl]at H;exact H
         clear H
         have H:=H1
         clear H1
         replace H:=Option.bind_eq_some_iff.mp H
         obtain⟨⟨t168,t169,t170,t171,t172,t173⟩,A250,H⟩:=H
         replace H:(if x10_1.length<35184372088832 then(Qbg.l0 k1 (x10_1++[t170]) l1 (l1.length:Int) (wrap64 (x31_1+1)) a0_0 a0_1 t168 t169 t170 t171 t172 t158 t159 t160 t161 t162)else(none))=some (r1,r2):=H
         have A25:=QA A250
         clear A250
         by_cases c26:x10_1.length<35184372088832
         ·rw[if_pos c26]at H
          have LMc26:=QA c26
          clear c26
          obtain⟨y174,hy174⟩:∃y_:List Int,y_=(x10_1++[t170]):=⟨_,rfl⟩
          replace H:(Qbg.l0 k1 y174 l1 (l1.length:Int) (wrap64 (x31_1+1)) a0_0 a0_1 t168 t169 t170 t171 t172 t158 t159 t160 t161 t162)=some (r1,r2):=by first |(rw[hy174];with_reducible exact H) |(have H2_:=(Option.bind_some _ _).symm.trans H;rw[hy174];with_reducible exact H2_) |(have H2_:=(Option.bind_some _ _).symm.trans H;with_reducible exact H2_)|with_reducible exact H |(rw[hy174];exact H)|exact H
          have Ny174:=QA hy174
          clear hy174
          have H':=QA H
          clear H
          have p165:0≤(x31_1:Int):=of_decide_eq_true qq_6
          have q165:x31_1<(l1.length:Int):=of_decide_eq_true qq_6
          obtain⟨ad165,e165,hx165_0⟩:=Kd.at_int HR1.out x31_1 p165 q165
          cases e165
          replace hx165_0:=qq_h HB.out hx165_0
          replace p165:=eq_true p165
          replace q165:=eq_true q165
          have hnb27:=NB164_150.out
          have hnc27:=NB150_164.out
          have hnb28:=NB164_157.out
          have hnc28:=NB157_164.out
          have hcz29_0:=qq_c (.int .u8 t158) BK164.out 0 rfl
          have hcz29_1:=qq_c (.int .u32 t159) BK164.out 1 rfl
          have hcz29_2:=qq_c (.int .u32 t160) BK164.out 2 rfl
          have hcz29_3:=qq_c (.int .i64 t161) BK164.out 3 rfl
          have hcz29_4:=qq_c (.int .i64 t162) BK164.out 4 rfl
          have hfz29_0:=Qcu BK164.out 0
          have hfz29_1:=Qcu BK164.out 1
          have hfz29_2:=Qcu BK164.out 2
          have hfz29_3:=Qcu BK164.out 3
          have hfz29_4:=Qcu BK164.out 4
          go_wp2_with (first |((with_reducible refine Qhd (f:=100) rfl ?_);refine Qfk (some 37) rfl rfl Tryz.func100 qq_5 rfl #[.agg #[.int .u8 t158,.int .u32 t159,.int .u32 t160,.int .i64 t161,.int .i64 t162],.int .i64 (rd l1 x31_1)] rfl qq_1 ?_;(with_reducible refine(Qbh.calls t158 t159 t160 t161 t162 (rd l1 x31_1) true _ A21.out).mono ?_);rintro e w30 ⟨rfl,hb⟩;refine⟨_,rfl,?_⟩;have n0_:=QA (Kd.R_below qq_3 hb);have n1_:=QA (Qdg (g:=gb150) (o:=.cells #[.int .u8 a0_0,.int .u32 a0_1] 27 (0,0)) qq_0 hb);have n2_:=QA (Qdg (g:=gb157) (o:=.cells #[.int .u8 x158000_1,.int .u32 x158001_1,.int .u32 x158002_1,.int .i64 x158003_1,.int .i64 x158004_1] 47 (0,0)) qq_0 hb);have n3_:=QA (Qdg (g:=gb164) (o:=.cells #[.int .u8 t158,.int .u32 t159,.int .u32 t160,.int .i64 t161,.int .i64 t162] 47 (0,0)) qq_0 hb);have n4_:=QA (Qeb qq_b hb);clear HO_10 BK150 BK157 BK164 HB;have HO_10:=n0_;have BK150:=n1_;have BK157:=n2_;have BK164:=n3_;have HB:=n4_;clear n0_ n1_ n2_ n3_ n4_;(try clear hb);(try clear hb2);(try clear hk);(try clear hi);have hnb31:=NB157_150.out;have hnc31:=NB150_157.out;have hcz32_0:=qq_c (.int .u8 x158000_1) BK157.out 0 rfl;have hcz32_1:=qq_c (.int .u32 x158001_1) BK157.out 1 rfl;have hcz32_2:=qq_c (.int .u32 x158002_1) BK157.out 2 rfl;have hcz32_3:=qq_c (.int .i64 x158003_1) BK157.out 3 rfl;have hcz32_4:=qq_c (.int .i64 x158004_1) BK157.out 4 rfl;have hfz32_0:=Qcu BK157.out 0;have hfz32_1:=Qcu BK157.out 1;have hfz32_2:=Qcu BK157.out 2;have hfz32_3:=Qcu BK157.out 3;have hfz32_4:=Qcu BK157.out 4) |((with_reducible refine Qhd (f:=100) rfl ?_);refine Qfk (some 41) rfl rfl Tryz.func100 qq_5 rfl #[.agg #[.int .u8 x158000_1,.int .u32 x158001_1,.int .u32 x158002_1,.int .i64 x158003_1,.int .i64 x158004_1],.int .i64 (rd l1 x31_1)] rfl qq_1 ?_;(with_reducible refine(Qbh.calls x158000_1 x158001_1 x158002_1 x158003_1 x158004_1 (rd l1 x31_1) true _ A23.out).mono ?_);rintro e w33 ⟨rfl,hb⟩;refine⟨_,rfl,?_⟩;have n0_:=QA (Kd.R_below qq_3 hb);have n1_:=QA (Qdg (g:=gb150) (o:=.cells #[.int .u8 a0_0,.int .u32 a0_1] 27 (0,0)) qq_0 hb);have n2_:=QA (Qdg (g:=gb157) (o:=.cells #[.int .u8 x158000_1,.int .u32 x158001_1,.int .u32 x158002_1,.int .i64 x158003_1,.int .i64 x158004_1] 47 (0,0)) qq_0 hb);have n3_:=QA (Qdg (g:=gb164) (o:=.cells #[.int .u8 t158,.int .u32 t159,.int .u32 t160,.int .i64 t161,.int .i64 t162] 47 (0,0)) qq_0 hb);have n4_:=QA (Qeb qq_b hb);clear HO_10 BK150 BK157 BK164 HB;have HO_10:=n0_;have BK150:=n1_;have BK157:=n2_;have BK164:=n3_;have HB:=n4_;clear n0_ n1_ n2_ n3_ n4_;(try clear hb);(try clear hb2);(try clear hk);(try clear hi);have hcz34_0:=qq_c (.int .u8 x158000_1) BK157.out 0 rfl;have hcz34_1:=qq_c (.int .u32 x158001_1) BK157.out 1 rfl;have hcz34_2:=qq_c (.int .u32 x158002_1) BK157.out 2 rfl;have hcz34_3:=qq_c (.int .i64 x158003_1) BK157.out 3 rfl;have hcz34_4:=qq_c (.int .i64 x158004_1) BK157.out 4 rfl;have hfz34_0:=Qcu BK157.out 0;have hfz34_1:=Qcu BK157.out 1;have hfz34_2:=Qcu BK157.out 2;have hfz34_3:=Qcu BK157.out 3;have hfz34_4:=Qcu BK157.out 4) |((with_reducible refine Qhd (f:=59) rfl ?_);refine Qfk (some 56) rfl rfl Tryz.func59 qq_5 rfl #[.agg #[.int .u8 x158000_1,.int .u32 x158001_1,.int .u32 x158002_1,.int .i64 x158003_1,.int .i64 x158004_1],.int .i64 (rd l1 x31_1)] rfl qq_1 ?_;(with_reducible refine(Qbj.calls x158000_1 x158001_1 x158002_1 x158003_1 x158004_1 (rd l1 x31_1) t168 t169 t170 t171 t172 t173 _ A25.out).mono ?_);rintro e w35 ⟨rfl,hb⟩;refine⟨_,rfl,?_⟩;have n0_:=QA (Kd.R_below qq_3 hb);have n1_:=QA (Qdg (g:=gb150) (o:=.cells #[.int .u8 a0_0,.int .u32 a0_1] 27 (0,0)) qq_0 hb);have n2_:=QA (Qdg (g:=gb157) (o:=.cells #[.int .u8 x158000_1,.int .u32 x158001_1,.int .u32 x158002_1,.int .i64 x158003_1,.int .i64 x158004_1] 47 (0,0)) qq_0 hb);have n3_:=QA (Qdg (g:=gb164) (o:=.cells #[.int .u8 t158,.int .u32 t159,.int .u32 t160,.int .i64 t161,.int .i64 t162] 47 (0,0)) qq_0 hb);have n4_:=QA (Qeb qq_b hb);clear HO_10 BK150 BK157 BK164 HB;have HO_10:=n0_;have BK150:=n1_;have BK157:=n2_;have BK164:=n3_;have HB:=n4_;clear n0_ n1_ n2_ n3_ n4_;(try clear hb);(try clear hb2);(try clear hk);(try clear hi);have hcz36_0:=qq_c (.int .u8 x158000_1) BK157.out 0 rfl;have hcz36_1:=qq_c (.int .u32 x158001_1) BK157.out 1 rfl;have hcz36_2:=qq_c (.int .u32 x158002_1) BK157.out 2 rfl;have hcz36_3:=qq_c (.int .i64 x158003_1) BK157.out 3 rfl;have hcz36_4:=qq_c (.int .i64 x158004_1) BK157.out 4 rfl;have hfz36_0:=Qcu BK157.out 0;have hfz36_1:=Qcu BK157.out 1;have hfz36_2:=Qcu BK157.out 2;have hfz36_3:=Qcu BK157.out 3;have hfz36_4:=Qcu BK157.out 4) |((with_reducible refine Qhe (b:=.append) (xs:=#[.tmp 59,.tmp 62]) rfl ?_);at_builtin;refine Kd.R_append (Kd.int .u32) (w0:=w) w.heap.size rfl (.tmp 59) (.tmp 62) 74 22 (.int .u32 0) 4 rfl Tryz.underlying74 Qhk rfl (by decide) (by omega) u10 x10_1 t170 [.int .u32 t170] (fun _=>True) (fun _=>False) rfl (by first |(go_simp;done) |(go_simp;rfl)) ?aP (fun _ hk=>hk.elim) ?aF ?aO ?aB ?aS ?aL ?_;(case aP=>exact rfl);(case aB=>exact qq_b);(case aF=>exact(fun _ _=>trivial));(case aO=>exact(by(with_reducible repeat(first|apply Kd.R_alloc|apply Kd.R_drewN|apply Kd.R_drew));exact Kd.R_mono (Kd.R_far (p:=⟨gb157,4,none⟩) (Kd.R_far (p:=⟨gb157,3,none⟩) (Kd.R_far (p:=⟨gb157,2,none⟩) (Kd.R_far (p:=⟨gb157,1,none⟩) (Kd.R_far (p:=⟨gb157,0,none⟩) (Kd.R_types HO_10.out BK157.out (by decide)) (fun _ hk=>hk.2) (.int .u8 t168)) (fun _ hk=>hk.2) (.int .u32 t169)) (fun _ hk=>hk.2) (.int .u32 t170)) (fun _ hk=>hk.2) (.int .i64 t171)) (fun _ hk=>hk.2) (.int .i64 t172)) (fun _ hk=>trivial)));(case aS=>exact(Qea qq_b));(case aL=>have:=LMc26.out;omega);intro v175 w37 ho hb hg hat;rw[← Ny174.out]at ho;have n0_:=QA (Qcv (g:=gb150) (o:=.cells #[.int .u8 a0_0,.int .u32 a0_1] 27 (0,0)) qq_7 hg (Kd.R_ne HO_10.out BK150.out (by decide)));have n1_:=QA (Qcv (g:=gb157) (o:=.cells #[.int .u8 t168,.int .u32 t169,.int .u32 t170,.int .i64 t171,.int .i64 t172] 47 (0,0)) (by(with_reducible repeat(first|apply Qdf|apply Qde|apply Qdd));refine Qeg (cs:=#[.int .u8 t168,.int .u32 t169,.int .u32 t170,.int .i64 t171,.int .i64 x158004_1]) ?_ 4 _ rfl;(with_reducible repeat(first|apply Qdf|apply Qde|apply Qdd));refine Qeg (cs:=#[.int .u8 t168,.int .u32 t169,.int .u32 t170,.int .i64 x158003_1,.int .i64 x158004_1]) ?_ 3 _ rfl;(with_reducible repeat(first|apply Qdf|apply Qde|apply Qdd));refine Qeg (cs:=#[.int .u8 t168,.int .u32 t169,.int .u32 x158002_1,.int .i64 x158003_1,.int .i64 x158004_1]) ?_ 2 _ rfl;(with_reducible repeat(first|apply Qdf|apply Qde|apply Qdd));refine Qeg (cs:=#[.int .u8 t168,.int .u32 x158001_1,.int .u32 x158002_1,.int .i64 x158003_1,.int .i64 x158004_1]) ?_ 1 _ rfl;(with_reducible repeat(first|apply Qdf|apply Qde|apply Qdd));refine Qeg (cs:=#[.int .u8 x158000_1,.int .u32 x158001_1,.int .u32 x158002_1,.int .i64 x158003_1,.int .i64 x158004_1]) ?_ 0 _ rfl;(with_reducible repeat(first|apply Qdf|apply Qde|apply Qdd));exact BK157.out) hg (Kd.R_ne HO_10.out BK157.out (by decide)));have n2_:=QA (Qcv (g:=gb164) (o:=.cells #[.int .u8 t158,.int .u32 t159,.int .u32 t160,.int .i64 t161,.int .i64 t162] 47 (0,0)) qq_7 hg (Kd.R_ne HO_10.out BK164.out (by decide)));have n3_:=QA (hb);have n4_:=QA (ho);clear BK150 BK157 BK164 HB HO_10;have BK150:=n0_;have BK157:=n1_;have BK164:=n2_;have HB:=n3_;have HO176:=n4_;clear n0_ n1_ n2_ n3_ n4_;clear ho hb hg hat))
          go_roundg k1
          case measure=>have:=HK1.out;omega
          case rel=>exact⟨(y174),(wrap64 (x31_1+1)),(t168),(t169),(t170),(t171),(t172),qq_9,H',⟨by have:=HK1.out;omega⟩,⟨by(with_reducible repeat(first|apply Kd.R_alloc|apply Kd.R_drewN|apply Kd.R_drew));exact HO176.out⟩,⟨by(with_reducible repeat(first|apply Qdf|apply Qde|apply Qdd));exact BK150.out⟩,⟨by(with_reducible repeat(first|apply Qdf|apply Qde|apply Qdd));exact BK157.out⟩,⟨by(with_reducible repeat(first|apply Qdf|apply Qde|apply Qdd));exact BK164.out⟩,⟨qq_b⟩⟩
         ·rw[if_neg c26]at H
          exact absurd H (by simp)
        ·replace c24:=Bool.eq_false_iff.mpr c24
         subst c24
         have H1:((Qbf.f a0_0 a0_1 ((x158002_1+1)%4294967296)).bind fun bt177=>(if bt177.2.2.2.2.2=0 then((Qbj.f bt177.1 bt177.2.1 bt177.2.2.1 bt177.2.2.2.1 bt177.2.2.2.2.1 (rd l1 x31_1)).bind fun bt183=>(if x10_1.length<35184372088832 then(Qbg.l0 k1 (x10_1++[bt183.2.2.1]) l1 (l1.length:Int) (wrap64 (x31_1+1)) a0_0 a0_1 bt183.1 bt183.2.1 bt183.2.2.1 bt183.2.2.2.1 bt183.2.2.2.2.1 t158 t159 t160 t161 t162)else(none)))else(some (([]:List Int),7))))=some (r1,r2):=by rw[if_neg (show ¬(false=true)by decide)]at H;exact H
         clear H
         have H:=H1
         clear H1
         replace H:=Option.bind_eq_some_iff.mp H
         obtain⟨⟨t177,t178,t179,t180,t181,t182⟩,A380,H⟩:=H
         replace H:(if t182=0 then((Qbj.f t177 t178 t179 t180 t181 (rd l1 x31_1)).bind fun bt183=>(if x10_1.length<35184372088832 then(Qbg.l0 k1 (x10_1++[bt183.2.2.1]) l1 (l1.length:Int) (wrap64 (x31_1+1)) a0_0 a0_1 bt183.1 bt183.2.1 bt183.2.2.1 bt183.2.2.2.1 bt183.2.2.2.2.1 t158 t159 t160 t161 t162)else(none)))else(some (([]:List Int),7)))=some (r1,r2):=H
         have A38:=QA A380
         clear A380
         by_cases c39:t182=0
         ·rw[if_pos c39]at H
          have c39b0:(t182 == 0)=true:=beq_iff_eq.mpr c39
          have c39b1:(t182 != 0)=false:=bne_eq_false_iff_eq.mpr c39
          clear c39
          replace H:=Option.bind_eq_some_iff.mp H
          obtain⟨⟨t183,t184,t185,t186,t187,t188⟩,A400,H⟩:=H
          replace H:(if x10_1.length<35184372088832 then(Qbg.l0 k1 (x10_1++[t185]) l1 (l1.length:Int) (wrap64 (x31_1+1)) a0_0 a0_1 t183 t184 t185 t186 t187 t158 t159 t160 t161 t162)else(none))=some (r1,r2):=H
          have A40:=QA A400
          clear A400
          by_cases c41:x10_1.length<35184372088832
          ·rw[if_pos c41]at H
           have LMc41:=QA c41
           clear c41
           obtain⟨y189,hy189⟩:∃y_:List Int,y_=(x10_1++[t185]):=⟨_,rfl⟩
           replace H:(Qbg.l0 k1 y189 l1 (l1.length:Int) (wrap64 (x31_1+1)) a0_0 a0_1 t183 t184 t185 t186 t187 t158 t159 t160 t161 t162)=some (r1,r2):=by first |(rw[hy189];with_reducible exact H) |(have H2_:=(Option.bind_some _ _).symm.trans H;rw[hy189];with_reducible exact H2_) |(have H2_:=(Option.bind_some _ _).symm.trans H;with_reducible exact H2_)|with_reducible exact H |(rw[hy189];exact H)|exact H
           have Ny189:=QA hy189
           clear hy189
           have H':=QA H
           clear H
           have p165:0≤(x31_1:Int):=of_decide_eq_true qq_6
           have q165:x31_1<(l1.length:Int):=of_decide_eq_true qq_6
           obtain⟨ad165,e165,hx165_0⟩:=Kd.at_int HR1.out x31_1 p165 q165
           cases e165
           replace hx165_0:=qq_h HB.out hx165_0
           replace p165:=eq_true p165
           replace q165:=eq_true q165
           have hnb42:=NB164_150.out
           have hnc42:=NB150_164.out
           have hnb43:=NB164_157.out
           have hnc43:=NB157_164.out
           have hcz44_0:=qq_c (.int .u8 t158) BK164.out 0 rfl
           have hcz44_1:=qq_c (.int .u32 t159) BK164.out 1 rfl
           have hcz44_2:=qq_c (.int .u32 t160) BK164.out 2 rfl
           have hcz44_3:=qq_c (.int .i64 t161) BK164.out 3 rfl
           have hcz44_4:=qq_c (.int .i64 t162) BK164.out 4 rfl
           have hfz44_0:=Qcu BK164.out 0
           have hfz44_1:=Qcu BK164.out 1
           have hfz44_2:=Qcu BK164.out 2
           have hfz44_3:=Qcu BK164.out 3
           have hfz44_4:=Qcu BK164.out 4
           go_wp2_with (first |((with_reducible refine Qhd (f:=100) rfl ?_);refine Qfk (some 37) rfl rfl Tryz.func100 qq_5 rfl #[.agg #[.int .u8 t158,.int .u32 t159,.int .u32 t160,.int .i64 t161,.int .i64 t162],.int .i64 (rd l1 x31_1)] rfl qq_1 ?_;(with_reducible refine(Qbh.calls t158 t159 t160 t161 t162 (rd l1 x31_1) true _ A21.out).mono ?_);rintro e w45 ⟨rfl,hb⟩;refine⟨_,rfl,?_⟩;have n0_:=QA (Kd.R_below qq_3 hb);have n1_:=QA (Qdg (g:=gb150) (o:=.cells #[.int .u8 a0_0,.int .u32 a0_1] 27 (0,0)) qq_0 hb);have n2_:=QA (Qdg (g:=gb157) (o:=.cells #[.int .u8 x158000_1,.int .u32 x158001_1,.int .u32 x158002_1,.int .i64 x158003_1,.int .i64 x158004_1] 47 (0,0)) qq_0 hb);have n3_:=QA (Qdg (g:=gb164) (o:=.cells #[.int .u8 t158,.int .u32 t159,.int .u32 t160,.int .i64 t161,.int .i64 t162] 47 (0,0)) qq_0 hb);have n4_:=QA (Qeb qq_b hb);clear HO_10 BK150 BK157 BK164 HB;have HO_10:=n0_;have BK150:=n1_;have BK157:=n2_;have BK164:=n3_;have HB:=n4_;clear n0_ n1_ n2_ n3_ n4_;(try clear hb);(try clear hb2);(try clear hk);(try clear hi);have hnb46:=NB157_150.out;have hnc46:=NB150_157.out;have hcz47_0:=qq_c (.int .u8 x158000_1) BK157.out 0 rfl;have hcz47_1:=qq_c (.int .u32 x158001_1) BK157.out 1 rfl;have hcz47_2:=qq_c (.int .u32 x158002_1) BK157.out 2 rfl;have hcz47_3:=qq_c (.int .i64 x158003_1) BK157.out 3 rfl;have hcz47_4:=qq_c (.int .i64 x158004_1) BK157.out 4 rfl;have hfz47_0:=Qcu BK157.out 0;have hfz47_1:=Qcu BK157.out 1;have hfz47_2:=Qcu BK157.out 2;have hfz47_3:=Qcu BK157.out 3;have hfz47_4:=Qcu BK157.out 4) |((with_reducible refine Qhd (f:=100) rfl ?_);refine Qfk (some 41) rfl rfl Tryz.func100 qq_5 rfl #[.agg #[.int .u8 x158000_1,.int .u32 x158001_1,.int .u32 x158002_1,.int .i64 x158003_1,.int .i64 x158004_1],.int .i64 (rd l1 x31_1)] rfl qq_1 ?_;(with_reducible refine(Qbh.calls x158000_1 x158001_1 x158002_1 x158003_1 x158004_1 (rd l1 x31_1) false _ A23.out).mono ?_);rintro e w48 ⟨rfl,hb⟩;refine⟨_,rfl,?_⟩;have n0_:=QA (Kd.R_below qq_3 hb);have n1_:=QA (Qdg (g:=gb150) (o:=.cells #[.int .u8 a0_0,.int .u32 a0_1] 27 (0,0)) qq_0 hb);have n2_:=QA (Qdg (g:=gb157) (o:=.cells #[.int .u8 x158000_1,.int .u32 x158001_1,.int .u32 x158002_1,.int .i64 x158003_1,.int .i64 x158004_1] 47 (0,0)) qq_0 hb);have n3_:=QA (Qdg (g:=gb164) (o:=.cells #[.int .u8 t158,.int .u32 t159,.int .u32 t160,.int .i64 t161,.int .i64 t162] 47 (0,0)) qq_0 hb);have n4_:=QA (Qeb qq_b hb);clear HO_10 BK150 BK157 BK164 HB;have HO_10:=n0_;have BK150:=n1_;have BK157:=n2_;have BK164:=n3_;have HB:=n4_;clear n0_ n1_ n2_ n3_ n4_;(try clear hb);(try clear hb2);(try clear hk);(try clear hi);have hcz49_0:=qq_c (.int .u8 a0_0) BK150.out 0 rfl;have hcz49_1:=qq_c (.int .u32 a0_1) BK150.out 1 rfl;have hfz49_0:=Qcu BK150.out 0;have hfz49_1:=Qcu BK150.out 1;have hcz50_0:=qq_c (.int .u8 x158000_1) BK157.out 0 rfl;have hcz50_1:=qq_c (.int .u32 x158001_1) BK157.out 1 rfl;have hcz50_2:=qq_c (.int .u32 x158002_1) BK157.out 2 rfl;have hcz50_3:=qq_c (.int .i64 x158003_1) BK157.out 3 rfl;have hcz50_4:=qq_c (.int .i64 x158004_1) BK157.out 4 rfl;have hfz50_0:=Qcu BK157.out 0;have hfz50_1:=Qcu BK157.out 1;have hfz50_2:=Qcu BK157.out 2;have hfz50_3:=Qcu BK157.out 3;have hfz50_4:=Qcu BK157.out 4) |((with_reducible refine Qhd (f:=52) rfl ?_);refine Qfk (some 48) rfl rfl Tryz.func52 qq_5 rfl #[.agg #[.int .u8 a0_0,.int .u32 a0_1],.int .u32 ((x158002_1+1)%4294967296)] rfl qq_1 ?_;(with_reducible refine(Qbf.calls a0_0 a0_1 ((x158002_1+1)%4294967296) t177 t178 t179 t180 t181 t182 _ A38.out).mono ?_);rintro e w51 ⟨rfl,hb⟩;refine⟨_,rfl,?_⟩;have n0_:=QA (Kd.R_below qq_3 hb);have n1_:=QA (Qdg (g:=gb150) (o:=.cells #[.int .u8 a0_0,.int .u32 a0_1] 27 (0,0)) qq_0 hb);have n2_:=QA (Qdg (g:=gb157) (o:=.cells #[.int .u8 x158000_1,.int .u32 x158001_1,.int .u32 x158002_1,.int .i64 x158003_1,.int .i64 x158004_1] 47 (0,0)) qq_0 hb);have n3_:=QA (Qdg (g:=gb164) (o:=.cells #[.int .u8 t158,.int .u32 t159,.int .u32 t160,.int .i64 t161,.int .i64 t162] 47 (0,0)) qq_0 hb);have n4_:=QA (Qeb qq_b hb);clear HO_10 BK150 BK157 BK164 HB;have HO_10:=n0_;have BK150:=n1_;have BK157:=n2_;have BK164:=n3_;have HB:=n4_;clear n0_ n1_ n2_ n3_ n4_;(try clear hb);(try clear hb2);(try clear hk);(try clear hi);have hcz52_0:=qq_c (.int .u8 x158000_1) BK157.out 0 rfl;have hcz52_1:=qq_c (.int .u32 x158001_1) BK157.out 1 rfl;have hcz52_2:=qq_c (.int .u32 x158002_1) BK157.out 2 rfl;have hcz52_3:=qq_c (.int .i64 x158003_1) BK157.out 3 rfl;have hcz52_4:=qq_c (.int .i64 x158004_1) BK157.out 4 rfl;have hfz52_0:=Qcu BK157.out 0;have hfz52_1:=Qcu BK157.out 1;have hfz52_2:=Qcu BK157.out 2;have hfz52_3:=Qcu BK157.out 3;have hfz52_4:=Qcu BK157.out 4) |((with_reducible refine Qhd (f:=59) rfl ?_);refine Qfk (some 56) rfl rfl Tryz.func59 qq_5 rfl #[.agg #[.int .u8 t177,.int .u32 t178,.int .u32 t179,.int .i64 t180,.int .i64 t181],.int .i64 (rd l1 x31_1)] rfl qq_1 ?_;(with_reducible refine(Qbj.calls t177 t178 t179 t180 t181 (rd l1 x31_1) t183 t184 t185 t186 t187 t188 _ A40.out).mono ?_);rintro e w53 ⟨rfl,hb⟩;refine⟨_,rfl,?_⟩;have n0_:=QA (Kd.R_below (by(with_reducible repeat(first|apply Kd.R_alloc|apply Kd.R_drewN|apply Kd.R_drew));exact(Kd.R_mono (Kd.R_far (p:=⟨gb157,4,none⟩) (Kd.R_far (p:=⟨gb157,3,none⟩) (Kd.R_far (p:=⟨gb157,2,none⟩) (Kd.R_far (p:=⟨gb157,1,none⟩) (Kd.R_far (p:=⟨gb157,0,none⟩) (Kd.R_types HO_10.out BK157.out (by decide)) (fun _ hk=>hk.2) (.int .u8 t177)) (fun _ hk=>hk.2) (.int .u32 t178)) (fun _ hk=>hk.2) (.int .u32 t179)) (fun _ hk=>hk.2) (.int .i64 t180)) (fun _ hk=>hk.2) (.int .i64 t181)) (fun _ h_=>h_.1))) hb);have n1_:=QA (Qdg (g:=gb150) (o:=.cells #[.int .u8 a0_0,.int .u32 a0_1] 27 (0,0)) qq_7 hb);have n2_:=QA (Qdg (g:=gb157) (o:=.cells #[.int .u8 t177,.int .u32 t178,.int .u32 t179,.int .i64 t180,.int .i64 t181] 47 (0,0)) (by(with_reducible repeat(first|apply Qdf|apply Qde|apply Qdd));refine Qeg (cs:=#[.int .u8 t177,.int .u32 t178,.int .u32 t179,.int .i64 t180,.int .i64 x158004_1]) ?_ 4 _ rfl;(with_reducible repeat(first|apply Qdf|apply Qde|apply Qdd));refine Qeg (cs:=#[.int .u8 t177,.int .u32 t178,.int .u32 t179,.int .i64 x158003_1,.int .i64 x158004_1]) ?_ 3 _ rfl;(with_reducible repeat(first|apply Qdf|apply Qde|apply Qdd));refine Qeg (cs:=#[.int .u8 t177,.int .u32 t178,.int .u32 x158002_1,.int .i64 x158003_1,.int .i64 x158004_1]) ?_ 2 _ rfl;(with_reducible repeat(first|apply Qdf|apply Qde|apply Qdd));refine Qeg (cs:=#[.int .u8 t177,.int .u32 x158001_1,.int .u32 x158002_1,.int .i64 x158003_1,.int .i64 x158004_1]) ?_ 1 _ rfl;(with_reducible repeat(first|apply Qdf|apply Qde|apply Qdd));refine Qeg (cs:=#[.int .u8 x158000_1,.int .u32 x158001_1,.int .u32 x158002_1,.int .i64 x158003_1,.int .i64 x158004_1]) ?_ 0 _ rfl;(with_reducible repeat(first|apply Qdf|apply Qde|apply Qdd));exact BK157.out) hb);have n3_:=QA (Qdg (g:=gb164) (o:=.cells #[.int .u8 t158,.int .u32 t159,.int .u32 t160,.int .i64 t161,.int .i64 t162] 47 (0,0)) qq_7 hb);have n4_:=QA (Qeb qq_b hb);clear HO_10 BK150 BK157 BK164 HB;have HO_10:=n0_;have BK150:=n1_;have BK157:=n2_;have BK164:=n3_;have HB:=n4_;clear n0_ n1_ n2_ n3_ n4_;(try clear hb);(try clear hb2);(try clear hk);(try clear hi);have hcz54_0:=qq_c (.int .u8 t177) BK157.out 0 rfl;have hcz54_1:=qq_c (.int .u32 t178) BK157.out 1 rfl;have hcz54_2:=qq_c (.int .u32 t179) BK157.out 2 rfl;have hcz54_3:=qq_c (.int .i64 t180) BK157.out 3 rfl;have hcz54_4:=qq_c (.int .i64 t181) BK157.out 4 rfl;have hfz54_0:=Qcu BK157.out 0;have hfz54_1:=Qcu BK157.out 1;have hfz54_2:=Qcu BK157.out 2;have hfz54_3:=Qcu BK157.out 3;have hfz54_4:=Qcu BK157.out 4) |((with_reducible refine Qhe (b:=.append) (xs:=#[.tmp 59,.tmp 62]) rfl ?_);at_builtin;refine Kd.R_append (Kd.int .u32) (w0:=w) w.heap.size rfl (.tmp 59) (.tmp 62) 74 22 (.int .u32 0) 4 rfl Tryz.underlying74 Qhk rfl (by decide) (by omega) u10 x10_1 t185 [.int .u32 t185] (fun _=>True) (fun _=>False) rfl (by first |(go_simp;done) |(go_simp;rfl)) ?aP (fun _ hk=>hk.elim) ?aF ?aO ?aB ?aS ?aL ?_;(case aP=>exact rfl);(case aB=>exact qq_b);(case aF=>exact(fun _ _=>trivial));(case aO=>exact(by(with_reducible repeat(first|apply Kd.R_alloc|apply Kd.R_drewN|apply Kd.R_drew));exact Kd.R_mono (Kd.R_far (p:=⟨gb157,4,none⟩) (Kd.R_far (p:=⟨gb157,3,none⟩) (Kd.R_far (p:=⟨gb157,2,none⟩) (Kd.R_far (p:=⟨gb157,1,none⟩) (Kd.R_far (p:=⟨gb157,0,none⟩) (Kd.R_types HO_10.out BK157.out (by decide)) (fun _ hk=>hk.2) (.int .u8 t183)) (fun _ hk=>hk.2) (.int .u32 t184)) (fun _ hk=>hk.2) (.int .u32 t185)) (fun _ hk=>hk.2) (.int .i64 t186)) (fun _ hk=>hk.2) (.int .i64 t187)) (fun _ hk=>trivial)));(case aS=>exact(Qea qq_b));(case aL=>have:=LMc41.out;omega);intro v190 w55 ho hb hg hat;rw[← Ny189.out]at ho;have n0_:=QA (Qcv (g:=gb150) (o:=.cells #[.int .u8 a0_0,.int .u32 a0_1] 27 (0,0)) qq_7 hg (Kd.R_ne HO_10.out BK150.out (by decide)));have n1_:=QA (Qcv (g:=gb157) (o:=.cells #[.int .u8 t183,.int .u32 t184,.int .u32 t185,.int .i64 t186,.int .i64 t187] 47 (0,0)) (by(with_reducible repeat(first|apply Qdf|apply Qde|apply Qdd));refine Qeg (cs:=#[.int .u8 t183,.int .u32 t184,.int .u32 t185,.int .i64 t186,.int .i64 t181]) ?_ 4 _ rfl;(with_reducible repeat(first|apply Qdf|apply Qde|apply Qdd));refine Qeg (cs:=#[.int .u8 t183,.int .u32 t184,.int .u32 t185,.int .i64 t180,.int .i64 t181]) ?_ 3 _ rfl;(with_reducible repeat(first|apply Qdf|apply Qde|apply Qdd));refine Qeg (cs:=#[.int .u8 t183,.int .u32 t184,.int .u32 t179,.int .i64 t180,.int .i64 t181]) ?_ 2 _ rfl;(with_reducible repeat(first|apply Qdf|apply Qde|apply Qdd));refine Qeg (cs:=#[.int .u8 t183,.int .u32 t178,.int .u32 t179,.int .i64 t180,.int .i64 t181]) ?_ 1 _ rfl;(with_reducible repeat(first|apply Qdf|apply Qde|apply Qdd));refine Qeg (cs:=#[.int .u8 t177,.int .u32 t178,.int .u32 t179,.int .i64 t180,.int .i64 t181]) ?_ 0 _ rfl;(with_reducible repeat(first|apply Qdf|apply Qde|apply Qdd));exact BK157.out) hg (Kd.R_ne HO_10.out BK157.out (by decide)));have n2_:=QA (Qcv (g:=gb164) (o:=.cells #[.int .u8 t158,.int .u32 t159,.int .u32 t160,.int .i64 t161,.int .i64 t162] 47 (0,0)) qq_7 hg (Kd.R_ne HO_10.out BK164.out (by decide)));have n3_:=QA (hb);have n4_:=QA (ho);clear BK150 BK157 BK164 HB HO_10;have BK150:=n0_;have BK157:=n1_;have BK164:=n2_;have HB:=n3_;have HO191:=n4_;clear n0_ n1_ n2_ n3_ n4_;clear ho hb hg hat))
           go_roundg k1
           case measure=>have:=HK1.out;omega
           case rel=>exact⟨(y189),(wrap64 (x31_1+1)),(t183),(t184),(t185),(t186),(t187),qq_9,H',⟨by have:=HK1.out;omega⟩,⟨by(with_reducible repeat(first|apply Kd.R_alloc|apply Kd.R_drewN|apply Kd.R_drew));exact HO191.out⟩,⟨by(with_reducible repeat(first|apply Qdf|apply Qde|apply Qdd));exact BK150.out⟩,⟨by(with_reducible repeat(first|apply Qdf|apply Qde|apply Qdd));exact BK157.out⟩,⟨by(with_reducible repeat(first|apply Qdf|apply Qde|apply Qdd));exact BK164.out⟩,⟨qq_b⟩⟩
          ·rw[if_neg c41]at H
           exact absurd H (by simp)
         ·rw[if_neg c39]at H
          have c39b0:(t182 == 0)=false:=beq_eq_false_iff_ne.mpr c39
          have c39b1:(t182 != 0)=true:=bne_iff_ne.mpr c39
          simp only[Option.some.injEq,Prod.mk.injEq]at H
          obtain⟨rfl,rfl⟩:=H
          have p165:0≤(x31_1:Int):=of_decide_eq_true qq_6
          have q165:x31_1<(l1.length:Int):=of_decide_eq_true qq_6
          obtain⟨ad165,e165,hx165_0⟩:=Kd.at_int HR1.out x31_1 p165 q165
          cases e165
          replace hx165_0:=qq_h HB.out hx165_0
          replace p165:=eq_true p165
          replace q165:=eq_true q165
          have hnb56:=NB164_150.out
          have hnc56:=NB150_164.out
          have hnb57:=NB164_157.out
          have hnc57:=NB157_164.out
          have hcz58_0:=qq_c (.int .u8 t158) BK164.out 0 rfl
          have hcz58_1:=qq_c (.int .u32 t159) BK164.out 1 rfl
          have hcz58_2:=qq_c (.int .u32 t160) BK164.out 2 rfl
          have hcz58_3:=qq_c (.int .i64 t161) BK164.out 3 rfl
          have hcz58_4:=qq_c (.int .i64 t162) BK164.out 4 rfl
          have hfz58_0:=Qcu BK164.out 0
          have hfz58_1:=Qcu BK164.out 1
          have hfz58_2:=Qcu BK164.out 2
          have hfz58_3:=Qcu BK164.out 3
          have hfz58_4:=Qcu BK164.out 4
          go_wp2_with (first |((with_reducible refine Qhd (f:=100) rfl ?_);refine Qfk (some 37) rfl rfl Tryz.func100 qq_5 rfl #[.agg #[.int .u8 t158,.int .u32 t159,.int .u32 t160,.int .i64 t161,.int .i64 t162],.int .i64 (rd l1 x31_1)] rfl qq_1 ?_;(with_reducible refine(Qbh.calls t158 t159 t160 t161 t162 (rd l1 x31_1) true _ A21.out).mono ?_);rintro e w59 ⟨rfl,hb⟩;refine⟨_,rfl,?_⟩;have n0_:=QA (Kd.R_below qq_3 hb);have n1_:=QA (Qdg (g:=gb150) (o:=.cells #[.int .u8 a0_0,.int .u32 a0_1] 27 (0,0)) qq_0 hb);have n2_:=QA (Qdg (g:=gb157) (o:=.cells #[.int .u8 x158000_1,.int .u32 x158001_1,.int .u32 x158002_1,.int .i64 x158003_1,.int .i64 x158004_1] 47 (0,0)) qq_0 hb);have n3_:=QA (Qdg (g:=gb164) (o:=.cells #[.int .u8 t158,.int .u32 t159,.int .u32 t160,.int .i64 t161,.int .i64 t162] 47 (0,0)) qq_0 hb);have n4_:=QA (Qeb qq_b hb);clear HO_10 BK150 BK157 BK164 HB;have HO_10:=n0_;have BK150:=n1_;have BK157:=n2_;have BK164:=n3_;have HB:=n4_;clear n0_ n1_ n2_ n3_ n4_;(try clear hb);(try clear hb2);(try clear hk);(try clear hi);have hnb60:=NB157_150.out;have hnc60:=NB150_157.out;have hcz61_0:=qq_c (.int .u8 x158000_1) BK157.out 0 rfl;have hcz61_1:=qq_c (.int .u32 x158001_1) BK157.out 1 rfl;have hcz61_2:=qq_c (.int .u32 x158002_1) BK157.out 2 rfl;have hcz61_3:=qq_c (.int .i64 x158003_1) BK157.out 3 rfl;have hcz61_4:=qq_c (.int .i64 x158004_1) BK157.out 4 rfl;have hfz61_0:=Qcu BK157.out 0;have hfz61_1:=Qcu BK157.out 1;have hfz61_2:=Qcu BK157.out 2;have hfz61_3:=Qcu BK157.out 3;have hfz61_4:=Qcu BK157.out 4) |((with_reducible refine Qhd (f:=100) rfl ?_);refine Qfk (some 41) rfl rfl Tryz.func100 qq_5 rfl #[.agg #[.int .u8 x158000_1,.int .u32 x158001_1,.int .u32 x158002_1,.int .i64 x158003_1,.int .i64 x158004_1],.int .i64 (rd l1 x31_1)] rfl qq_1 ?_;(with_reducible refine(Qbh.calls x158000_1 x158001_1 x158002_1 x158003_1 x158004_1 (rd l1 x31_1) false _ A23.out).mono ?_);rintro e w62 ⟨rfl,hb⟩;refine⟨_,rfl,?_⟩;have n0_:=QA (Kd.R_below qq_3 hb);have n1_:=QA (Qdg (g:=gb150) (o:=.cells #[.int .u8 a0_0,.int .u32 a0_1] 27 (0,0)) qq_0 hb);have n2_:=QA (Qdg (g:=gb157) (o:=.cells #[.int .u8 x158000_1,.int .u32 x158001_1,.int .u32 x158002_1,.int .i64 x158003_1,.int .i64 x158004_1] 47 (0,0)) qq_0 hb);have n3_:=QA (Qdg (g:=gb164) (o:=.cells #[.int .u8 t158,.int .u32 t159,.int .u32 t160,.int .i64 t161,.int .i64 t162] 47 (0,0)) qq_0 hb);have n4_:=QA (Qeb qq_b hb);clear HO_10 BK150 BK157 BK164 HB;have HO_10:=n0_;have BK150:=n1_;have BK157:=n2_;have BK164:=n3_;have HB:=n4_;clear n0_ n1_ n2_ n3_ n4_;(try clear hb);(try clear hb2);(try clear hk);(try clear hi);have hcz63_0:=qq_c (.int .u8 a0_0) BK150.out 0 rfl;have hcz63_1:=qq_c (.int .u32 a0_1) BK150.out 1 rfl;have hfz63_0:=Qcu BK150.out 0;have hfz63_1:=Qcu BK150.out 1;have hcz64_0:=qq_c (.int .u8 x158000_1) BK157.out 0 rfl;have hcz64_1:=qq_c (.int .u32 x158001_1) BK157.out 1 rfl;have hcz64_2:=qq_c (.int .u32 x158002_1) BK157.out 2 rfl;have hcz64_3:=qq_c (.int .i64 x158003_1) BK157.out 3 rfl;have hcz64_4:=qq_c (.int .i64 x158004_1) BK157.out 4 rfl;have hfz64_0:=Qcu BK157.out 0;have hfz64_1:=Qcu BK157.out 1;have hfz64_2:=Qcu BK157.out 2;have hfz64_3:=Qcu BK157.out 3;have hfz64_4:=Qcu BK157.out 4) |((with_reducible refine Qhd (f:=52) rfl ?_);refine Qfk (some 48) rfl rfl Tryz.func52 qq_5 rfl #[.agg #[.int .u8 a0_0,.int .u32 a0_1],.int .u32 ((x158002_1+1)%4294967296)] rfl qq_1 ?_;(with_reducible refine(Qbf.calls a0_0 a0_1 ((x158002_1+1)%4294967296) t177 t178 t179 t180 t181 t182 _ A38.out).mono ?_);rintro e w65 ⟨rfl,hb⟩;refine⟨_,rfl,?_⟩;have n0_:=QA (Kd.R_below qq_3 hb);have n1_:=QA (Qdg (g:=gb150) (o:=.cells #[.int .u8 a0_0,.int .u32 a0_1] 27 (0,0)) qq_0 hb);have n2_:=QA (Qdg (g:=gb157) (o:=.cells #[.int .u8 x158000_1,.int .u32 x158001_1,.int .u32 x158002_1,.int .i64 x158003_1,.int .i64 x158004_1] 47 (0,0)) qq_0 hb);have n3_:=QA (Qdg (g:=gb164) (o:=.cells #[.int .u8 t158,.int .u32 t159,.int .u32 t160,.int .i64 t161,.int .i64 t162] 47 (0,0)) qq_0 hb);have n4_:=QA (Qeb qq_b hb);clear HO_10 BK150 BK157 BK164 HB;have HO_10:=n0_;have BK150:=n1_;have BK157:=n2_;have BK164:=n3_;have HB:=n4_;clear n0_ n1_ n2_ n3_ n4_;(try clear hb);(try clear hb2);(try clear hk);(try clear hi);have hcz66_0:=qq_c (.int .u8 x158000_1) BK157.out 0 rfl;have hcz66_1:=qq_c (.int .u32 x158001_1) BK157.out 1 rfl;have hcz66_2:=qq_c (.int .u32 x158002_1) BK157.out 2 rfl;have hcz66_3:=qq_c (.int .i64 x158003_1) BK157.out 3 rfl;have hcz66_4:=qq_c (.int .i64 x158004_1) BK157.out 4 rfl;have hfz66_0:=Qcu BK157.out 0;have hfz66_1:=Qcu BK157.out 1;have hfz66_2:=Qcu BK157.out 2;have hfz66_3:=Qcu BK157.out 3;have hfz66_4:=Qcu BK157.out 4))
          go_ret2
          exact⟨_,by first|rfl |(simp[Qhh,Qhi]<;>rfl) |(simp[*,Qhh,Qhi]<;>rfl),by first|exact Kd.R_nil _ _ _ _ _|exact Kd.N_nil _ _ _ _ _|exact Kd.V_nil _ _ _ _ _|exact Kd.Q_nil _ _ _ _ _|exact Kd.S_nil _ _ _ _ _,qq_b⟩
       ·replace c22:=Bool.eq_false_iff.mpr c22
        subst c22
        have H1:(some (([]:List Int),6))=some (r1,r2):=by rw[if_neg (show ¬(false=true)by decide)]at H;exact H
        clear H
        have H:=H1
        clear H1
        simp only[Option.some.injEq,Prod.mk.injEq]at H
        obtain⟨rfl,rfl⟩:=H
        have p165:0≤(x31_1:Int):=of_decide_eq_true qq_6
        have q165:x31_1<(l1.length:Int):=of_decide_eq_true qq_6
        obtain⟨ad165,e165,hx165_0⟩:=Kd.at_int HR1.out x31_1 p165 q165
        cases e165
        replace hx165_0:=qq_h HB.out hx165_0
        replace p165:=eq_true p165
        replace q165:=eq_true q165
        have hnb67:=NB164_150.out
        have hnc67:=NB150_164.out
        have hnb68:=NB164_157.out
        have hnc68:=NB157_164.out
        have hcz69_0:=qq_c (.int .u8 t158) BK164.out 0 rfl
        have hcz69_1:=qq_c (.int .u32 t159) BK164.out 1 rfl
        have hcz69_2:=qq_c (.int .u32 t160) BK164.out 2 rfl
        have hcz69_3:=qq_c (.int .i64 t161) BK164.out 3 rfl
        have hcz69_4:=qq_c (.int .i64 t162) BK164.out 4 rfl
        have hfz69_0:=Qcu BK164.out 0
        have hfz69_1:=Qcu BK164.out 1
        have hfz69_2:=Qcu BK164.out 2
        have hfz69_3:=Qcu BK164.out 3
        have hfz69_4:=Qcu BK164.out 4
        go_wp2_with (first |((with_reducible refine Qhd (f:=100) rfl ?_);refine Qfk (some 37) rfl rfl Tryz.func100 qq_5 rfl #[.agg #[.int .u8 t158,.int .u32 t159,.int .u32 t160,.int .i64 t161,.int .i64 t162],.int .i64 (rd l1 x31_1)] rfl qq_1 ?_;(with_reducible refine(Qbh.calls t158 t159 t160 t161 t162 (rd l1 x31_1) false _ A21.out).mono ?_);rintro e w70 ⟨rfl,hb⟩;refine⟨_,rfl,?_⟩;have n0_:=QA (Kd.R_below qq_3 hb);have n1_:=QA (Qdg (g:=gb150) (o:=.cells #[.int .u8 a0_0,.int .u32 a0_1] 27 (0,0)) qq_0 hb);have n2_:=QA (Qdg (g:=gb157) (o:=.cells #[.int .u8 x158000_1,.int .u32 x158001_1,.int .u32 x158002_1,.int .i64 x158003_1,.int .i64 x158004_1] 47 (0,0)) qq_0 hb);have n3_:=QA (Qdg (g:=gb164) (o:=.cells #[.int .u8 t158,.int .u32 t159,.int .u32 t160,.int .i64 t161,.int .i64 t162] 47 (0,0)) qq_0 hb);have n4_:=QA (Qeb qq_b hb);clear HO_10 BK150 BK157 BK164 HB;have HO_10:=n0_;have BK150:=n1_;have BK157:=n2_;have BK164:=n3_;have HB:=n4_;clear n0_ n1_ n2_ n3_ n4_;(try clear hb);(try clear hb2);(try clear hk);(try clear hi)))
        go_ret2
        exact⟨_,by first|rfl |(simp[Qhh,Qhi]<;>rfl) |(simp[*,Qhh,Qhi]<;>rfl),by first|exact Kd.R_nil _ _ _ _ _|exact Kd.N_nil _ _ _ _ _|exact Kd.V_nil _ _ _ _ _|exact Kd.Q_nil _ _ _ _ _|exact Kd.S_nil _ _ _ _ _,qq_b⟩
      ·rw[if_neg c20]at H
       exact absurd H (by simp)
     ·rw[if_neg c19]at H
      exact absurd H (by simp)
    ·rw[if_neg c18]at H
     have c18b0:decide (x31_1<(l1.length:Int))=false:=decide_eq_false c18
     clear c18
     simp only[Option.some.injEq,Prod.mk.injEq]at H
     obtain⟨rfl,rfl⟩:=H
     go_wp2
     go_ret2
     exact⟨_,by first|rfl |(simp[Qhh,Qhi]<;>rfl) |(simp[*,Qhh,Qhi]<;>rfl),by(with_reducible repeat(first|apply Kd.R_alloc|apply Kd.R_drewN|apply Kd.R_drew));exact HO_10.out,qq_b⟩
 ·rw[if_neg c4]at H
  have c4b0:(t156 == 0)=false:=beq_eq_false_iff_ne.mpr c4
  have c4b1:(t156 != 0)=true:=bne_iff_ne.mpr c4
  simp only[Option.some.injEq,Prod.mk.injEq]at H
  obtain⟨rfl,rfl⟩:=H
  go_enter Tryz.func125,Tryz.ntmps125
  go_wp2_with (first |((with_reducible refine Qel (N:=2) rfl ?_);refine qq_e 2 #[.int .u8 a0_0,.int .u32 a0_1] 27 ?_;intro gb150 hg w71 hbox hb;have n0_:=QA (Qeb qq_b hb);have n1_:=QA (hbox);have n2_:=QA (qq_s hg:w.heap.size≤gb150);have n3_:=n2_;clear HB;have HB:=n0_;have BK150:=n1_;have GW150:=n2_;have GE150:=n3_;clear n0_ n1_ n2_ n3_ hb hbox hg;have hcz72_0:=qq_c (.int .u8 a0_0) BK150.out 0 rfl;have hcz72_1:=qq_c (.int .u32 a0_1) BK150.out 1 rfl;have hfz72_0:=Qcu BK150.out 0;have hfz72_1:=Qcu BK150.out 1) |((with_reducible refine Qhd (f:=52) rfl ?_);refine Qfk (some 15) rfl rfl Tryz.func52 qq_5 rfl #[.agg #[.int .u8 a0_0,.int .u32 a0_1],.int .u32 0] rfl qq_1 ?_;(with_reducible refine(Qbf.calls a0_0 a0_1 0 t151 t152 t153 t154 t155 t156 _ A3.out).mono ?_);rintro e w73 ⟨rfl,hb⟩;refine⟨_,rfl,?_⟩;have n0_:=QA (Qdg (g:=gb150) (o:=.cells #[.int .u8 a0_0,.int .u32 a0_1] 27 (0,0)) qq_0 hb);have n1_:=QA (Qeb qq_b hb);clear BK150 HB;have BK150:=n0_;have HB:=n1_;clear n0_ n1_;(try clear hb);(try clear hb2);(try clear hk);(try clear hi)) |((with_reducible refine Qel (N:=6) rfl ?_);refine qq_e 6 #[.int .u8 0,.int .u32 0,.int .u32 0,.int .i64 0,.int .i64 0] 47 ?_;intro gb157 hg w74 hbox hb;have n0_:=QA (Qdg (g:=gb150) (o:=.cells #[.int .u8 a0_0,.int .u32 a0_1] 27 (0,0)) qq_0 hb);have n1_:=QA (Qeb qq_b hb);have n2_:=QA (hbox);have n3_:=QA (qq_s hg:w.heap.size≤gb157);have n4_:=n3_;have n5_:=QA ((by rw[hg];exact Nat.ne_of_lt (Qcs (g:=gb150) (o:=.cells #[.int .u8 a0_0,.int .u32 a0_1] 27 (0,0)) qq_0):gb150≠gb157));have n6_:=QA ((by rw[hg];exact Nat.ne_of_gt (Qcs (g:=gb150) (o:=.cells #[.int .u8 a0_0,.int .u32 a0_1] 27 (0,0)) qq_0):gb157≠gb150));clear BK150 HB;have BK150:=n0_;have HB:=n1_;have BK157:=n2_;have GW157:=n3_;have GE157:=n4_;have NB150_157:=n5_;have NB157_150:=n6_;clear n0_ n1_ n2_ n3_ n4_ n5_ n6_ hb hbox hg;have hnb75:=NB157_150.out;have hnc75:=NB150_157.out;have hcz76_0:=qq_c (.int .u8 0) BK157.out 0 rfl;have hcz76_1:=qq_c (.int .u32 0) BK157.out 1 rfl;have hcz76_2:=qq_c (.int .u32 0) BK157.out 2 rfl;have hcz76_3:=qq_c (.int .i64 0) BK157.out 3 rfl;have hcz76_4:=qq_c (.int .i64 0) BK157.out 4 rfl;have hfz76_0:=Qcu BK157.out 0;have hfz76_1:=Qcu BK157.out 1;have hfz76_2:=Qcu BK157.out 2;have hfz76_3:=Qcu BK157.out 3;have hfz76_4:=Qcu BK157.out 4))
  go_ret2
  exact⟨_,by first|rfl |(simp[Qhh,Qhi]<;>rfl) |(simp[*,Qhh,Qhi]<;>rfl),by first|exact Kd.R_nil _ _ _ _ _|exact Kd.N_nil _ _ _ _ _|exact Kd.V_nil _ _ _ _ _|exact Kd.Q_nil _ _ _ _ _|exact Kd.S_nil _ _ _ _ _,qq_b⟩
end Go.Proofs.YtnnofopfbeklbaaGreat.C
end
