/- Texts of this claim's author and of the print of its functions, merged by merge.py. -/
import Derived.Test.YtnnofopfbeklbaaGreatMI02
import Derived.Test.YtnnofopfbeklbaaGreatMI03
set_option linter.unusedVariables false
set_option linter.unusedSimpArgs false
set_option maxHeartbeats 8000000
set_option maxRecDepth 100000
section
namespace Go.Proofs.YtnnofopfbeklbaaGreat.C
open Go.RowKit Go.Proofs.YtnnofopfbeklbaaGreatW.PrintWords Go.Proofs.YtnnofopfbeklbaaGreatW.PrintLast Go.Proofs.YtnnofopfbeklbaaGreatW.PrintMore
attribute [local go_sem] Qgv Qgw Qgx Qgy Qgz Qha Qhb Qhc
def Qbh.f(a0_0:Int)(a0_1:Int)(a0_2:Int)(a0_3:Int)(a0_4:Int)(a1:Int):Option (Bool):=if a1≥1 then((Qbi.f a0_0 a0_1 a0_2 a0_3 a0_4).bind fun t132=>(some (decide (a1≤t132))))else(some false)
theorem Qbh.calls(a0_0:Int)(a0_1:Int)(a0_2:Int)(a0_3:Int)(a0_4:Int)(a1:Int)(r:Bool)(w:World)(h:Qbh.f a0_0 a0_1 a0_2 a0_3 a0_4 a1=some r) :
  Calls Tryz.prog 100 #[.agg #[.int .u8 a0_0,.int .u32 a0_1,.int .u32 a0_2,.int .i64 a0_3,.int .i64 a0_4],.int .i64 a1] w fun e w'=>e=.returned (.bool r)∧Below w.heap.size w w':=by
 have hu47:=Tryz.underlying47
 have HB:=QA (Below.refl w.heap.size w)
 have H:(if a1≥1 then((Qbi.f a0_0 a0_1 a0_2 a0_3 a0_4).bind fun t132=>(some (decide (a1≤t132))))else(some false))=some r:=h
 clear h
 by_cases c3:a1≥1
 ·rw[if_pos c3]at H
  have c3b0:decide (1≤a1)=true:=decide_eq_true c3
  clear c3
  replace H:=Option.bind_eq_some_iff.mp H
  obtain⟨t132,A40,H⟩:=H
  replace H:(some (decide (a1≤t132)))=some r:=H
  have A4:=QA A40
  clear A40
  obtain rfl:=Option.some.inj H
  go_enter Tryz.func100,Tryz.ntmps100
  go_wp2_with (first |((with_reducible refine Qel (N:=2) rfl ?_);refine qq_e 2 #[.int .u8 a0_0,.int .u32 a0_1,.int .u32 a0_2,.int .i64 a0_3,.int .i64 a0_4] 47 ?_;intro gb131 hg w5 hbox hb;have n0_:=QA (Qeb qq_b hb);have n1_:=QA (hbox);have n2_:=QA (qq_s hg:w.heap.size≤gb131);have n3_:=n2_;clear HB;have HB:=n0_;have BK131:=n1_;have GW131:=n2_;have GE131:=n3_;clear n0_ n1_ n2_ n3_ hb hbox hg;have hcz6_0:=qq_c (.int .u8 a0_0) BK131.out 0 rfl;have hcz6_1:=qq_c (.int .u32 a0_1) BK131.out 1 rfl;have hcz6_2:=qq_c (.int .u32 a0_2) BK131.out 2 rfl;have hcz6_3:=qq_c (.int .i64 a0_3) BK131.out 3 rfl;have hcz6_4:=qq_c (.int .i64 a0_4) BK131.out 4 rfl;have hfz6_0:=Qcu BK131.out 0;have hfz6_1:=Qcu BK131.out 1;have hfz6_2:=Qcu BK131.out 2;have hfz6_3:=Qcu BK131.out 3;have hfz6_4:=Qcu BK131.out 4) |(go_at_call 154;(with_reducible refine(Qbi.calls a0_0 a0_1 a0_2 a0_3 a0_4 t132 _ A4.out).mono ?_);rintro e w7 ⟨rfl,hb⟩;have n0_:=QA (Qdg (g:=gb131) (o:=.cells #[.int .u8 a0_0,.int .u32 a0_1,.int .u32 a0_2,.int .i64 a0_3,.int .i64 a0_4] 47 (0,0)) qq_0 hb);have n1_:=QA (Qeb qq_b hb);clear BK131 HB;have BK131:=n0_;have HB:=n1_;clear n0_ n1_;(try clear hb);(try clear hb2);(try clear hk);(try clear hi)))
  go_ret
  exact⟨by first|rfl |(simp[Qhh,Qhi]<;>rfl) |(simp[*,Qhh,Qhi]<;>rfl),qq_b⟩
 ·rw[if_neg c3]at H
  have c3b0:decide (1≤a1)=false:=decide_eq_false c3
  clear c3
  obtain rfl:=Option.some.inj H
  go_enter Tryz.func100,Tryz.ntmps100
  go_wp2_with (first |((with_reducible refine Qel (N:=2) rfl ?_);refine qq_e 2 #[.int .u8 a0_0,.int .u32 a0_1,.int .u32 a0_2,.int .i64 a0_3,.int .i64 a0_4] 47 ?_;intro gb131 hg w8 hbox hb;have n0_:=QA (Qeb qq_b hb);have n1_:=QA (hbox);have n2_:=QA (qq_s hg:w.heap.size≤gb131);have n3_:=n2_;clear HB;have HB:=n0_;have BK131:=n1_;have GW131:=n2_;have GE131:=n3_;clear n0_ n1_ n2_ n3_;clear hb hbox hg))
  go_ret
  exact⟨by first|rfl |(simp[Qhh,Qhi]<;>rfl) |(simp[*,Qhh,Qhi]<;>rfl),qq_b⟩
def Qbj.f(a0_0:Int)(a0_1:Int)(a0_2:Int)(a0_3:Int)(a0_4:Int)(a1:Int):Option (Int × Int × Int × Int × Int × Int):=(Qbh.f a0_0 a0_1 a0_2 a0_3 a0_4 a1).bind fun t144=>(if t144=true then(some (a0_0,a0_1,a0_2,wrap64 (a0_3+a1),wrap64 (a0_4+1),0))else(some (0,0,0,0,0,7)))
theorem Qbj.calls(a0_0:Int)(a0_1:Int)(a0_2:Int)(a0_3:Int)(a0_4:Int)(a1:Int)(r1:Int)(r2:Int)(r3:Int)(r4:Int)(r5:Int)(r6:Int)(w:World)(h:Qbj.f a0_0 a0_1 a0_2 a0_3 a0_4 a1=some (r1,r2,r3,r4,r5,r6)) :
  Calls Tryz.prog 59 #[.agg #[.int .u8 a0_0,.int .u32 a0_1,.int .u32 a0_2,.int .i64 a0_3,.int .i64 a0_4],.int .i64 a1] w fun e w'=>e=.returned (.tuple #[.agg #[.int .u8 r1,.int .u32 r2,.int .u32 r3,.int .i64 r4,.int .i64 r5],.int .i64 r6])∧Below w.heap.size w w':=by
 have hu47:=Tryz.underlying47
 have HB:=QA (Below.refl w.heap.size w)
 have H:((Qbh.f a0_0 a0_1 a0_2 a0_3 a0_4 a1).bind fun t144=>(if t144=true then(some (a0_0,a0_1,a0_2,wrap64 (a0_3+a1),wrap64 (a0_4+1),0))else(some (0,0,0,0,0,7))))=some (r1,r2,r3,r4,r5,r6):=h
 clear h
 replace H:=Option.bind_eq_some_iff.mp H
 obtain⟨t144,A30,H⟩:=H
 replace H:(if t144=true then(some (a0_0,a0_1,a0_2,wrap64 (a0_3+a1),wrap64 (a0_4+1),0))else(some (0,0,0,0,0,7)))=some (r1,r2,r3,r4,r5,r6):=H
 have A3:=QA A30
 clear A30
 by_cases c4:t144=true
 ·subst c4
  have H1:(some (a0_0,a0_1,a0_2,wrap64 (a0_3+a1),wrap64 (a0_4+1),0))=some (r1,r2,r3,r4,r5,r6):=by rw[if_pos rfl]at H;exact H
  clear H
  have H:=H1
  clear H1
  simp only[Option.some.injEq,Prod.mk.injEq]at H
  obtain⟨rfl,rfl,rfl,rfl,rfl,rfl⟩:=H
  go_enter Tryz.func59,Tryz.ntmps59
  go_wp2_with (first |((with_reducible refine Qel (N:=2) rfl ?_);refine qq_e 2 #[.int .u8 a0_0,.int .u32 a0_1,.int .u32 a0_2,.int .i64 a0_3,.int .i64 a0_4] 47 ?_;intro gb142 hg w5 hbox hb;have n0_:=QA (Qeb qq_b hb);have n1_:=QA (hbox);have n2_:=QA (qq_s hg:w.heap.size≤gb142);have n3_:=n2_;clear HB;have HB:=n0_;have BK142:=n1_;have GW142:=n2_;have GE142:=n3_;clear n0_ n1_ n2_ n3_;clear hb hbox hg) |((with_reducible refine Qel (N:=4) rfl ?_);refine qq_e 4 #[.int .u8 0,.int .u32 0,.int .u32 0,.int .i64 0,.int .i64 0] 47 ?_;intro gb143 hg w6 hbox hb;have n0_:=QA (Qdg (g:=gb142) (o:=.cells #[.int .u8 a0_0,.int .u32 a0_1,.int .u32 a0_2,.int .i64 a0_3,.int .i64 a0_4] 47 (0,0)) qq_0 hb);have n1_:=QA (Qeb qq_b hb);have n2_:=QA (hbox);have n3_:=QA (qq_s hg:w.heap.size≤gb143);have n4_:=n3_;have n5_:=QA ((by rw[hg];exact Nat.ne_of_lt (Qcs (g:=gb142) (o:=.cells #[.int .u8 a0_0,.int .u32 a0_1,.int .u32 a0_2,.int .i64 a0_3,.int .i64 a0_4] 47 (0,0)) qq_0):gb142≠gb143));have n6_:=QA ((by rw[hg];exact Nat.ne_of_gt (Qcs (g:=gb142) (o:=.cells #[.int .u8 a0_0,.int .u32 a0_1,.int .u32 a0_2,.int .i64 a0_3,.int .i64 a0_4] 47 (0,0)) qq_0):gb143≠gb142));clear BK142 HB;have BK142:=n0_;have HB:=n1_;have BK143:=n2_;have GW143:=n3_;have GE143:=n4_;have NB142_143:=n5_;have NB143_142:=n6_;clear n0_ n1_ n2_ n3_ n4_ n5_ n6_ hb hbox hg;have hnb7:=NB142_143.out;have hnc7:=NB143_142.out;have hcz8_0:=qq_c (.int .u8 a0_0) BK142.out 0 rfl;have hcz8_1:=qq_c (.int .u32 a0_1) BK142.out 1 rfl;have hcz8_2:=qq_c (.int .u32 a0_2) BK142.out 2 rfl;have hcz8_3:=qq_c (.int .i64 a0_3) BK142.out 3 rfl;have hcz8_4:=qq_c (.int .i64 a0_4) BK142.out 4 rfl;have hfz8_0:=Qcu BK142.out 0;have hfz8_1:=Qcu BK142.out 1;have hfz8_2:=Qcu BK142.out 2;have hfz8_3:=Qcu BK142.out 3;have hfz8_4:=Qcu BK142.out 4) |((with_reducible refine Qhd (f:=100) rfl ?_);refine Qfk (some 8) rfl rfl Tryz.func100 qq_5 rfl #[.agg #[.int .u8 a0_0,.int .u32 a0_1,.int .u32 a0_2,.int .i64 a0_3,.int .i64 a0_4],.int .i64 a1] rfl qq_1 ?_;(with_reducible refine(Qbh.calls a0_0 a0_1 a0_2 a0_3 a0_4 a1 true _ A3.out).mono ?_);rintro e w9 ⟨rfl,hb⟩;refine⟨_,rfl,?_⟩;have n0_:=QA (Qdg (g:=gb142) (o:=.cells #[.int .u8 a0_0,.int .u32 a0_1,.int .u32 a0_2,.int .i64 a0_3,.int .i64 a0_4] 47 (0,0)) qq_0 hb);have n1_:=QA (Qdg (g:=gb143) (o:=.cells #[.int .u8 0,.int .u32 0,.int .u32 0,.int .i64 0,.int .i64 0] 47 (0,0)) qq_0 hb);have n2_:=QA (Qeb qq_b hb);clear BK142 BK143 HB;have BK142:=n0_;have BK143:=n1_;have HB:=n2_;clear n0_ n1_ n2_;(try clear hb);(try clear hb2);(try clear hk);(try clear hi);have hcz10_0:=qq_c (.int .u8 a0_0) BK142.out 0 rfl;have hcz10_1:=qq_c (.int .u32 a0_1) BK142.out 1 rfl;have hcz10_2:=qq_c (.int .u32 a0_2) BK142.out 2 rfl;have hcz10_3:=qq_c (.int .i64 a0_3) BK142.out 3 rfl;have hcz10_4:=qq_c (.int .i64 a0_4) BK142.out 4 rfl;have hfz10_0:=Qcu BK142.out 0;have hfz10_1:=Qcu BK142.out 1;have hfz10_2:=Qcu BK142.out 2;have hfz10_3:=Qcu BK142.out 3;have hfz10_4:=Qcu BK142.out 4;have hcz11_0:=qq_c (.int .u8 0) BK143.out 0 rfl;have hcz11_1:=qq_c (.int .u32 0) BK143.out 1 rfl;have hcz11_2:=qq_c (.int .u32 0) BK143.out 2 rfl;have hcz11_3:=qq_c (.int .i64 0) BK143.out 3 rfl;have hcz11_4:=qq_c (.int .i64 0) BK143.out 4 rfl;have hfz11_0:=Qcu BK143.out 0;have hfz11_1:=Qcu BK143.out 1;have hfz11_2:=Qcu BK143.out 2;have hfz11_3:=Qcu BK143.out 3;have hfz11_4:=Qcu BK143.out 4))
  refine bodyPost_ret (Qdi rfl _ _ gb143 47 #[.int .u8 a0_0,.int .u32 a0_1,.int .u32 a0_2,.int .i64 (wrap64 (a0_3+a1)),.int .i64 (wrap64 (a0_4+1))] (0,0) _ rfl (by(with_reducible repeat(first|apply Qdf|apply Qde|apply Qdd));refine Qeg (cs:=#[.int .u8 a0_0,.int .u32 a0_1,.int .u32 a0_2,.int .i64 (wrap64 (a0_3+a1)),.int .i64 0]) ?_ 4 _ rfl;(with_reducible repeat(first|apply Qdf|apply Qde|apply Qdd));refine Qeg (cs:=#[.int .u8 a0_0,.int .u32 a0_1,.int .u32 a0_2,.int .i64 0,.int .i64 0]) ?_ 3 _ rfl;(with_reducible repeat(first|apply Qdf|apply Qde|apply Qdd));refine Qeg (cs:=#[.int .u8 a0_0,.int .u32 a0_1,.int .u32 0,.int .i64 0,.int .i64 0]) ?_ 2 _ rfl;(with_reducible repeat(first|apply Qdf|apply Qde|apply Qdd));refine Qeg (cs:=#[.int .u8 a0_0,.int .u32 0,.int .u32 0,.int .i64 0,.int .i64 0]) ?_ 1 _ rfl;(with_reducible repeat(first|apply Qdf|apply Qde|apply Qdd));refine Qeg (cs:=#[.int .u8 0,.int .u32 0,.int .u32 0,.int .i64 0,.int .i64 0]) ?_ 0 _ rfl;(with_reducible repeat(first|apply Qdf|apply Qde|apply Qdd));refine Qcr ?_ NB143_142.out _;(with_reducible repeat(first|apply Qdf|apply Qde|apply Qdd));refine Qcr ?_ NB143_142.out _;(with_reducible repeat(first|apply Qdf|apply Qde|apply Qdd));exact BK143.out) Tryz.underlying47 rfl qq_5) rfl ?_
  exact⟨by first|rfl |(simp[Qhh,Qhi]<;>rfl) |(simp[*,Qhh,Qhi]<;>rfl),qq_b⟩
 ·replace c4:=Bool.eq_false_iff.mpr c4
  subst c4
  have H1:(some (0,0,0,0,0,7))=some (r1,r2,r3,r4,r5,r6):=by rw[if_neg (show ¬(false=true)by decide)]at H;exact H
  clear H
  have H:=H1
  clear H1
  simp only[Option.some.injEq,Prod.mk.injEq]at H
  obtain⟨rfl,rfl,rfl,rfl,rfl,rfl⟩:=H
  go_enter Tryz.func59,Tryz.ntmps59
  go_wp2_with (first |((with_reducible refine Qel (N:=2) rfl ?_);refine qq_e 2 #[.int .u8 a0_0,.int .u32 a0_1,.int .u32 a0_2,.int .i64 a0_3,.int .i64 a0_4] 47 ?_;intro gb142 hg w12 hbox hb;have n0_:=QA (Qeb qq_b hb);have n1_:=QA (hbox);have n2_:=QA (qq_s hg:w.heap.size≤gb142);have n3_:=n2_;clear HB;have HB:=n0_;have BK142:=n1_;have GW142:=n2_;have GE142:=n3_;clear n0_ n1_ n2_ n3_;clear hb hbox hg) |((with_reducible refine Qel (N:=4) rfl ?_);refine qq_e 4 #[.int .u8 0,.int .u32 0,.int .u32 0,.int .i64 0,.int .i64 0] 47 ?_;intro gb143 hg w13 hbox hb;have n0_:=QA (Qdg (g:=gb142) (o:=.cells #[.int .u8 a0_0,.int .u32 a0_1,.int .u32 a0_2,.int .i64 a0_3,.int .i64 a0_4] 47 (0,0)) qq_0 hb);have n1_:=QA (Qeb qq_b hb);have n2_:=QA (hbox);have n3_:=QA (qq_s hg:w.heap.size≤gb143);have n4_:=n3_;have n5_:=QA ((by rw[hg];exact Nat.ne_of_lt (Qcs (g:=gb142) (o:=.cells #[.int .u8 a0_0,.int .u32 a0_1,.int .u32 a0_2,.int .i64 a0_3,.int .i64 a0_4] 47 (0,0)) qq_0):gb142≠gb143));have n6_:=QA ((by rw[hg];exact Nat.ne_of_gt (Qcs (g:=gb142) (o:=.cells #[.int .u8 a0_0,.int .u32 a0_1,.int .u32 a0_2,.int .i64 a0_3,.int .i64 a0_4] 47 (0,0)) qq_0):gb143≠gb142));clear BK142 HB;have BK142:=n0_;have HB:=n1_;have BK143:=n2_;have GW143:=n3_;have GE143:=n4_;have NB142_143:=n5_;have NB143_142:=n6_;clear n0_ n1_ n2_ n3_ n4_ n5_ n6_ hb hbox hg;have hnb14:=NB142_143.out;have hnc14:=NB143_142.out;have hcz15_0:=qq_c (.int .u8 a0_0) BK142.out 0 rfl;have hcz15_1:=qq_c (.int .u32 a0_1) BK142.out 1 rfl;have hcz15_2:=qq_c (.int .u32 a0_2) BK142.out 2 rfl;have hcz15_3:=qq_c (.int .i64 a0_3) BK142.out 3 rfl;have hcz15_4:=qq_c (.int .i64 a0_4) BK142.out 4 rfl;have hfz15_0:=Qcu BK142.out 0;have hfz15_1:=Qcu BK142.out 1;have hfz15_2:=Qcu BK142.out 2;have hfz15_3:=Qcu BK142.out 3;have hfz15_4:=Qcu BK142.out 4) |((with_reducible refine Qhd (f:=100) rfl ?_);refine Qfk (some 8) rfl rfl Tryz.func100 qq_5 rfl #[.agg #[.int .u8 a0_0,.int .u32 a0_1,.int .u32 a0_2,.int .i64 a0_3,.int .i64 a0_4],.int .i64 a1] rfl qq_1 ?_;(with_reducible refine(Qbh.calls a0_0 a0_1 a0_2 a0_3 a0_4 a1 false _ A3.out).mono ?_);rintro e w16 ⟨rfl,hb⟩;refine⟨_,rfl,?_⟩;have n0_:=QA (Qdg (g:=gb142) (o:=.cells #[.int .u8 a0_0,.int .u32 a0_1,.int .u32 a0_2,.int .i64 a0_3,.int .i64 a0_4] 47 (0,0)) qq_0 hb);have n1_:=QA (Qdg (g:=gb143) (o:=.cells #[.int .u8 0,.int .u32 0,.int .u32 0,.int .i64 0,.int .i64 0] 47 (0,0)) qq_0 hb);have n2_:=QA (Qeb qq_b hb);clear BK142 BK143 HB;have BK142:=n0_;have BK143:=n1_;have HB:=n2_;clear n0_ n1_ n2_;(try clear hb);(try clear hb2);(try clear hk);(try clear hi);have hcz17_0:=qq_c (.int .u8 0) BK143.out 0 rfl;have hcz17_1:=qq_c (.int .u32 0) BK143.out 1 rfl;have hcz17_2:=qq_c (.int .u32 0) BK143.out 2 rfl;have hcz17_3:=qq_c (.int .i64 0) BK143.out 3 rfl;have hcz17_4:=qq_c (.int .i64 0) BK143.out 4 rfl;have hfz17_0:=Qcu BK143.out 0;have hfz17_1:=Qcu BK143.out 1;have hfz17_2:=Qcu BK143.out 2;have hfz17_3:=Qcu BK143.out 3;have hfz17_4:=Qcu BK143.out 4))
  refine bodyPost_ret (Qdi rfl _ _ gb143 47 #[.int .u8 0,.int .u32 0,.int .u32 0,.int .i64 0,.int .i64 0] (0,0) _ rfl (by(with_reducible repeat(first|apply Qdf|apply Qde|apply Qdd));refine Qeg (cs:=#[.int .u8 0,.int .u32 0,.int .u32 0,.int .i64 0,.int .i64 0]) ?_ 4 _ rfl;(with_reducible repeat(first|apply Qdf|apply Qde|apply Qdd));refine Qeg (cs:=#[.int .u8 0,.int .u32 0,.int .u32 0,.int .i64 0,.int .i64 0]) ?_ 3 _ rfl;(with_reducible repeat(first|apply Qdf|apply Qde|apply Qdd));refine Qeg (cs:=#[.int .u8 0,.int .u32 0,.int .u32 0,.int .i64 0,.int .i64 0]) ?_ 2 _ rfl;(with_reducible repeat(first|apply Qdf|apply Qde|apply Qdd));refine Qeg (cs:=#[.int .u8 0,.int .u32 0,.int .u32 0,.int .i64 0,.int .i64 0]) ?_ 1 _ rfl;(with_reducible repeat(first|apply Qdf|apply Qde|apply Qdd));refine Qeg (cs:=#[.int .u8 0,.int .u32 0,.int .u32 0,.int .i64 0,.int .i64 0]) ?_ 0 _ rfl;(with_reducible repeat(first|apply Qdf|apply Qde|apply Qdd));exact BK143.out) Tryz.underlying47 rfl qq_5) rfl ?_
  exact⟨by first|rfl |(simp[Qhh,Qhi]<;>rfl) |(simp[*,Qhh,Qhi]<;>rfl),qq_b⟩
def Qab.f(a0:Int)(a1:Int):Option (Int × Int):=some (IntKind.u64.wrap ((IntKind.u64.wrap ((IntKind.u64.wrap ((a0/4294967296)*(a1/4294967296)))+((IntKind.u64.wrap ((IntKind.u64.wrap ((a0/4294967296)*(Go.bits .and .u64 a1 4294967295)))+((IntKind.u64.wrap ((Go.bits .and .u64 a0 4294967295)*(Go.bits .and .u64 a1 4294967295)))/4294967296)))/4294967296)))+((IntKind.u64.wrap ((Go.bits .and .u64 (IntKind.u64.wrap ((IntKind.u64.wrap ((a0/4294967296)*(Go.bits .and .u64 a1 4294967295)))+((IntKind.u64.wrap ((Go.bits .and .u64 a0 4294967295)*(Go.bits .and .u64 a1 4294967295)))/4294967296))) 4294967295)+(IntKind.u64.wrap ((Go.bits .and .u64 a0 4294967295)*(a1/4294967296)))))/4294967296)),IntKind.u64.wrap (a0*a1))
theorem Qab.calls(a0:Int)(a1:Int)(r1:Int)(r2:Int)(w:World)(h:Qab.f a0 a1=some (r1,r2)) :
  Calls Tryz.prog 218 #[.int .u64 a0,.int .u64 a1] w fun e w'=>e=.returned (.tuple #[.int .u64 r1,.int .u64 r2])∧Drawn0 w w':=by
 have H:(some (IntKind.u64.wrap ((IntKind.u64.wrap ((IntKind.u64.wrap ((a0/4294967296)*(a1/4294967296)))+((IntKind.u64.wrap ((IntKind.u64.wrap ((a0/4294967296)*(Go.bits .and .u64 a1 4294967295)))+((IntKind.u64.wrap ((Go.bits .and .u64 a0 4294967295)*(Go.bits .and .u64 a1 4294967295)))/4294967296)))/4294967296)))+((IntKind.u64.wrap ((Go.bits .and .u64 (IntKind.u64.wrap ((IntKind.u64.wrap ((a0/4294967296)*(Go.bits .and .u64 a1 4294967295)))+((IntKind.u64.wrap ((Go.bits .and .u64 a0 4294967295)*(Go.bits .and .u64 a1 4294967295)))/4294967296))) 4294967295)+(IntKind.u64.wrap ((Go.bits .and .u64 a0 4294967295)*(a1/4294967296)))))/4294967296)),IntKind.u64.wrap (a0*a1)))=some (r1,r2):=h
 clear h
 simp only[Option.some.injEq,Prod.mk.injEq]at H
 obtain⟨rfl,rfl⟩:=H
 go_enter Tryz.func218,Tryz.ntmps218
 go_wp2
 go_ret2
 exact⟨by first|rfl |(simp;done) |(simp[*];done),by repeat(first|exact Drawn0.refl _|apply Drawn0.step)⟩
def Qaa.f(a0:Int)(a1:Int):Option (Int × Int):=(Qab.f a0 a1).bind fun bt114=>(some (bt114.1,bt114.2))
theorem Qaa.calls(a0:Int)(a1:Int)(r1:Int)(r2:Int)(w:World)(h:Qaa.f a0 a1=some (r1,r2)) :
  Calls Tryz.prog 168 #[.int .u64 a0,.int .u64 a1] w fun e w'=>e=.returned (.tuple #[.int .u64 r1,.int .u64 r2])∧Drawn0 w w':=by
 have H:((Qab.f a0 a1).bind fun bt114=>(some (bt114.1,bt114.2)))=some (r1,r2):=h
 clear h
 replace H:=Option.bind_eq_some_iff.mp H
 obtain⟨⟨t114,t115⟩,A30,H⟩:=H
 replace H:(some (t114,t115))=some (r1,r2):=H
 have A3:=QA A30
 clear A30
 simp only[Option.some.injEq,Prod.mk.injEq]at H
 obtain⟨rfl,rfl⟩:=H
 go_enter Tryz.func168,Tryz.ntmps168
 go_wp2_with (first |((with_reducible refine Qhd (f:=218) rfl ?_);refine Qfk (some 25) rfl rfl Tryz.func218 qq_5 rfl #[.int .u64 a0,.int .u64 a1] rfl qq_1 ?_;(with_reducible refine(Qab.calls a0 a1 t114 t115 _ A3.out).mono ?_);rintro e w' ⟨rfl,⟨nd,rfl⟩⟩;refine⟨_,rfl,?_⟩))
 go_ret2
 exact⟨by first|rfl |(simp;done) |(simp[*];done),by repeat(first|exact Drawn0.refl _|apply Drawn0.step)⟩
def Qai.f(a0:Int):Option (Bool):=some (a0 != a0)
theorem Qai.calls(a0:Int)(r:Bool)(w:World)(h:Qai.f a0=some r) :
  Calls Tryz.prog 216 #[.int .u32 a0] w fun e w'=>e=.returned (.bool r)∧Drawn0 w w':=by
 have H:(some (a0 != a0))=some r:=h
 clear h
 obtain rfl:=Option.some.inj H
 go_enter Tryz.func216,Tryz.ntmps216
 go_wp2
 go_ret
 exact⟨by first|rfl |(simp;done) |(simp[*];done),by repeat(first|exact Drawn0.refl _|apply Drawn0.step)⟩
def Qaf.f(a0:Int)(a1:Int):Option (Int):=(Qai.f a0).bind fun t211=>((Qai.f a1).bind fun t212=>(if t211=true then(if t212=true then(some 0)else(some (-1)))else(if t212=true then(some 1)else(if a0<a1 then(some (-1))else(if a0 > a1 then(some 1)else(some 0))))))
theorem Qaf.calls(a0:Int)(a1:Int)(r:Int)(w:World)(h:Qaf.f a0 a1=some r) :
  Calls Tryz.prog 167 #[.int .u32 a0,.int .u32 a1] w fun e w'=>e=.returned (.int .i64 r)∧Drawn0 w w':=by
 have H:((Qai.f a0).bind fun t211=>((Qai.f a1).bind fun t212=>(if t211=true then(if t212=true then(some 0)else(some (-1)))else(if t212=true then(some 1)else(if a0<a1 then(some (-1))else(if a0 > a1 then(some 1)else(some 0)))))))=some r:=h
 clear h
 replace H:=Option.bind_eq_some_iff.mp H
 obtain⟨t211,A30,H⟩:=H
 replace H:((Qai.f a1).bind fun t212=>(if t211=true then(if t212=true then(some 0)else(some (-1)))else(if t212=true then(some 1)else(if a0<a1 then(some (-1))else(if a0 > a1 then(some 1)else(some 0))))))=some r:=H
 have A3:=QA A30
 clear A30
 replace H:=Option.bind_eq_some_iff.mp H
 obtain⟨t212,A40,H⟩:=H
 replace H:(if t211=true then(if t212=true then(some 0)else(some (-1)))else(if t212=true then(some 1)else(if a0<a1 then(some (-1))else(if a0 > a1 then(some 1)else(some 0)))))=some r:=H
 have A4:=QA A40
 clear A40
 by_cases c5:t211=true
 ·subst c5
  have H1:(if t212=true then(some 0)else(some (-1)))=some r:=by rw[if_pos rfl]at H;exact H
  clear H
  have H:=H1
  clear H1
  by_cases c6:t212=true
  ·subst c6
   have H1:(some 0)=some r:=by rw[if_pos rfl]at H;exact H
   clear H
   have H:=H1
   clear H1
   obtain rfl:=Option.some.inj H
   go_enter Tryz.func167,Tryz.ntmps167
   go_wp2_with (first |((with_reducible refine Qhd (f:=216) rfl ?_);refine Qfk (some 8) rfl rfl Tryz.func216 qq_5 rfl #[.int .u32 a0] rfl qq_1 ?_;(with_reducible refine(Qai.calls a0 true _ A3.out).mono ?_);rintro e w' ⟨rfl,⟨nd,rfl⟩⟩;refine⟨_,rfl,?_⟩) |((with_reducible refine Qhd (f:=216) rfl ?_);refine Qfk (some 10) rfl rfl Tryz.func216 qq_5 rfl #[.int .u32 a1] rfl qq_1 ?_;(with_reducible refine(Qai.calls a1 true _ A4.out).mono ?_);rintro e w' ⟨rfl,⟨nd,rfl⟩⟩;refine⟨_,rfl,?_⟩))
   go_ret
   exact⟨by first|rfl |(simp;done) |(simp[*];done),by repeat(first|exact Drawn0.refl _|apply Drawn0.step)⟩
  ·replace c6:=Bool.eq_false_iff.mpr c6
   subst c6
   have H1:(some (-1))=some r:=by rw[if_neg (show ¬(false=true)by decide)]at H;exact H
   clear H
   have H:=H1
   clear H1
   obtain rfl:=Option.some.inj H
   go_enter Tryz.func167,Tryz.ntmps167
   go_wp2_with (first |((with_reducible refine Qhd (f:=216) rfl ?_);refine Qfk (some 8) rfl rfl Tryz.func216 qq_5 rfl #[.int .u32 a0] rfl qq_1 ?_;(with_reducible refine(Qai.calls a0 true _ A3.out).mono ?_);rintro e w' ⟨rfl,⟨nd,rfl⟩⟩;refine⟨_,rfl,?_⟩) |((with_reducible refine Qhd (f:=216) rfl ?_);refine Qfk (some 10) rfl rfl Tryz.func216 qq_5 rfl #[.int .u32 a1] rfl qq_1 ?_;(with_reducible refine(Qai.calls a1 false _ A4.out).mono ?_);rintro e w' ⟨rfl,⟨nd,rfl⟩⟩;refine⟨_,rfl,?_⟩))
   go_ret
   exact⟨by first|rfl |(simp;done) |(simp[*];done),by repeat(first|exact Drawn0.refl _|apply Drawn0.step)⟩
 ·replace c5:=Bool.eq_false_iff.mpr c5
  subst c5
  have H1:(if t212=true then(some 1)else(if a0<a1 then(some (-1))else(if a0 > a1 then(some 1)else(some 0))))=some r:=by rw[if_neg (show ¬(false=true)by decide)]at H;exact H
  clear H
  have H:=H1
  clear H1
  by_cases c7:t212=true
  ·subst c7
   have H1:(some 1)=some r:=by rw[if_pos rfl]at H;exact H
   clear H
   have H:=H1
   clear H1
   obtain rfl:=Option.some.inj H
   go_enter Tryz.func167,Tryz.ntmps167
   go_wp2_with (first |((with_reducible refine Qhd (f:=216) rfl ?_);refine Qfk (some 8) rfl rfl Tryz.func216 qq_5 rfl #[.int .u32 a0] rfl qq_1 ?_;(with_reducible refine(Qai.calls a0 false _ A3.out).mono ?_);rintro e w' ⟨rfl,⟨nd,rfl⟩⟩;refine⟨_,rfl,?_⟩) |((with_reducible refine Qhd (f:=216) rfl ?_);refine Qfk (some 10) rfl rfl Tryz.func216 qq_5 rfl #[.int .u32 a1] rfl qq_1 ?_;(with_reducible refine(Qai.calls a1 true _ A4.out).mono ?_);rintro e w' ⟨rfl,⟨nd,rfl⟩⟩;refine⟨_,rfl,?_⟩))
   go_ret
   exact⟨by first|rfl |(simp;done) |(simp[*];done),by repeat(first|exact Drawn0.refl _|apply Drawn0.step)⟩
  ·replace c7:=Bool.eq_false_iff.mpr c7
   subst c7
   have H1:(if a0<a1 then(some (-1))else(if a0 > a1 then(some 1)else(some 0)))=some r:=by rw[if_neg (show ¬(false=true)by decide)]at H;exact H
   clear H
   have H:=H1
   clear H1
   by_cases c8:a0<a1
   ·rw[if_pos c8]at H
    have c8b0:decide (a0<a1)=true:=decide_eq_true c8
    clear c8
    obtain rfl:=Option.some.inj H
    go_enter Tryz.func167,Tryz.ntmps167
    go_wp2_with (first |((with_reducible refine Qhd (f:=216) rfl ?_);refine Qfk (some 8) rfl rfl Tryz.func216 qq_5 rfl #[.int .u32 a0] rfl qq_1 ?_;(with_reducible refine(Qai.calls a0 false _ A3.out).mono ?_);rintro e w' ⟨rfl,⟨nd,rfl⟩⟩;refine⟨_,rfl,?_⟩) |((with_reducible refine Qhd (f:=216) rfl ?_);refine Qfk (some 10) rfl rfl Tryz.func216 qq_5 rfl #[.int .u32 a1] rfl qq_1 ?_;(with_reducible refine(Qai.calls a1 false _ A4.out).mono ?_);rintro e w' ⟨rfl,⟨nd,rfl⟩⟩;refine⟨_,rfl,?_⟩))
    go_ret
    exact⟨by first|rfl |(simp;done) |(simp[*];done),by repeat(first|exact Drawn0.refl _|apply Drawn0.step)⟩
   ·rw[if_neg c8]at H
    have c8b0:decide (a0<a1)=false:=decide_eq_false c8
    clear c8
    by_cases c9:a0 > a1
    ·rw[if_pos c9]at H
     have c9b0:decide (a1<a0)=true:=decide_eq_true c9
     clear c9
     obtain rfl:=Option.some.inj H
     go_enter Tryz.func167,Tryz.ntmps167
     go_wp2_with (first |((with_reducible refine Qhd (f:=216) rfl ?_);refine Qfk (some 8) rfl rfl Tryz.func216 qq_5 rfl #[.int .u32 a0] rfl qq_1 ?_;(with_reducible refine(Qai.calls a0 false _ A3.out).mono ?_);rintro e w' ⟨rfl,⟨nd,rfl⟩⟩;refine⟨_,rfl,?_⟩) |((with_reducible refine Qhd (f:=216) rfl ?_);refine Qfk (some 10) rfl rfl Tryz.func216 qq_5 rfl #[.int .u32 a1] rfl qq_1 ?_;(with_reducible refine(Qai.calls a1 false _ A4.out).mono ?_);rintro e w' ⟨rfl,⟨nd,rfl⟩⟩;refine⟨_,rfl,?_⟩))
     go_ret
     exact⟨by first|rfl |(simp;done) |(simp[*];done),by repeat(first|exact Drawn0.refl _|apply Drawn0.step)⟩
    ·rw[if_neg c9]at H
     have c9b0:decide (a1<a0)=false:=decide_eq_false c9
     clear c9
     obtain rfl:=Option.some.inj H
     go_enter Tryz.func167,Tryz.ntmps167
     go_wp2_with (first |((with_reducible refine Qhd (f:=216) rfl ?_);refine Qfk (some 8) rfl rfl Tryz.func216 qq_5 rfl #[.int .u32 a0] rfl qq_1 ?_;(with_reducible refine(Qai.calls a0 false _ A3.out).mono ?_);rintro e w' ⟨rfl,⟨nd,rfl⟩⟩;refine⟨_,rfl,?_⟩) |((with_reducible refine Qhd (f:=216) rfl ?_);refine Qfk (some 10) rfl rfl Tryz.func216 qq_5 rfl #[.int .u32 a1] rfl qq_1 ?_;(with_reducible refine(Qai.calls a1 false _ A4.out).mono ?_);rintro e w' ⟨rfl,⟨nd,rfl⟩⟩;refine⟨_,rfl,?_⟩))
     go_ret
     exact⟨by first|rfl |(simp;done) |(simp[*];done),by repeat(first|exact Drawn0.refl _|apply Drawn0.step)⟩
def Qag.f(a0:Int)(a1:Int):Option (Int):=(Qaj.f a0).bind fun t209=>((Qaj.f a1).bind fun t210=>(if t209=true then(if t210=true then(some 0)else(some (-1)))else(if t210=true then(some 1)else(if a0<a1 then(some (-1))else(if a0 > a1 then(some 1)else(some 0))))))
theorem Qag.calls(a0:Int)(a1:Int)(r:Int)(w:World)(h:Qag.f a0 a1=some r) :
  Calls Tryz.prog 166 #[.int .u64 a0,.int .u64 a1] w fun e w'=>e=.returned (.int .i64 r)∧Drawn0 w w':=by
 have H:((Qaj.f a0).bind fun t209=>((Qaj.f a1).bind fun t210=>(if t209=true then(if t210=true then(some 0)else(some (-1)))else(if t210=true then(some 1)else(if a0<a1 then(some (-1))else(if a0 > a1 then(some 1)else(some 0)))))))=some r:=h
 clear h
 replace H:=Option.bind_eq_some_iff.mp H
 obtain⟨t209,A30,H⟩:=H
 replace H:((Qaj.f a1).bind fun t210=>(if t209=true then(if t210=true then(some 0)else(some (-1)))else(if t210=true then(some 1)else(if a0<a1 then(some (-1))else(if a0 > a1 then(some 1)else(some 0))))))=some r:=H
 have A3:=QA A30
 clear A30
 replace H:=Option.bind_eq_some_iff.mp H
 obtain⟨t210,A40,H⟩:=H
 replace H:(if t209=true then(if t210=true then(some 0)else(some (-1)))else(if t210=true then(some 1)else(if a0<a1 then(some (-1))else(if a0 > a1 then(some 1)else(some 0)))))=some r:=H
 have A4:=QA A40
 clear A40
 by_cases c5:t209=true
 ·subst c5
  have H1:(if t210=true then(some 0)else(some (-1)))=some r:=by rw[if_pos rfl]at H;exact H
  clear H
  have H:=H1
  clear H1
  by_cases c6:t210=true
  ·subst c6
   have H1:(some 0)=some r:=by rw[if_pos rfl]at H;exact H
   clear H
   have H:=H1
   clear H1
   obtain rfl:=Option.some.inj H
   go_enter Tryz.func166,Tryz.ntmps166
   go_wp2_with (first |((with_reducible refine Qhd (f:=215) rfl ?_);refine Qfk (some 8) rfl rfl Tryz.func215 qq_5 rfl #[.int .u64 a0] rfl qq_1 ?_;(with_reducible refine(Qaj.calls a0 true _ A3.out).mono ?_);rintro e w' ⟨rfl,⟨nd,rfl⟩⟩;refine⟨_,rfl,?_⟩) |((with_reducible refine Qhd (f:=215) rfl ?_);refine Qfk (some 10) rfl rfl Tryz.func215 qq_5 rfl #[.int .u64 a1] rfl qq_1 ?_;(with_reducible refine(Qaj.calls a1 true _ A4.out).mono ?_);rintro e w' ⟨rfl,⟨nd,rfl⟩⟩;refine⟨_,rfl,?_⟩))
   go_ret
   exact⟨by first|rfl |(simp;done) |(simp[*];done),by repeat(first|exact Drawn0.refl _|apply Drawn0.step)⟩
  ·replace c6:=Bool.eq_false_iff.mpr c6
   subst c6
   have H1:(some (-1))=some r:=by rw[if_neg (show ¬(false=true)by decide)]at H;exact H
   clear H
   have H:=H1
   clear H1
   obtain rfl:=Option.some.inj H
   go_enter Tryz.func166,Tryz.ntmps166
   go_wp2_with (first |((with_reducible refine Qhd (f:=215) rfl ?_);refine Qfk (some 8) rfl rfl Tryz.func215 qq_5 rfl #[.int .u64 a0] rfl qq_1 ?_;(with_reducible refine(Qaj.calls a0 true _ A3.out).mono ?_);rintro e w' ⟨rfl,⟨nd,rfl⟩⟩;refine⟨_,rfl,?_⟩) |((with_reducible refine Qhd (f:=215) rfl ?_);refine Qfk (some 10) rfl rfl Tryz.func215 qq_5 rfl #[.int .u64 a1] rfl qq_1 ?_;(with_reducible refine(Qaj.calls a1 false _ A4.out).mono ?_);rintro e w' ⟨rfl,⟨nd,rfl⟩⟩;refine⟨_,rfl,?_⟩))
   go_ret
   exact⟨by first|rfl |(simp;done) |(simp[*];done),by repeat(first|exact Drawn0.refl _|apply Drawn0.step)⟩
 ·replace c5:=Bool.eq_false_iff.mpr c5
  subst c5
  have H1:(if t210=true then(some 1)else(if a0<a1 then(some (-1))else(if a0 > a1 then(some 1)else(some 0))))=some r:=by rw[if_neg (show ¬(false=true)by decide)]at H;exact H
  clear H
  have H:=H1
  clear H1
  by_cases c7:t210=true
  ·subst c7
   have H1:(some 1)=some r:=by rw[if_pos rfl]at H;exact H
   clear H
   have H:=H1
   clear H1
   obtain rfl:=Option.some.inj H
   go_enter Tryz.func166,Tryz.ntmps166
   go_wp2_with (first |((with_reducible refine Qhd (f:=215) rfl ?_);refine Qfk (some 8) rfl rfl Tryz.func215 qq_5 rfl #[.int .u64 a0] rfl qq_1 ?_;(with_reducible refine(Qaj.calls a0 false _ A3.out).mono ?_);rintro e w' ⟨rfl,⟨nd,rfl⟩⟩;refine⟨_,rfl,?_⟩) |((with_reducible refine Qhd (f:=215) rfl ?_);refine Qfk (some 10) rfl rfl Tryz.func215 qq_5 rfl #[.int .u64 a1] rfl qq_1 ?_;(with_reducible refine(Qaj.calls a1 true _ A4.out).mono ?_);rintro e w' ⟨rfl,⟨nd,rfl⟩⟩;refine⟨_,rfl,?_⟩))
   go_ret
   exact⟨by first|rfl |(simp;done) |(simp[*];done),by repeat(first|exact Drawn0.refl _|apply Drawn0.step)⟩
  ·replace c7:=Bool.eq_false_iff.mpr c7
   subst c7
   have H1:(if a0<a1 then(some (-1))else(if a0 > a1 then(some 1)else(some 0)))=some r:=by rw[if_neg (show ¬(false=true)by decide)]at H;exact H
   clear H
   have H:=H1
   clear H1
   by_cases c8:a0<a1
   ·rw[if_pos c8]at H
    have c8b0:decide (a0<a1)=true:=decide_eq_true c8
    clear c8
    obtain rfl:=Option.some.inj H
    go_enter Tryz.func166,Tryz.ntmps166
    go_wp2_with (first |((with_reducible refine Qhd (f:=215) rfl ?_);refine Qfk (some 8) rfl rfl Tryz.func215 qq_5 rfl #[.int .u64 a0] rfl qq_1 ?_;(with_reducible refine(Qaj.calls a0 false _ A3.out).mono ?_);rintro e w' ⟨rfl,⟨nd,rfl⟩⟩;refine⟨_,rfl,?_⟩) |((with_reducible refine Qhd (f:=215) rfl ?_);refine Qfk (some 10) rfl rfl Tryz.func215 qq_5 rfl #[.int .u64 a1] rfl qq_1 ?_;(with_reducible refine(Qaj.calls a1 false _ A4.out).mono ?_);rintro e w' ⟨rfl,⟨nd,rfl⟩⟩;refine⟨_,rfl,?_⟩))
    go_ret
    exact⟨by first|rfl |(simp;done) |(simp[*];done),by repeat(first|exact Drawn0.refl _|apply Drawn0.step)⟩
   ·rw[if_neg c8]at H
    have c8b0:decide (a0<a1)=false:=decide_eq_false c8
    clear c8
    by_cases c9:a0 > a1
    ·rw[if_pos c9]at H
     have c9b0:decide (a1<a0)=true:=decide_eq_true c9
     clear c9
     obtain rfl:=Option.some.inj H
     go_enter Tryz.func166,Tryz.ntmps166
     go_wp2_with (first |((with_reducible refine Qhd (f:=215) rfl ?_);refine Qfk (some 8) rfl rfl Tryz.func215 qq_5 rfl #[.int .u64 a0] rfl qq_1 ?_;(with_reducible refine(Qaj.calls a0 false _ A3.out).mono ?_);rintro e w' ⟨rfl,⟨nd,rfl⟩⟩;refine⟨_,rfl,?_⟩) |((with_reducible refine Qhd (f:=215) rfl ?_);refine Qfk (some 10) rfl rfl Tryz.func215 qq_5 rfl #[.int .u64 a1] rfl qq_1 ?_;(with_reducible refine(Qaj.calls a1 false _ A4.out).mono ?_);rintro e w' ⟨rfl,⟨nd,rfl⟩⟩;refine⟨_,rfl,?_⟩))
     go_ret
     exact⟨by first|rfl |(simp;done) |(simp[*];done),by repeat(first|exact Drawn0.refl _|apply Drawn0.step)⟩
    ·rw[if_neg c9]at H
     have c9b0:decide (a1<a0)=false:=decide_eq_false c9
     clear c9
     obtain rfl:=Option.some.inj H
     go_enter Tryz.func166,Tryz.ntmps166
     go_wp2_with (first |((with_reducible refine Qhd (f:=215) rfl ?_);refine Qfk (some 8) rfl rfl Tryz.func215 qq_5 rfl #[.int .u64 a0] rfl qq_1 ?_;(with_reducible refine(Qaj.calls a0 false _ A3.out).mono ?_);rintro e w' ⟨rfl,⟨nd,rfl⟩⟩;refine⟨_,rfl,?_⟩) |((with_reducible refine Qhd (f:=215) rfl ?_);refine Qfk (some 10) rfl rfl Tryz.func215 qq_5 rfl #[.int .u64 a1] rfl qq_1 ?_;(with_reducible refine(Qaj.calls a1 false _ A4.out).mono ?_);rintro e w' ⟨rfl,⟨nd,rfl⟩⟩;refine⟨_,rfl,?_⟩))
     go_ret
     exact⟨by first|rfl |(simp;done) |(simp[*];done),by repeat(first|exact Drawn0.refl _|apply Drawn0.step)⟩
def Qah.l0:Nat→Int→List Int→Int→Int→Option (Int)
 | 0,_,_,_,_=>none
 | k+1,x3,x6,x7,x8=>if x8<x7 then(if 0≤x8 then(if x8<(x6.length:Int)then(if(rd x6 x8)=x3 then(Qah.l0 k x3 x6 x7 (wrap64 (x8+1)))else(some (rd x6 x8)))else(none))else(none))else(some x3)
def Qah.f(k:Nat)(l0:List Int):Option (Int):=Qah.l0 k 0 l0 (l0.length:Int) 0
theorem Qah.mono_l:∀k,(∀y0 y1 y2 y3,LeO (Qah.l0 k y0 y1 y2 y3) (Qah.l0 (k+1) y0 y1 y2 y3))
 | 0=>fun _ _ _ _ r h=>by simp[Qah.l0]at h
 | k+1=>by
  have ih0:=Qah.mono_l k
  ·intro y0 y1 y2 y3
   unfold Qah.l0
   repeat' first
   |(with_reducible exact ih0 _ _ _ _)
   |(with_reducible exact LeO.refl _)
   |(with_reducible exact LeO.none _)
   |(with_reducible refine LeO.ite ?_ ?_)
   |(with_reducible refine LeO.bind ?_ (fun _=>?_))
   | exact ih0 _ _ _ _
   | exact LeO.none _
   | refine LeO.ite ?_ ?_
   | refine LeO.bind ?_ (fun _=>?_)
theorem Qah.mono:∀a0 k,LeO (Qah.f k a0) (Qah.f (k+1) a0):=by
 intro a0 k
 have ih0:=Qah.mono_l k
 unfold Qah.f
 repeat' first
   |(with_reducible exact ih0 _ _ _ _)
   |(with_reducible exact LeO.refl _)
   |(with_reducible exact LeO.none _)
   |(with_reducible refine LeO.ite ?_ ?_)
   |(with_reducible refine LeO.bind ?_ (fun _=>?_))
   | exact ih0 _ _ _ _
   | exact LeO.none _
   | refine LeO.ite ?_ ?_
   | refine LeO.bind ?_ (fun _=>?_)
theorem Qah.calls(k:Nat)(A0:Option Addr)(c0:Nat)(l0:List Int)(r:Int)(w:World)(hr0:Kd.C (Kd.int .i64) w A0 l0.length l0)(hc0:l0.length≤c0)(h:Qah.f k l0=some r) :
  Calls Tryz.prog 165 #[.slice A0 l0.length c0] w fun e w'=>e=.returned (.int .i64 r)∧Drawn0 w w':=by
 have HR0:=QA hr0
 have HC0:=QA hc0
 clear hr0 hc0
 have H:(Qah.l0 k 0 l0 (l0.length:Int) 0)=some r:=h
 clear h
 have H':=QA H
 clear H
 go_enter Tryz.func165,Tryz.ntmps165
 go_wp2
 go_loopg [8] k (fun kq v8 w'=>∃(x8_1:Int),v8=.int .i64 x8_1∧Aside0 (Qah.l0 kq 0 l0 (l0.length:Int) x8_1=some r)∧Aside0 (kq≤k)∧Drawn0 w w')
 case atStart=>exact⟨(0),qq_9,H',⟨Nat.le_refl _⟩,by repeat(first|exact Drawn0.refl _|apply Drawn0.step)⟩
 case round =>
  clear H'
  obtain⟨x8_1,rfl,HA,HK1,⟨m1,rfl⟩⟩:=hrel
  cases gk with
  | zero=>exact absurd HA.out (by simp[Qah.l0])
  | succ k1 =>
   have H:=HA.out
   clear HA
   simp only[Qah.l0]at H
   by_cases c2:x8_1<(l0.length:Int)
   ·rw [if_pos c2]at H
    have c2b0:decide (x8_1<(l0.length:Int))=true:=decide_eq_true c2
    clear c2
    by_cases c3:0≤x8_1
    ·rw[if_pos c3]at H
     have c3b0:decide (0≤x8_1)=true:=decide_eq_true c3
     clear c3
     by_cases c4:x8_1<(l0.length:Int)
     ·rw[if_pos c4]at H
      have c4b0:decide (x8_1<(l0.length:Int))=true:=decide_eq_true c4
      clear c4
      by_cases c5:(rd l0 x8_1)=0
      ·rw[if_pos c5]at H
       have c5b0:((rd l0 x8_1) == 0)=true:=beq_iff_eq.mpr c5
       have c5b1:((rd l0 x8_1) != 0)=false:=bne_eq_false_iff_eq.mpr c5
       clear c5
       have H':=QA H
       clear H
       have p208:0≤(x8_1:Int):=of_decide_eq_true qq_6
       have q208:x8_1<(l0.length:Int):=of_decide_eq_true qq_6
       obtain⟨ad208,e208,hx208_0⟩:=Kd.at_int HR0.out x8_1 p208 q208
       cases e208
       replace p208:=eq_true p208
       replace q208:=eq_true q208
       go_wp2
       go_roundg k1
       case measure=>have:=HK1.out;omega
       case rel=>exact⟨(wrap64 (x8_1+1)),qq_9,H',⟨by have:=HK1.out;omega⟩,by repeat(first|exact Drawn0.refl _|apply Drawn0.step)⟩
      ·rw[if_neg c5]at H
       have c5b0:((rd l0 x8_1) == 0)=false:=beq_eq_false_iff_ne.mpr c5
       have c5b1:((rd l0 x8_1) != 0)=true:=bne_iff_ne.mpr c5
       obtain rfl:=Option.some.inj H
       have p208:0≤(x8_1:Int):=of_decide_eq_true qq_6
       have q208:x8_1<(l0.length:Int):=of_decide_eq_true qq_6
       obtain⟨ad208,e208,hx208_0⟩:=Kd.at_int HR0.out x8_1 p208 q208
       cases e208
       replace p208:=eq_true p208
       replace q208:=eq_true q208
       go_wp2
       go_ret
       exact⟨by first|rfl |(simp;done) |(simp[*];done),by repeat(first|exact Drawn0.refl _|apply Drawn0.step)⟩
     ·rw[if_neg c4]at H
      exact absurd H (by simp)
    ·rw[if_neg c3]at H
     exact absurd H (by simp)
   ·rw[if_neg c2]at H
    have c2b0:decide (x8_1<(l0.length:Int))=false:=decide_eq_false c2
    clear c2
    obtain rfl:=Option.some.inj H
    go_wp2
    go_ret
    exact⟨by first|rfl |(simp;done) |(simp[*];done),by repeat(first|exact Drawn0.refl _|apply Drawn0.step)⟩
end Go.Proofs.YtnnofopfbeklbaaGreat.C
end
