/- Texts of this claim's author and of the print of its functions, merged by merge.py. -/
import Derived.Test.YtnnofopfbeklbaaGreatMH02
import Derived.Test.YtnnofopfbeklbaaGreatMH14
import Derived.Test.YtnnofopfbeklbaaGreatMH15
import Derived.Test.YtnnofopfbeklbaaGreatMH16
import Derived.Test.YtnnofopfbeklbaaGreatMH18
import Derived.Test.YtnnofopfbeklbaaGreatMH07
import Derived.Test.YtnnofopfbeklbaaGreatMH17
import Derived.Test.YtnnofopfbeklbaaGreatMH08
import Derived.Lib.IndexLaws
import Derived.Deep.RegionLaw
import Derived.Test.YtnnofopfbeklbaaGreatMH04
import Derived.Test.YtnnofopfbeklbaaGreatMH11
set_option linter.unusedVariables false
set_option linter.unusedSimpArgs false
set_option maxHeartbeats 8000000
set_option maxRecDepth 100000
section
namespace Go.Proofs.YtnnofopfbeklbaaGreat.C
open Go.RowKit Go.Proofs.YtnnofopfbeklbaaGreatW.PrintWords Go.Proofs.YtnnofopfbeklbaaGreatW.PrintLast Go.Proofs.YtnnofopfbeklbaaGreatW.PrintMore
attribute [local go_sem] Qif Qig Qih Qii Qij Qik Qil Qim
def Qcc.l0:Nat→ByteArray→List (S122)→List (S39)→Int→Int→Option (ByteArray × (List (S122)))
 | 0,_,_,_,_,_=>none
 | k+1,x8,x9,x15,x16,x17=>if x17<x16 then(if 0≤x17 then(if x17<(x15.length:Int)then((Qbd.f k 0 ((Qja x15 x17).f2)).bind fun t455=>(if x9.length<8796093022208 then((Qbs.f k ((Qja x15 x17).f0) ((Qja x15 x17).f1) ((Qja x15 x17).f2) ((Qja x15 x17).f3)).bind fun t459=>(if x8.size+t459.size≤9223372036854775807 then(Qcc.l0 k (x8++t459) (x9++[(⟨t455,((x8.size:Int))%4294967296⟩:S122)]) x15 x16 (wrap64 (x17+1)))else(none)))else(none)))else(none))else(none))else((Qbv.f k x9).bind fun t460=>(some (x8,t460)))
def Qcc.f(k:Nat)(a0_0:Int)(a0_1:Int)(a1:Int)(l2:List (S39)):Option (ByteArray × (List (S122))):=(Qbp.f k a0_0 a0_1 a1).bind fun t452=>(Qcc.l0 k t452 ([]:List (S122)) l2 (l2.length:Int) 0)
theorem Qcc.calls (k:Nat) (a0_0:Int) (a0_1:Int) (a1:Int) (A2:Option Addr) (c2:Nat) (l2:List (S39)) (r1:ByteArray) (r2:List (S122)) (w:World) (hr2:Kd.C k39 w A2 l2.length l2) (hc2:l2.length≤c2) (h:Qcc.f k a0_0 a0_1 a1 l2=some (r1,r2)) :
  Calls Tryz.prog 27 #[.agg #[.int .u8 a0_0,.int .u32 a0_1],.int .u64 a1,.slice A2 l2.length c2] w fun e w'=>∃v1_:Value,e=.returned (.tuple #[.string r1,v1_])∧Kd.R k122 122 w' w.heap.size (fun _=>True) v1_ r2∧Below w.heap.size w w':=by
 have hu27:=Tryz.underlying27
 have hu39:=Tryz.underlying39
 have hu122:=Tryz.underlying122
 have HR2:=QA hr2
 have HC2:=QA hc2
 clear hr2 hc2
 have HB:=QA (Below.refl w.heap.size w)
 have H:((Qbp.f k a0_0 a0_1 a1).bind fun t452=>(Qcc.l0 k t452 ([]:List (S122)) l2 (l2.length:Int) 0))=some (r1,r2):=h
 clear h
 replace H:=Option.bind_eq_some_iff.mp H
 obtain⟨t452,A40,H⟩:=H
 replace H:(Qcc.l0 k t452 ([]:List (S122)) l2 (l2.length:Int) 0)=some (r1,r2):=H
 have A4:=QA A40
 clear A40
 have H':=QA H
 clear H
 go_enter Tryz.func27,Tryz.ntmps27
 go_wp2_with (first |((with_reducible refine Qfs (N:=3) rfl ?_);refine qq_e 3 #[.int .u8 a0_0,.int .u32 a0_1] 27 ?_;intro gb451 hg w5 hbox hb;have n0_:=QA (Qfh qq_b hb);have n1_:=QA (hbox);have n2_:=QA (qq_s hg:w.heap.size≤gb451);have n3_:=n2_;clear HB;have HB:=n0_;have BK451:=n1_;have GW451:=n2_;have GE451:=n3_;clear n0_ n1_ n2_ n3_ hb hbox hg;have hcz6_0:=qq_c (.int .u8 a0_0) BK451.out 0 rfl;have hcz6_1:=qq_c (.int .u32 a0_1) BK451.out 1 rfl;have hfz6_0:=Qdt BK451.out 0;have hfz6_1:=Qdt BK451.out 1) |((with_reducible refine Qin (f:=55) rfl ?_);refine Qgp (some 14) rfl rfl Tryz.func55 qq_6 rfl #[.agg #[.int .u8 a0_0,.int .u32 a0_1],.int .u64 a1] rfl qq_1 ?_;(with_reducible refine(Qbp.calls k a0_0 a0_1 a1 t452 _ A4.out).mono ?_);rintro e w7 ⟨rfl,hb⟩;refine⟨_,rfl,?_⟩;have n0_:=QA (Qeh (g:=gb451) (o:=.cells #[.int .u8 a0_0,.int .u32 a0_1] 27 (0,0)) qq_0 hb);have n1_:=QA (Qfh qq_b hb);clear BK451 HB;have BK451:=n0_;have HB:=n1_;clear n0_ n1_;(try clear hb);(try clear hb2);(try clear hk);(try clear hi)))
 go_loopg [8,9,17] k (fun kq v8 v9 v17 w'=>∃(x8_1:ByteArray) (x9_1:List (S122)) (x17_1:Int),v8=.string x8_1∧v17=.int .i64 x17_1∧Aside0 (Qcc.l0 kq x8_1 x9_1 l2 (l2.length:Int) x17_1=some (r1,r2))∧Aside0 (kq≤k)∧Aside0 (Kd.R k122 122 w' w.heap.size (fun _=>True) v9 x9_1)∧Aside0 (w'.heap[gb451]? = some (.cells #[.int .u8 a0_0,.int .u32 a0_1] 27 (0,0)))∧Aside0 (Below w.heap.size w w'))
 case atStart=>exact⟨(t452),(([]:List (S122))),(0),qq_5,qq_5,H',⟨Nat.le_refl _⟩,⟨by first|exact Kd.R_nil _ _ _ _ _|exact Kd.N_nil _ _ _ _ _|exact Kd.V_nil _ _ _ _ _|exact Kd.Q_nil _ _ _ _ _|exact Kd.S_nil _ _ _ _ _⟩,⟨by(with_reducible repeat(first|apply Qeg|apply Qef|apply Qee));exact BK451.out⟩,⟨qq_b⟩⟩
 case round =>
  clear H'
  try clear c2
  try clear hcz6_0
  try clear hcz6_1
  try clear hfz6_0
  try clear hfz6_1
  obtain⟨x8_1,x9_1,x17_1,rfl,rfl,HA,HK1,HO_9,BK451,HB⟩:=hrel
  cases gk with
  | zero=>exact absurd HA.out (by simp[Qcc.l0])
  | succ k1 =>
   have H:=HA.out
   clear HA
   simp only[Qcc.l0]at H
   by_cases c8:x17_1<(l2.length:Int)
   ·rw [if_pos c8]at H
    have c8b0:decide (x17_1<(l2.length:Int))=true:=decide_eq_true c8
    clear c8
    by_cases c9:0≤x17_1
    ·rw [if_pos c9]at H
     have c9b0:decide (0≤x17_1)=true:=decide_eq_true c9
     clear c9
     by_cases c10:x17_1<(l2.length:Int)
     ·rw[if_pos c10]at H
      have c10b0:decide (x17_1<(l2.length:Int))=true:=decide_eq_true c10
      clear c10
      replace H:=Option.bind_eq_some_iff.mp H
      obtain⟨t455,A110,H⟩:=H
      replace H:(if x9_1.length<8796093022208 then((Qbs.f k1 ((Qja l2 x17_1).f0) ((Qja l2 x17_1).f1) ((Qja l2 x17_1).f2) ((Qja l2 x17_1).f3)).bind fun t459=>(if x8_1.size+t459.size≤9223372036854775807 then(Qcc.l0 k1 (x8_1++t459) (x9_1++[(⟨t455,((x8_1.size:Int))%4294967296⟩:S122)]) l2 (l2.length:Int) (wrap64 (x17_1+1)))else(none)))else(none))=some (r1,r2):=H
      have A11:=QA A110
      clear A110
      by_cases c12:x9_1.length<8796093022208
      ·rw[if_pos c12]at H
       have LMc12:=QA c12
       clear c12
       obtain⟨y456,hy456⟩:∃y_:List (S122),y_=(x9_1++[(⟨t455,((x8_1.size:Int))%4294967296⟩:S122)]):=⟨_,rfl⟩
       replace H:((Qbs.f k1 ((Qja l2 x17_1).f0) ((Qja l2 x17_1).f1) ((Qja l2 x17_1).f2) ((Qja l2 x17_1).f3)).bind fun t459=>(if x8_1.size+t459.size≤9223372036854775807 then(Qcc.l0 k1 (x8_1++t459) y456 l2 (l2.length:Int) (wrap64 (x17_1+1)))else(none)))=some (r1,r2):=by first |(rw[hy456];with_reducible exact H) |(have H2_:=(Option.bind_some _ _).symm.trans H;rw[hy456];with_reducible exact H2_) |(have H2_:=(Option.bind_some _ _).symm.trans H;with_reducible exact H2_)|with_reducible exact H |(rw[hy456];exact H)|exact H
       have Ny456:=QA hy456
       clear hy456
       replace H:=Option.bind_eq_some_iff.mp H
       obtain⟨t459,A130,H⟩:=H
       replace H:(if x8_1.size+t459.size≤9223372036854775807 then(Qcc.l0 k1 (x8_1++t459) y456 l2 (l2.length:Int) (wrap64 (x17_1+1)))else(none))=some (r1,r2):=H
       have A13:=QA A130
       clear A130
       by_cases c14:x8_1.size+t459.size≤9223372036854775807
       ·rw[if_pos c14]at H
        have c14b0:=eq_true c14
        have c14b1:decide (x8_1.size+t459.size≤9223372036854775807)=true:=decide_eq_true c14
        try have c14b2:(9223372036854775807<x8_1.size+t459.size)=False:=eq_false (Nat.not_lt.2 c14)
        have H':=QA H
        clear H
        have p453:0≤(x17_1:Int):=of_decide_eq_true qq_4
        have q453:x17_1<(l2.length:Int):=of_decide_eq_true qq_4
        obtain⟨ad453,e453,hx453_0,hx453_1,hx453_2,hx453_3⟩:=Qjb HR2.out x17_1 p453 q453
        cases e453
        replace hx453_0:=qq_h HB.out hx453_0
        replace hx453_1:=qq_h HB.out hx453_1
        replace hx453_2:=qq_h HB.out hx453_2
        replace hx453_3:=qq_h HB.out hx453_3
        replace p453:=eq_true p453
        replace q453:=eq_true q453
        go_wp2_with (first |((with_reducible refine Qfs (N:=11) rfl ?_);refine qq_e 11 #[.bool false,.int .u64 0,.string (⟨#[]⟩:ByteArray),.string (⟨#[]⟩:ByteArray)] 39 ?_;intro gb454 hg w15 hbox hb;have n0_:=QA (Kd.R_below qq_3 hb);have n1_:=QA (Qeh (g:=gb451) (o:=.cells #[.int .u8 a0_0,.int .u32 a0_1] 27 (0,0)) qq_0 hb);have n2_:=QA (Qfh qq_b hb);have n3_:=QA (hbox);have n4_:=QA (qq_s hg:w.heap.size≤gb454);have n5_:=n4_;have n6_:=QA ((by rw[hg];exact Nat.ne_of_lt (Qdr (g:=gb451) (o:=.cells #[.int .u8 a0_0,.int .u32 a0_1] 27 (0,0)) qq_0):gb451≠gb454));have n7_:=QA ((by rw[hg];exact Nat.ne_of_gt (Qdr (g:=gb451) (o:=.cells #[.int .u8 a0_0,.int .u32 a0_1] 27 (0,0)) qq_0):gb454≠gb451));clear HO_9 BK451 HB;have HO_9:=n0_;have BK451:=n1_;have HB:=n2_;have BK454:=n3_;have GW454:=n4_;have GE454:=n5_;have NB451_454:=n6_;have NB454_451:=n7_;clear n0_ n1_ n2_ n3_ n4_ n5_ n6_ n7_ hb hbox hg;have hnb16:=NB454_451.out;have hnc16:=NB451_454.out;have hcz17_0:=qq_c (.bool false) BK454.out 0 rfl;have hcz17_1:=qq_c (.int .u64 0) BK454.out 1 rfl;have hcz17_2:=qq_c (.string (⟨#[]⟩:ByteArray)) BK454.out 2 rfl;have hcz17_3:=qq_c (.string (⟨#[]⟩:ByteArray)) BK454.out 3 rfl;have hfz17_0:=Qdt BK454.out 0;have hfz17_1:=Qdt BK454.out 1;have hfz17_2:=Qdt BK454.out 2;have hfz17_3:=Qdt BK454.out 3) |((with_reducible refine Qin (f:=65) rfl ?_);refine Qgp (some 24) rfl rfl Tryz.func65 qq_6 rfl #[.int .u64 0,.string ((Qja l2 x17_1).f2)] rfl qq_1 ?_;(with_reducible refine(Qbd.calls k1 0 ((Qja l2 x17_1).f2) t455 _ A11.out).mono ?_);rintro e w18 ⟨rfl,hb⟩;refine⟨_,rfl,?_⟩;have n0_:=QA (Kd.R_below (by(with_reducible repeat(first|apply Kd.R_alloc|apply Kd.R_drewN|apply Kd.R_drew));exact(Kd.R_mono (Kd.R_far (p:=⟨gb454,3,none⟩) (Kd.R_far (p:=⟨gb454,2,none⟩) (Kd.R_far (p:=⟨gb454,1,none⟩) (Kd.R_far (p:=⟨gb454,0,none⟩) (Kd.R_types HO_9.out BK454.out (by decide)) (fun _ hk=>hk.2) (.bool ((Qja l2 x17_1).f0))) (fun _ hk=>hk.2) (.int .u64 ((Qja l2 x17_1).f1))) (fun _ hk=>hk.2) (.string ((Qja l2 x17_1).f2))) (fun _ hk=>hk.2) (.string ((Qja l2 x17_1).f3))) (fun _ h_=>h_.1))) hb);have n1_:=QA (Qeh (g:=gb451) (o:=.cells #[.int .u8 a0_0,.int .u32 a0_1] 27 (0,0)) qq_9 hb);have n2_:=QA (Qeh (g:=gb454) (o:=.cells #[.bool ((Qja l2 x17_1).f0),.int .u64 ((Qja l2 x17_1).f1),.string ((Qja l2 x17_1).f2),.string ((Qja l2 x17_1).f3)] 39 (0,0)) (by(with_reducible repeat(first|apply Qeg|apply Qef|apply Qee));refine Qfn (cs:=#[.bool ((Qja l2 x17_1).f0),.int .u64 ((Qja l2 x17_1).f1),.string ((Qja l2 x17_1).f2),.string (⟨#[]⟩:ByteArray)]) ?_ 3 _ rfl;(with_reducible repeat(first|apply Qeg|apply Qef|apply Qee));refine Qfn (cs:=#[.bool ((Qja l2 x17_1).f0),.int .u64 ((Qja l2 x17_1).f1),.string (⟨#[]⟩:ByteArray),.string (⟨#[]⟩:ByteArray)]) ?_ 2 _ rfl;(with_reducible repeat(first|apply Qeg|apply Qef|apply Qee));refine Qfn (cs:=#[.bool ((Qja l2 x17_1).f0),.int .u64 0,.string (⟨#[]⟩:ByteArray),.string (⟨#[]⟩:ByteArray)]) ?_ 1 _ rfl;(with_reducible repeat(first|apply Qeg|apply Qef|apply Qee));refine Qfn (cs:=#[.bool false,.int .u64 0,.string (⟨#[]⟩:ByteArray),.string (⟨#[]⟩:ByteArray)]) ?_ 0 _ rfl;(with_reducible repeat(first|apply Qeg|apply Qef|apply Qee));exact BK454.out) hb);have n3_:=QA (Qfh qq_b hb);clear HO_9 BK451 BK454 HB;have HO_9:=n0_;have BK451:=n1_;have BK454:=n2_;have HB:=n3_;clear n0_ n1_ n2_ n3_;(try clear hb);(try clear hb2);(try clear hk);(try clear hi)) |((with_reducible refine Qio (b:=.append) (xs:=#[.tmp 21,.tmp 29]) rfl ?_);at_builtin;refine Kd.R_append k122 (w0:=w) w.heap.size rfl (.tmp 21) (.tmp 29) 49 122 (.agg #[(.int .u64 0),(.int .u32 0)]) 16 rfl Tryz.underlying49 Qix rfl (by decide) (by omega) u9 x9_1 (⟨t455,((x8_1.size:Int))%4294967296⟩:S122) [.int .u64 t455,.int .u32 (((x8_1.size:Int))%4294967296)] (fun _=>True) (fun _=>False) rfl rfl ?aP (fun _ hk=>hk.elim) ?aF ?aO ?aB ?aS ?aL ?_;(case aP=>exact Qji _ _ _ (⟨t455,((x8_1.size:Int))%4294967296⟩:S122));(case aB=>exact qq_b);(case aF=>exact(fun _ _=>trivial));(case aO=>exact qq_3);(case aS=>exact(Qfg qq_b));(case aL=>have:=LMc12.out;omega);intro v457 w19 ho hb hg hat;rw[← Ny456.out]at ho;have n0_:=QA (Qdu (g:=gb451) (o:=.cells #[.int .u8 a0_0,.int .u32 a0_1] 27 (0,0)) qq_0 hg (Kd.R_ne HO_9.out BK451.out (by decide)));have n1_:=QA (Qdu (g:=gb454) (o:=.cells #[.bool ((Qja l2 x17_1).f0),.int .u64 ((Qja l2 x17_1).f1),.string ((Qja l2 x17_1).f2),.string ((Qja l2 x17_1).f3)] 39 (0,0)) qq_0 hg (Kd.R_ne HO_9.out BK454.out (by decide)));have n2_:=QA (hb);have n3_:=QA (ho);clear BK451 BK454 HB HO_9;have BK451:=n0_;have BK454:=n1_;have HB:=n2_;have HO458:=n3_;clear n0_ n1_ n2_ n3_ ho hb hg hat;have hcz20_0:=qq_c (.bool ((Qja l2 x17_1).f0)) BK454.out 0 rfl;have hcz20_1:=qq_c (.int .u64 ((Qja l2 x17_1).f1)) BK454.out 1 rfl;have hcz20_2:=qq_c (.string ((Qja l2 x17_1).f2)) BK454.out 2 rfl;have hcz20_3:=qq_c (.string ((Qja l2 x17_1).f3)) BK454.out 3 rfl;have hfz20_0:=Qdt BK454.out 0;have hfz20_1:=Qdt BK454.out 1;have hfz20_2:=Qdt BK454.out 2;have hfz20_3:=Qdt BK454.out 3) |((with_reducible refine Qin (f:=22) rfl ?_);refine Qgp (some 33) rfl rfl Tryz.func22 qq_6 rfl #[.agg #[.bool ((Qja l2 x17_1).f0),.int .u64 ((Qja l2 x17_1).f1),.string ((Qja l2 x17_1).f2),.string ((Qja l2 x17_1).f3)]] rfl qq_1 ?_;(with_reducible refine(Qbs.calls k1 ((Qja l2 x17_1).f0) ((Qja l2 x17_1).f1) ((Qja l2 x17_1).f2) ((Qja l2 x17_1).f3) t459 _ A13.out).mono ?_);rintro e w21 ⟨rfl,hb⟩;refine⟨_,rfl,?_⟩;have n0_:=QA (Kd.R_below qq_3 hb);have n1_:=QA (Qeh (g:=gb451) (o:=.cells #[.int .u8 a0_0,.int .u32 a0_1] 27 (0,0)) qq_0 hb);have n2_:=QA (Qeh (g:=gb454) (o:=.cells #[.bool ((Qja l2 x17_1).f0),.int .u64 ((Qja l2 x17_1).f1),.string ((Qja l2 x17_1).f2),.string ((Qja l2 x17_1).f3)] 39 (0,0)) qq_0 hb);have n3_:=QA (Qfh qq_b hb);clear HO458 BK451 BK454 HB;have HO458:=n0_;have BK451:=n1_;have BK454:=n2_;have HB:=n3_;clear n0_ n1_ n2_ n3_;(try clear hb);(try clear hb2);(try clear hk);(try clear hi)))
        go_roundg k1
        case measure=>have:=HK1.out;omega
        case rel=>exact⟨(x8_1++t459),(y456),(wrap64 (x17_1+1)),qq_5,qq_5,H',⟨by have:=HK1.out;omega⟩,⟨by(with_reducible repeat(first|apply Kd.R_alloc|apply Kd.R_drewN|apply Kd.R_drew));exact HO458.out⟩,⟨by(with_reducible repeat(first|apply Qeg|apply Qef|apply Qee));exact BK451.out⟩,⟨qq_b⟩⟩
       ·rw[if_neg c14]at H
        exact absurd H (by simp)
      ·rw[if_neg c12]at H
       exact absurd H (by simp)
     ·rw[if_neg c10]at H
      exact absurd H (by simp)
    ·rw[if_neg c9]at H
     exact absurd H (by simp)
   ·rw[if_neg c8]at H
    have c8b0:decide (x17_1<(l2.length:Int))=false:=decide_eq_false c8
    clear c8
    replace H:=Option.bind_eq_some_iff.mp H
    obtain⟨t460,A220,H⟩:=H
    replace H:(some (x8_1,t460))=some (r1,r2):=H
    have A22:=QA A220
    clear A220
    simp only[Option.some.injEq,Prod.mk.injEq]at H
    obtain⟨rfl,rfl⟩:=H
    obtain⟨Ao23,co23,eo23⟩:=Kd.R_slice HO_9.out
    subst eo23
    go_wp2_with (first |((with_reducible refine Qin (f:=66) rfl ?_);refine Qgp (some 38) rfl rfl Tryz.func66 qq_6 rfl #[.slice Ao23 x9_1.length co23] rfl qq_1 ?_;(with_reducible refine(Qbv.calls k1 _ _ x9_1 t460 _ ?side1 ?side2 A22.out).mono ?_);(case side1=>repeat(first|exact(Kd.R_reads' HO_9.out).2.2 |(with_reducible refine Kd.C_alloc ?_ _) |(with_reducible refine Kd.C_drewN ?_ _) |(with_reducible refine Kd.C_drew ?_)));(case side2=>exact(Kd.R_reads' HO_9.out).2.1);rintro e w24 ⟨v461,rfl,ho0,hb⟩;refine⟨_,rfl,?_⟩;have n0_:=QA (Kd.R_elder' qq_3 (Kd.R_base ho0) hb);have n1_:=QA (Kd.R_lower (Kd.R_new' ho0 (Kd.R_lt qq_3)) (Qfg qq_b));have n2_:=QA (Qeh (g:=gb451) (o:=.cells #[.int .u8 a0_0,.int .u32 a0_1] 27 (0,0)) qq_0 hb);have n3_:=QA (Qfh qq_b hb);clear HO_9 BK451 HB;have HO_9:=n0_;have HO462:=n1_;have BK451:=n2_;have HB:=n3_;clear n0_ n1_ n2_ n3_;(try clear hb);(try clear hb2);(try clear hk);(try clear hi);(try clear ho0)))
    go_ret2
    exact⟨_,by first|rfl |(simp[Qis,Qit]<;>rfl) |(simp[*,Qis,Qit]<;>rfl),by(with_reducible repeat(first|apply Kd.R_alloc|apply Kd.R_drewN|apply Kd.R_drew));exact Kd.R_mono HO462.out (fun _ hk=>trivial),qq_b⟩
def Qce.f(k:Nat)(a0_0:Int)(a0_1:Int)(a1:Int)(l2:List (S39))(a3:Bool):Option (ByteArray):=(Qcc.f k a0_0 a0_1 a1 l2).bind fun bt488=>(if a3=true then((Qca.f k (((bt488.1.size:Int))%4294967296) bt488.2).bind fun t492=>(if bt488.1.size+t492.size≤9223372036854775807 then((Qbn.f k a0_0 a0_1).bind fun t493=>((Qcb.f k (wrap64 ((wrap64 (t493))-((bt488.1++t492).size:Int)))).bind fun t494=>(if(bt488.1++t492).size+t494.size≤9223372036854775807 then(some ((bt488.1++t492)++t494))else(none))))else(none)))else((Qbn.f k a0_0 a0_1).bind fun t495=>((Qcb.f k (wrap64 ((wrap64 (t495))-(bt488.1.size:Int)))).bind fun t496=>(if bt488.1.size+t496.size≤9223372036854775807 then(some (bt488.1++t496))else(none)))))
theorem Qce.calls(k:Nat)(a0_0:Int)(a0_1:Int)(a1:Int)(A2:Option Addr)(c2:Nat)(l2:List (S39))(a3:Bool)(r:ByteArray)(w:World)(hr2:Kd.C k39 w A2 l2.length l2)(hc2:l2.length≤c2)(h:Qce.f k a0_0 a0_1 a1 l2 a3=some r) :
  Calls Tryz.prog 31 #[.agg #[.int .u8 a0_0,.int .u32 a0_1],.int .u64 a1,.slice A2 l2.length c2,.bool a3] w fun e w'=>e=.returned (.string r)∧Below w.heap.size w w':=by
 have hu27:=Tryz.underlying27
 have hu131:=Tryz.underlying131
 have HR2:=QA hr2
 have HC2:=QA hc2
 clear hr2 hc2
 have HB:=QA (Below.refl w.heap.size w)
 have H:((Qcc.f k a0_0 a0_1 a1 l2).bind fun bt488=>(if a3=true then((Qca.f k (((bt488.1.size:Int))%4294967296) bt488.2).bind fun t492=>(if bt488.1.size+t492.size≤9223372036854775807 then((Qbn.f k a0_0 a0_1).bind fun t493=>((Qcb.f k (wrap64 ((wrap64 (t493))-((bt488.1++t492).size:Int)))).bind fun t494=>(if(bt488.1++t492).size+t494.size≤9223372036854775807 then(some ((bt488.1++t492)++t494))else(none))))else(none)))else((Qbn.f k a0_0 a0_1).bind fun t495=>((Qcb.f k (wrap64 ((wrap64 (t495))-(bt488.1.size:Int)))).bind fun t496=>(if bt488.1.size+t496.size≤9223372036854775807 then(some (bt488.1++t496))else(none))))))=some r:=h
 clear h
 replace H:=Option.bind_eq_some_iff.mp H
 obtain⟨⟨t488,t489⟩,A50,H⟩:=H
 replace H:(if a3=true then((Qca.f k (((t488.size:Int))%4294967296) t489).bind fun t492=>(if t488.size+t492.size≤9223372036854775807 then((Qbn.f k a0_0 a0_1).bind fun t493=>((Qcb.f k (wrap64 ((wrap64 (t493))-((t488++t492).size:Int)))).bind fun t494=>(if(t488++t492).size+t494.size≤9223372036854775807 then(some ((t488++t492)++t494))else(none))))else(none)))else((Qbn.f k a0_0 a0_1).bind fun t495=>((Qcb.f k (wrap64 ((wrap64 (t495))-(t488.size:Int)))).bind fun t496=>(if t488.size+t496.size≤9223372036854775807 then(some (t488++t496))else(none)))))=some r:=H
 have A5:=QA A50
 clear A50
 by_cases c6:a3=true
 ·subst c6
  have H1:((Qca.f k (((t488.size:Int))%4294967296) t489).bind fun t492=>(if t488.size+t492.size≤9223372036854775807 then((Qbn.f k a0_0 a0_1).bind fun t493=>((Qcb.f k (wrap64 ((wrap64 (t493))-((t488++t492).size:Int)))).bind fun t494=>(if(t488++t492).size+t494.size≤9223372036854775807 then(some ((t488++t492)++t494))else(none))))else(none)))=some r:=by rw[if_pos rfl]at H;exact H
  clear H
  have H:=H1
  clear H1
  replace H:=Option.bind_eq_some_iff.mp H
  obtain⟨t492,A70,H⟩:=H
  replace H:(if t488.size+t492.size≤9223372036854775807 then((Qbn.f k a0_0 a0_1).bind fun t493=>((Qcb.f k (wrap64 ((wrap64 (t493))-((t488++t492).size:Int)))).bind fun t494=>(if(t488++t492).size+t494.size≤9223372036854775807 then(some ((t488++t492)++t494))else(none))))else(none))=some r:=H
  have A7:=QA A70
  clear A70
  by_cases c8:t488.size+t492.size≤9223372036854775807
  ·rw[if_pos c8]at H
   have c8b0:=eq_true c8
   have c8b1:decide (t488.size+t492.size≤9223372036854775807)=true:=decide_eq_true c8
   try have c8b2:(9223372036854775807<t488.size+t492.size)=False:=eq_false (Nat.not_lt.2 c8)
   replace H:=Option.bind_eq_some_iff.mp H
   obtain⟨t493,A90,H⟩:=H
   replace H:((Qcb.f k (wrap64 ((wrap64 (t493))-((t488++t492).size:Int)))).bind fun t494=>(if(t488++t492).size+t494.size≤9223372036854775807 then(some ((t488++t492)++t494))else(none)))=some r:=H
   have A9:=QA A90
   clear A90
   replace H:=Option.bind_eq_some_iff.mp H
   obtain⟨t494,A100,H⟩:=H
   replace H:(if(t488++t492).size+t494.size≤9223372036854775807 then(some ((t488++t492)++t494))else(none))=some r:=H
   simp only[ByteArray.size_append,Int.natCast_add]at A100
   have A10:=QA A100
   clear A100
   by_cases c11:(t488++t492).size+t494.size≤9223372036854775807
   ·rw[if_pos c11]at H
    have c11b0:=eq_true c11
    have c11b1:decide ((t488++t492).size+t494.size≤9223372036854775807)=true:=decide_eq_true c11
    try have c11b2:(9223372036854775807<(t488++t492).size+t494.size)=False:=eq_false (Nat.not_lt.2 c11)
    try have c11b3:=c11b2
    try simp only[ByteArray.size_append,(show ∀x_:UInt8,(⟨#[x_]⟩:ByteArray).size=1 from fun _=>rfl),(show ∀x_ y_:UInt8,(⟨#[x_,y_]⟩:ByteArray).size=2 from fun _ _=>rfl)]at c11b3
    try have c11b4:=c11b2
    try simp only[ByteArray.size_append,ByteArray.size_extract,(show ∀x_:UInt8,(⟨#[x_]⟩:ByteArray).size=1 from fun _=>rfl),(show ∀x_ y_:UInt8,(⟨#[x_,y_]⟩:ByteArray).size=2 from fun _ _=>rfl)]at c11b4
    obtain rfl:=Option.some.inj H
    go_enter Tryz.func31,Tryz.ntmps31
    go_wp2_with (first |((with_reducible refine Qfs (N:=4) rfl ?_);refine qq_e 4 #[.int .u8 a0_0,.int .u32 a0_1] 27 ?_;intro gb487 hg w12 hbox hb;have n0_:=QA (Qfh qq_b hb);have n1_:=QA (hbox);have n2_:=QA (qq_s hg:w.heap.size≤gb487);have n3_:=n2_;clear HB;have HB:=n0_;have BK487:=n1_;have GW487:=n2_;have GE487:=n3_;clear n0_ n1_ n2_ n3_ hb hbox hg;have hcz13_0:=qq_c (.int .u8 a0_0) BK487.out 0 rfl;have hcz13_1:=qq_c (.int .u32 a0_1) BK487.out 1 rfl;have hfz13_0:=Qdt BK487.out 0;have hfz13_1:=Qdt BK487.out 1) |((with_reducible refine Qin (f:=27) rfl ?_);refine Qgp (some 15) rfl rfl Tryz.func27 qq_6 rfl #[.agg #[.int .u8 a0_0,.int .u32 a0_1],.int .u64 a1,.slice A2 l2.length c2] rfl qq_1 ?_;(with_reducible refine(Qcc.calls k a0_0 a0_1 a1 _ _ l2 t488 t489 _ ?side1 ?side2 A5.out).mono ?_);(case side1=>repeat(first|exact(Kd.C_below HR2.out HB.out) |(with_reducible refine Kd.C_alloc ?_ _) |(with_reducible refine Kd.C_drewN ?_ _) |(with_reducible refine Kd.C_drew ?_)));(case side2=>exact HC2.out);rintro e w14 ⟨v490,rfl,ho0,hb⟩;refine⟨_,rfl,?_⟩;have n0_:=QA (Kd.R_lower ho0 (Qfg qq_b));have n1_:=QA (Qeh (g:=gb487) (o:=.cells #[.int .u8 a0_0,.int .u32 a0_1] 27 (0,0)) qq_0 hb);have n2_:=QA (Qfh qq_b hb);clear BK487 HB;have HO491:=n0_;have BK487:=n1_;have HB:=n2_;clear n0_ n1_ n2_;(try clear hb);(try clear hb2);(try clear hk);(try clear hi);(try clear ho0);obtain⟨Ao15,co15,eo15⟩:=Kd.R_slice HO491.out;subst eo15) |((with_reducible refine Qin (f:=71) rfl ?_);refine Qgp (some 25) rfl rfl Tryz.func71 qq_6 rfl #[.agg #[.int .u32 (((t488.size:Int))%4294967296),.slice Ao15 t489.length co15]] rfl qq_1 ?_;(with_reducible refine(Qca.calls k (((t488.size:Int))%4294967296) _ _ t489 t492 _ ?side1 ?side2 A7.out).mono ?_);(case side1=>repeat(first|exact(Kd.R_reads' HO491.out).2.2 |(with_reducible refine Kd.C_alloc ?_ _) |(with_reducible refine Kd.C_drewN ?_ _) |(with_reducible refine Kd.C_drew ?_)));(case side2=>exact(Kd.R_reads' HO491.out).2.1);rintro e w16 ⟨rfl,hb⟩;refine⟨_,rfl,?_⟩;have n0_:=QA (Kd.R_below qq_3 hb);have n1_:=QA (Qeh (g:=gb487) (o:=.cells #[.int .u8 a0_0,.int .u32 a0_1] 27 (0,0)) qq_0 hb);have n2_:=QA (Qfh qq_b hb);clear HO491 BK487 HB;have HO491:=n0_;have BK487:=n1_;have HB:=n2_;clear n0_ n1_ n2_;(try clear hb);(try clear hb2);(try clear hk);(try clear hi);have hcz17_0:=qq_c (.int .u8 a0_0) BK487.out 0 rfl;have hcz17_1:=qq_c (.int .u32 a0_1) BK487.out 1 rfl;have hfz17_0:=Qdt BK487.out 0;have hfz17_1:=Qdt BK487.out 1) |((with_reducible refine Qin (f:=63) rfl ?_);refine Qgp (some 29) rfl rfl Tryz.func63 qq_6 rfl #[.agg #[.int .u8 a0_0,.int .u32 a0_1]] rfl qq_1 ?_;(with_reducible refine(Qbn.calls k a0_0 a0_1 t493 _ A9.out).mono ?_);rintro e w18 ⟨rfl,hb⟩;refine⟨_,rfl,?_⟩;have n0_:=QA (Kd.R_below qq_3 hb);have n1_:=QA (Qeh (g:=gb487) (o:=.cells #[.int .u8 a0_0,.int .u32 a0_1] 27 (0,0)) qq_0 hb);have n2_:=QA (Qfh qq_b hb);clear HO491 BK487 HB;have HO491:=n0_;have BK487:=n1_;have HB:=n2_;clear n0_ n1_ n2_;(try clear hb);(try clear hb2);(try clear hk);(try clear hi)) |((with_reducible refine Qin (f:=72) rfl ?_);refine Qgp (some 34) rfl rfl Tryz.func72 qq_6 rfl #[.int .i64 (wrap64 ((wrap64 (t493))-((t488.size:Int)+(t492.size:Int))))] rfl qq_1 ?_;(with_reducible refine(Qcb.calls k _ t494 _ A10.out).mono ?_);rintro e w19 ⟨rfl,hb⟩;refine⟨_,rfl,?_⟩;have n0_:=QA (Kd.R_below qq_3 hb);have n1_:=QA (Qeh (g:=gb487) (o:=.cells #[.int .u8 a0_0,.int .u32 a0_1] 27 (0,0)) qq_0 hb);have n2_:=QA (Qfh qq_b hb);clear HO491 BK487 HB;have HO491:=n0_;have BK487:=n1_;have HB:=n2_;clear n0_ n1_ n2_;(try clear hb);(try clear hb2);(try clear hk);(try clear hi)))
    go_ret
    exact⟨by first|rfl |(simp[Qis,Qit]<;>rfl) |(simp[*,Qis,Qit]<;>rfl),qq_b⟩
   ·rw[if_neg c11]at H
    exact absurd H (by simp)
  ·rw[if_neg c8]at H
   exact absurd H (by simp)
 ·replace c6:=Bool.eq_false_iff.mpr c6
  subst c6
  have H1:((Qbn.f k a0_0 a0_1).bind fun t495=>((Qcb.f k (wrap64 ((wrap64 (t495))-(t488.size:Int)))).bind fun t496=>(if t488.size+t496.size≤9223372036854775807 then(some (t488++t496))else(none))))=some r:=by rw[if_neg (show ¬(false=true)by decide)]at H;exact H
  clear H
  have H:=H1
  clear H1
  replace H:=Option.bind_eq_some_iff.mp H
  obtain⟨t495,A200,H⟩:=H
  replace H:((Qcb.f k (wrap64 ((wrap64 (t495))-(t488.size:Int)))).bind fun t496=>(if t488.size+t496.size≤9223372036854775807 then(some (t488++t496))else(none)))=some r:=H
  have A20:=QA A200
  clear A200
  replace H:=Option.bind_eq_some_iff.mp H
  obtain⟨t496,A210,H⟩:=H
  replace H:(if t488.size+t496.size≤9223372036854775807 then(some (t488++t496))else(none))=some r:=H
  have A21:=QA A210
  clear A210
  by_cases c22:t488.size+t496.size≤9223372036854775807
  ·rw[if_pos c22]at H
   have c22b0:=eq_true c22
   have c22b1:decide (t488.size+t496.size≤9223372036854775807)=true:=decide_eq_true c22
   try have c22b2:(9223372036854775807<t488.size+t496.size)=False:=eq_false (Nat.not_lt.2 c22)
   obtain rfl:=Option.some.inj H
   go_enter Tryz.func31,Tryz.ntmps31
   go_wp2_with (first |((with_reducible refine Qfs (N:=4) rfl ?_);refine qq_e 4 #[.int .u8 a0_0,.int .u32 a0_1] 27 ?_;intro gb487 hg w23 hbox hb;have n0_:=QA (Qfh qq_b hb);have n1_:=QA (hbox);have n2_:=QA (qq_s hg:w.heap.size≤gb487);have n3_:=n2_;clear HB;have HB:=n0_;have BK487:=n1_;have GW487:=n2_;have GE487:=n3_;clear n0_ n1_ n2_ n3_ hb hbox hg;have hcz24_0:=qq_c (.int .u8 a0_0) BK487.out 0 rfl;have hcz24_1:=qq_c (.int .u32 a0_1) BK487.out 1 rfl;have hfz24_0:=Qdt BK487.out 0;have hfz24_1:=Qdt BK487.out 1) |((with_reducible refine Qin (f:=27) rfl ?_);refine Qgp (some 15) rfl rfl Tryz.func27 qq_6 rfl #[.agg #[.int .u8 a0_0,.int .u32 a0_1],.int .u64 a1,.slice A2 l2.length c2] rfl qq_1 ?_;(with_reducible refine(Qcc.calls k a0_0 a0_1 a1 _ _ l2 t488 t489 _ ?side1 ?side2 A5.out).mono ?_);(case side1=>repeat(first|exact(Kd.C_below HR2.out HB.out) |(with_reducible refine Kd.C_alloc ?_ _) |(with_reducible refine Kd.C_drewN ?_ _) |(with_reducible refine Kd.C_drew ?_)));(case side2=>exact HC2.out);rintro e w25 ⟨v490,rfl,ho0,hb⟩;refine⟨_,rfl,?_⟩;have n0_:=QA (Kd.R_lower ho0 (Qfg qq_b));have n1_:=QA (Qeh (g:=gb487) (o:=.cells #[.int .u8 a0_0,.int .u32 a0_1] 27 (0,0)) qq_0 hb);have n2_:=QA (Qfh qq_b hb);clear BK487 HB;have HO491:=n0_;have BK487:=n1_;have HB:=n2_;clear n0_ n1_ n2_;(try clear hb);(try clear hb2);(try clear hk);(try clear hi);(try clear ho0);have hcz26_0:=qq_c (.int .u8 a0_0) BK487.out 0 rfl;have hcz26_1:=qq_c (.int .u32 a0_1) BK487.out 1 rfl;have hfz26_0:=Qdt BK487.out 0;have hfz26_1:=Qdt BK487.out 1) |((with_reducible refine Qin (f:=63) rfl ?_);refine Qgp (some 29) rfl rfl Tryz.func63 qq_6 rfl #[.agg #[.int .u8 a0_0,.int .u32 a0_1]] rfl qq_1 ?_;(with_reducible refine(Qbn.calls k a0_0 a0_1 t495 _ A20.out).mono ?_);rintro e w27 ⟨rfl,hb⟩;refine⟨_,rfl,?_⟩;have n0_:=QA (Kd.R_below qq_3 hb);have n1_:=QA (Qeh (g:=gb487) (o:=.cells #[.int .u8 a0_0,.int .u32 a0_1] 27 (0,0)) qq_0 hb);have n2_:=QA (Qfh qq_b hb);clear HO491 BK487 HB;have HO491:=n0_;have BK487:=n1_;have HB:=n2_;clear n0_ n1_ n2_;(try clear hb);(try clear hb2);(try clear hk);(try clear hi)) |((with_reducible refine Qin (f:=72) rfl ?_);refine Qgp (some 34) rfl rfl Tryz.func72 qq_6 rfl #[.int .i64 (wrap64 ((wrap64 (t495))-(t488.size:Int)))] rfl qq_1 ?_;(with_reducible refine(Qcb.calls k (wrap64 ((wrap64 (t495))-(t488.size:Int))) t496 _ A21.out).mono ?_);rintro e w28 ⟨rfl,hb⟩;refine⟨_,rfl,?_⟩;have n0_:=QA (Kd.R_below qq_3 hb);have n1_:=QA (Qeh (g:=gb487) (o:=.cells #[.int .u8 a0_0,.int .u32 a0_1] 27 (0,0)) qq_0 hb);have n2_:=QA (Qfh qq_b hb);clear HO491 BK487 HB;have HO491:=n0_;have BK487:=n1_;have HB:=n2_;clear n0_ n1_ n2_;(try clear hb);(try clear hb2);(try clear hk);(try clear hi)))
   go_ret
   exact⟨by first|rfl |(simp[Qis,Qit]<;>rfl) |(simp[*,Qis,Qit]<;>rfl),qq_b⟩
  ·rw[if_neg c22]at H
   exact absurd H (by simp)
end Go.Proofs.YtnnofopfbeklbaaGreat.C
end
section
namespace Go.Proofs.YtnnofopfbeklbaaGreat.C
open Go.RowKit Go.Proofs.YtnnofopfbeklbaaGreatW.PrintWords Go.Proofs.YtnnofopfbeklbaaGreatW.PrintLast Go.Proofs.YtnnofopfbeklbaaGreatW.PrintMore
attribute [local go_sem] Qif Qig Qih Qii
theorem Qks:∃i,Tryz.prog.info? 5=some i∧i.size=1∧i.zero=some (.int .u8 0)∧i.bytes=1:=by
 have h:=Qiu
 cases hh:Tryz.prog.info? 5 with
 | none=>rw[hh]at h;cases h
 | some i =>
  rw[hh]at h
  simp only[Option.map_some,Option.some.injEq,Prod.mk.injEq]at h
  exact⟨i,rfl,h.2.1,h.1,h.2.2⟩
theorem Qkt(A:Option Addr)(n c m:Nat)(j:Int)(hj:j=(m:Int))(hm:m≤n)(hc:n≤c) :
  ∃(A':Option Addr) (n' c':Nat),n'=n-m∧n'≤c'∧(∀W:World,(Instr.slice 52 (.slice A n c) (some (.int .i64 j)) none none).run Tryz.prog W=.ok (.slice A' n' c') W) ∧
   ∀(W:World) (xs:List Int),Kd.C (Kd.int .u8) W A n xs→Kd.C (Kd.int .u8) W A' n' (xs.drop m):=by
 subst hj
 obtain⟨i,hi,hsz,_⟩:=Qks
 refine⟨if c=m then A else A.map (·.add (m*1)),n-m,c-m,rfl,by omega,fun W=>?_,fun W xs hq=>?_⟩
 ·have h:=Qeu (P:=Tryz.prog) 52 5 .i64 Tryz.underlying52 hi 1 hsz A n c (m:Int) (by omega) (by omega) W
  rw[Int.toNat_natCast]at h
  exact h
 ·have hl:=hq.1
  subst hl
  have h:=Kd.C_drop hq hm hc
  rw[List.length_drop]at h
  exact h
theorem c8_to(A:Option Addr)(n c m:Nat)(j:Int)(hj:j=(m:Int))(hm:m≤n)(hc:n≤c) :
  ∃(n':Nat),n'=m∧n'≤c∧(∀W:World,(Instr.slice 52 (.slice A n c) none (some (.int .i64 j)) none).run Tryz.prog W=.ok (.slice A n' c) W) ∧
   ∀(W:World) (xs:List Int),Kd.C (Kd.int .u8) W A n xs→Kd.C (Kd.int .u8) W A n' (xs.take m):=by
 subst hj
 obtain⟨i,hi,hsz,_⟩:=Qks
 refine⟨m,rfl,by omega,fun W=>?_,fun W xs hq=>?_⟩
 ·have h:=Qet (P:=Tryz.prog) 52 5 .i64 Tryz.underlying52 hi A n c (m:Int) (by omega) (by omega) hc W
  rw[Int.toNat_natCast]at h
  exact h
 ·have hl:=hq.1
  subst hl
  have h:=Kd.C_take hq hm
  rw[List.length_take,Nat.min_eq_left hm]at h
  exact h
theorem ix_at{W:World}{A:Option Addr}{n c:Nat}{l:List Int}(v:Int)(hC:Kd.C (Kd.int .u8) W A n l)(hc:n≤c) :
  Calls Tryz.prog 80 #[.slice A n c,.int .u8 v] W fun e w'=>e=.returned (.int .i64 (ixOf l v))∧Drawn0 W w':=by
 have hl:=hC.1
 subst hl
 exact Qae.calls A c l v _ W hC hc rfl
theorem Qku(l:List Int)(c:Int):-1≤ixOf l c∧ixOf l c<l.length:=by
 unfold ixOf
 refine⟨Lib.indexByte_ge _ _,?_⟩
 rcases Int.lt_or_le (Lib.indexByte (Lib.bytesOf l) c.toNat.toUInt8) 0 with h|h
 ·omega
 ·obtain⟨o,ho⟩:=Int.eq_ofNat_of_zero_le h
  have h1:=(Lib.indexByte_some (o:=o) ho).1
  have h2:=(List.getElem?_eq_some_iff.1 h1).1
  have h3:(Lib.bytesOf l).length=l.length:=by simp[Lib.bytesOf]
  omega
theorem R8.cap(W:World)(cs:Array Value)(cap:Nat)(hsz:cs.size=cap*1)(hm:cap≤maxLen):R8 (W.alloc (.cells cs 5)) W.heap.size (.slice (some ⟨W.heap.size,0,none⟩) 0 cap) [] :=
 Kd.R_of_own ⟨by simp[encs],.inr ⟨W.heap.size,cap,cs,rfl,Nat.le_refl _,heap_alloc_new W _,Nat.zero_le _,hm,hsz,by simp[encs]⟩⟩ (fun _ _=>trivial)
def Qkv:Nat→List Int→List Int
 | 0,_=>[]
 | k+1,b =>
  if 0≤ixOf (b.take 254) 0 then((ixOf (b.take 254) 0+1)%256) :: (b.take (ixOf (b.take 254) 0).toNat++Qkv k (b.drop ((ixOf (b.take 254) 0).toNat+1)))
  else if 254<b.length then 255 :: (b.take 254++Qkv k (b.drop 254))
  else(((b.length:Int)+1)%256) :: b
def Qkw(b:List Int):List Int:=Qkv (b.length+1) b
theorem Qkx:∀(k:Nat) (b:List Int),b.length<k→∀j,Qkv (k+j) b=Qkv k b
 | 0,b,h,_=>by omega
 | k+1,b,h,j=>by
  rw[show k+1+j=(k+j)+1 by omega]
  unfold Qkv
  split
  ·rename_i h0
   have h1:=(Qku (b.take 254) 0).2
   rw[List.length_take]at h1
   rw[Qkx k _ qq_19 j]
  ·split
   ·rw[Qkx k _ qq_19 j]
   ·rfl
theorem Qky(k:Nat)(b:List Int)(h:b.length<k):Qkv k b=Qkw b:=by
 have e:=Qkx (b.length+1) b (by omega) (k-(b.length+1))
 rw[show b.length+1+(k-(b.length+1))=k by omega]at e
 exact e
theorem Qkz{b:List Int}{p:Nat}(h:ixOf (b.take 254) 0=(p:Int)):Qkw b=(((p:Int)+1)%256) :: (b.take p++Qkw (b.drop (p+1))):=by
 have h1:=(Qku (b.take 254) 0).2
 rw[List.length_take]at h1
 have hp:p<b.length:=by omega
 rw[Qkw,Qkv,if_pos (by omega),h,Int.toNat_natCast,Qky _ _ qq_19]
theorem Qla{b:List Int}(h:ixOf (b.take 254) 0<0)(hl:254<b.length):Qkw b=255 :: (b.take 254++Qkw (b.drop 254)):=by
 rw[Qkw,Qkv,if_neg (by omega),if_pos hl,Qky _ _ qq_19]
theorem Qlb{b:List Int}(h:ixOf (b.take 254) 0<0)(hl:¬254<b.length):Qkw b=(((b.length:Int)+1)%256) :: b:=by
 rw[Qkw,Qkv,if_neg (by omega),if_neg hl]
def most(n:Nat):Nat:=if n=0 then 1 else n+1+(n-1)/254
theorem most_is(n:Nat)(h:n≤140737488355328):Qal.f (n:Int)=some (most n:Int):=by
 unfold Qal.f most
 by_cases h0:n=0
 ·subst h0;rfl
 ·rw[if_neg (by omega),if_neg h0]
  have e1:wrap64 ((n:Int)-1)=(n:Int)-1:=by unfold wrap64;omega
  have e2:wrap64 ((n:Int)+1)=(n:Int)+1:=by unfold wrap64;omega
  rw[e1,e2]
  have e3:Int.tdiv ((n:Int)-1) 254=(((n-1)/254:Nat):Int):=by
   rw[show(n:Int)-1=((n-1:Nat):Int)by omega]
   rfl
  rw[e3]
  have e4:wrap64 (((n-1)/254:Nat):Int)=(((n-1)/254:Nat):Int):=by unfold wrap64;omega
  rw[e4]
  have e5:wrap64 ((n:Int)+1+(((n-1)/254:Nat):Int))=(n:Int)+1+(((n-1)/254:Nat):Int):=by unfold wrap64;omega
  rw[e5]
  simp
theorem Qlc(A0:Option Addr)(c0:Nat)(l0:List Int)(w:World)(hr0:Kd.C (Kd.int .u8) w A0 l0.length l0)(hc0:l0.length≤c0)(hl:l0.length≤35184372088832) :
  Calls Tryz.prog 152 #[.slice A0 l0.length c0] w fun e w'=>∃v0_:Value,e=.returned (v0_)∧R8 w' w.heap.size v0_ (Qkw l0)∧Below w.heap.size w w':=by
 obtain⟨i8,hi8,hs8,hz8,hb8⟩:=Qks
 have hmost:most l0.length≤140737488355328:=by unfold most;split<;>omega
 have hrun:=fun W=>run_make (P:=Tryz.prog) W 52 5 i8 (.int .u8 0) Tryz.underlying52 hi8 hz8 .i64 .i64 0 (most l0.length:Int) (by omega) (by omega) (by rw[hb8];omega) (by omega)
 simp only[hs8]at hrun
 have HC0:=QA hr0
 clear hr0
 go_enter Tryz.func152,Tryz.ntmps152
 go_wp2_with (first |(go_at_call 197;refine(Qal.calls _ _ _ (most_is l0.length (by omega))).mono ?_;rintro e w' ⟨rfl,hd⟩;obtain⟨q,rfl⟩:=hd.out;clear hd))
 obtain⟨W0,hW0⟩:∃W0,W0=(w.drewN q).alloc (.cells (madeCells #[.int .u8 0] (most l0.length)) 5):=⟨_,rfl⟩
 have HR0:=QA (show R8 W0 w.heap.size (.slice (some ⟨w.heap.size,0,none⟩) 0 (most l0.length)) []by rw[hW0];exact R8.cap (w.drewN q) _ _ (by simp[madeCells]) (by unfold maxLen;omega))
 have HB0:=QA (show Below w.heap.size w W0 by rw[hW0];exact Qcx (Qcw (Below.refl _ _) q) (Nat.le_refl _) (Qcu (Below.refl _ _) _))
 rw[← hW0]
 clear hW0 hrun
 go_loopw [0,3,4,24,41] (fun v0 v3 v4 v24 v41 wr=>∃(l' out:List Int) (A:Option Addr) (n c:Nat),v0=.slice A n c∧n≤c∧Aside0 (n=l'.length)∧n≤l0.length∧out.length+2*n≤2*l0.length∧Aside0 (Qkw l0=out++Qkw l')∧Aside0 (Kd.C (Kd.int .u8) w A n l')∧Aside0 (R8 wr w.heap.size v3 out)∧Aside0 (Below w.heap.size w wr))
  (fun v0 _ _ _ _ _=>lenV v0)
 case atStart=>exact⟨l0,[],A0,l0.length,c0,rfl,hc0,⟨rfl⟩,Nat.le_refl _,by simp,⟨rfl⟩,HC0,HR0,HB0⟩
 case round =>
  obtain⟨l',out,A,n,c,rfl,hnc,HN,hn0,hout,HS,HC,HR,HB⟩:=hrel
  clear HR0 HB0
  obtain⟨x,hx⟩:∃x,x=ixOf (l'.take 254) 0:=⟨_,rfl⟩
  have hxr:=Qku (l'.take 254) 0
  rw[← hx]at hxr
  have hlt:=HN.out
  have hx1:x<(n:Int)∧x<254:=by have:=hxr.2;rw[List.length_take]at this;omega
  have hx0:=hxr.1
  have HX:=QA hx
  clear hxr hlt hx
  obtain⟨m,hm,hC1,hmc⟩:∃m,(m=if 254<n then 254 else n)∧Aside0 (Kd.C (Kd.int .u8) w A m (l'.take 254))∧m≤c:=by
   by_cases h:254<n
   ·refine⟨254,by rw[if_pos h],⟨?_⟩,by omega⟩
    have h1:=HC.out
    rw[HN.out]at h1
    have h2:=Kd.C_take h1 (m:=254) qq_16
    rw[List.length_take,Nat.min_eq_left qq_16]at h2
    exact h2
   ·refine⟨n,by rw[if_neg h],⟨?_⟩,hnc⟩
    rw[List.take_of_length_le qq_16]
    exact HC.out
  have HM:=QA hm
  by_cases hxz:0≤x
  ·obtain⟨p,rfl⟩:=Int.eq_ofNat_of_zero_le hxz
   have hpn:(p:Int)≤(n:Int):=by omega
   have hp8:p<254:=by omega
   have hwp:IntKind.i64.wrap ((p:Int)+1)=(p:Int)+1:=IntWalk.i64_in _ (by omega)
   have hCp:=QA (show Kd.C (Kd.int .u8) w A p (l'.take p)by
    have h1:=HC.out
    rw[HN.out]at h1
    have h2:=Kd.C_take h1 (m:=p) qq_16
    rw[List.length_take,Nat.min_eq_left qq_16]at h2
    exact h2)
   obtain⟨p',hp',_,hcutp,_⟩:=c8_to A n c p p rfl (by omega) hnc
   subst hp'
   obtain⟨A4,n4,c4,hn4,hnc4,hcut4,hC4⟩:=Qkt A n c (p'+1) ((p':Int)+1) (by omega) (by omega) hnc
   have HN4:=QA hn4
   have hn4n:n4<n:=by omega
   clear hn4
   by_cases hbig:254<n
   all_goals first|rw[if_pos hbig]at hm|rw[if_neg hbig]at hm
   all_goals
    subst hm
    go_wp2_with (first |(go_at_call 80;refine(ix_at 0 (Kd.C_below hC1.out HB.out) hmc).mono ?_;rw[← HX.out];rintro e w2 ⟨rfl,hd⟩;obtain⟨q2,rfl⟩:=hd.out;clear hd))
    obtain⟨W,hW⟩:∃W,W=(wr.drewN q2).drew:=⟨_,rfl⟩
    go_region_law (first
     |(refine Kd.R_append_step (Kd.int .u8) (w0:=w) w.heap.size (by rfl) (.tmp 27) (.tmp 31) 52 5 (.int .u8 0) 1 rfl Tryz.underlying52 Qiu rfl (by decide) (by omega) u3 out (((p':Int)+1)%256) [.int .u8 (((p':Int)+1)%256)] (fun _=>True) (fun _=>False) rfl ?ax ?aP (fun _ hk=>hk.elim) (fun _ _=>trivial) ?aO ?aB ?aS ?aL ?_;(case ax=>rfl);(case aP=>rfl);(case aO=>exact Kd.R_drew (Kd.R_drewN HR.out q2));(case aB=>exact Qcv (Qcw HB.out q2));(case aS=>exact HB.out.size);(case aL=>omega);intro v1 w1 HR1 hb1 hg1 hat1)
     |(refine Kd.R_append_rows_step (Kd.int .u8) (Rr:=fun x cs=>cs=[.int .u8 x]) (w0:=w) w.heap.size (by rfl) (.tmp 32) (.tmp 35) 52 5 (.int .u8 0) 1 rfl Tryz.underlying52 Qiu rfl (by decide) (by omega) v1 (out++[((p':Int)+1)%256]) (l'.take p') A p' c (fun _=>True) (fun _=>False) rfl rfl HR1 ?bR (fun _ _ h=>h) (fun _ hk=>hk.elim) (fun _ _=>trivial) hb1 hb1.size ?bL ?_;(case bR=>exact Kd.C_below hCp.out hb1);(case bL=>simp;omega);intro v2 w2 HR2 hb2 hg2 hat2))
    all_goals
     have HR2':=QA HR2
     have HB2':=QA hb2
     clear HR1 hb1 hg1 hat1 HR2 hb2 hg2 hat2
     go_wp2_with fail
     go_roundw
     case rel=>exact⟨l'.drop (p'+1),out++[((p':Int)+1)%256]++l'.take p',A4,n4,c4,rfl,hnc4,⟨by rw[List.length_drop];have:=HN4.out;have:=HN.out;omega⟩,by omega,by
       have:=HN.out
       have:=HN4.out
       simp only[List.length_append,List.length_singleton,List.length_take]
       omega,⟨by
       rw[HS.out,Qkz HX.out.symm]
       simp⟩,⟨hC4 _ _ HC.out⟩,HR2',HB2'⟩
     case measure=>simp[lenV];omega
  ·have hxm:x=-1:=by omega
   subst hxm
   have hix:ixOf (l'.take 254) 0<0:=by have:=HX.out;omega
   have HIX:=QA hix
   clear hix
   by_cases hbig:254<n
   ·rw [if_pos hbig]at hm
    subst hm
    have hbi:(254:Int)<(n:Int):=by omega
    obtain⟨p',hp',_,hcutp,_⟩:=c8_to A n c 254 254 rfl (by omega) hnc
    subst hp'
    obtain⟨A4,n4,c4,hn4,hnc4,hcut4,hC4⟩:=Qkt A n c 254 254 rfl (by omega) hnc
    have HN4:=QA hn4
    have hn4n:n4<n:=by omega
    clear hn4
    go_wp2_with (first |(go_at_call 80;refine(ix_at 0 (Kd.C_below hC1.out HB.out) hmc).mono ?_;rw[← HX.out];rintro e w2 ⟨rfl,hd⟩;obtain⟨q2,rfl⟩:=hd.out;clear hd))
    go_region_law (first
     |(refine Kd.R_append_step (Kd.int .u8) (w0:=w) w.heap.size (by rfl) (.tmp 45) (.tmp 46) 52 5 (.int .u8 0) 1 rfl Tryz.underlying52 Qiu rfl (by decide) (by omega) u3 out 255 [.int .u8 255] (fun _=>True) (fun _=>False) rfl ?ax ?aP (fun _ hk=>hk.elim) (fun _ _=>trivial) ?aO ?aB ?aS ?aL ?_;(case ax=>rfl);(case aP=>rfl);(case aO=>exact Kd.R_drew (Kd.R_drewN HR.out q2));(case aB=>exact Qcv (Qcw HB.out q2));(case aS=>exact HB.out.size);(case aL=>omega);intro v1 w1 HR1 hb1 hg1 hat1)
     |(refine Kd.R_append_rows_step (Kd.int .u8) (Rr:=fun x cs=>cs=[.int .u8 x]) (w0:=w) w.heap.size (by rfl) (.tmp 47) (.tmp 49) 52 5 (.int .u8 0) 1 rfl Tryz.underlying52 Qiu rfl (by decide) (by omega) v1 (out++[255]) (l'.take 254) A 254 c (fun _=>True) (fun _=>False) rfl rfl HR1 ?bR (fun _ _ h=>h) (fun _ hk=>hk.elim) (fun _ _=>trivial) hb1 hb1.size ?bL ?_;(case bR=>exact Kd.C_below hC1.out hb1);(case bL=>simp;omega);intro v2 w2 HR2 hb2 hg2 hat2))
    all_goals
     have HR2':=QA HR2
     have HB2':=QA hb2
     clear HR1 hb1 hg1 hat1 HR2 hb2 hg2 hat2
     go_wp2_with fail
     go_roundw
     case rel=>exact⟨l'.drop 254,out++[255]++l'.take 254,A4,n4,c4,rfl,hnc4,⟨by rw[List.length_drop];have:=HN4.out;have:=HN.out;omega⟩,by omega,by
       have:=HN.out
       have:=HN4.out
       simp only[List.length_append,List.length_singleton,List.length_take]
       omega,⟨by
       rw[HS.out,Qla HIX.out qq_16]
       simp⟩,⟨hC4 _ _ HC.out⟩,HR2',HB2'⟩
     case measure=>simp[lenV];omega
   ·rw[if_neg hbig]at hm
    subst hm
    have hbi:(m:Int)≤254:=by omega
    go_wp2_with (first
     |(go_at_call 80;refine(ix_at 0 (Kd.C_below hC1.out HB.out) hmc).mono ?_;rw[← HX.out];rintro e w2 ⟨rfl,hd⟩;obtain⟨q2,rfl⟩:=hd.out;clear hd)
     |(at_builtin;refine Kd.R_append (Kd.int .u8) (w0:=w) w.heap.size rfl (.tmp 15) (.tmp 20) 52 5 (.int .u8 0) 1 rfl Tryz.underlying52 Qiu rfl (by decide) (by omega) u3 out ((m:Int)+1) [.int .u8 ((m:Int)+1)] (fun _=>True) (fun _=>False) rfl ?ax ?aP (fun _ hk=>hk.elim) ?aF ?aO ?aB ?aS ?aL ?_;(case ax=>rfl);(case aP=>rfl);(case aF=>exact fun _ _=>trivial);(case aO=>exact Kd.R_drewN HR.out q2);(case aB=>exact Qcw HB.out q2);(case aS=>exact HB.out.size);(case aL=>omega);intro v1 w1 HR1 hb1 hg1 hat1)
     |(at_builtin;refine Kd.R_append_rows (Kd.int .u8) (Rr:=fun x cs=>cs=[.int .u8 x]) (w0:=w) w.heap.size rfl (.tmp 21) (.tmp 22) 52 5 (.int .u8 0) 1 rfl Tryz.underlying52 Qiu rfl (by decide) (by omega) v1 (out++[(m:Int)+1]) (l'.take 254) A m c (fun _=>True) (fun _=>False) rfl rfl HR1 ?bR (fun _ _ h=>h) (fun _ hk=>hk.elim) (fun _ _=>trivial) hb1 hb1.size ?bL ?_;(case bR=>exact Kd.C_below hC1.out hb1);(case bL=>simp;omega);intro v2 w2 HR2 hb2 hg2 hat2))
    go_ret
    refine⟨v2,rfl,?_,hb2⟩
    have hlm:=HN.out
    rw[HS.out,Qlb HIX.out (by omega),← hlm]
    rw[List.take_of_length_le (by omega)]at HR2
    rw[show((m:Int)+1)%256=(m:Int)+1 by omega]
    simpa using HR2
def Qam.f(l0:List Int):Option (List Int):=if l0.length≤35184372088832 then some (Qkw l0)else none
theorem Qam.calls(A0:Option Addr)(c0:Nat)(l0:List Int)(r:List Int)(w:World)(hr0:Kd.C (Kd.int .u8) w A0 l0.length l0)(hc0:l0.length≤c0)(h:Qam.f l0=some r) :
  Calls Tryz.prog 152 #[.slice A0 l0.length c0] w fun e w'=>∃v0_:Value,e=.returned (v0_)∧Kd.R (Kd.int .u8) 5 w' w.heap.size (fun _=>True) v0_ r∧Below w.heap.size w w':=by
 unfold Qam.f at h
 by_cases hl:l0.length≤35184372088832
 ·rw[if_pos hl]at h
  cases h
  exact Qlc A0 c0 l0 w hr0 hc0 hl
 ·rw[if_neg hl]at h;cases h
end Go.Proofs.YtnnofopfbeklbaaGreat.C
end
