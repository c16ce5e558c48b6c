/- Texts of this claim's author and of the print of its functions, merged by merge.py. -/
import Derived.Test.YtnnofopfbeklbaaGreatMH02
import Derived.Test.YtnnofopfbeklbaaGreatMH16
import Derived.Test.YtnnofopfbeklbaaGreatMH22
import Derived.Test.YtnnofopfbeklbaaGreatMH19
import Derived.Test.YtnnofopfbeklbaaGreatMH20
set_option linter.unusedVariables false
set_option linter.unusedSimpArgs false
set_option maxHeartbeats 8000000
set_option maxRecDepth 100000
section
namespace Go.Proofs.YtnnofopfbeklbaaGreat.C
open Go.RowKit Go.Proofs.YtnnofopfbeklbaaGreatW.PrintWords Go.Proofs.YtnnofopfbeklbaaGreatW.PrintLast Go.Proofs.YtnnofopfbeklbaaGreatW.PrintMore
attribute [local go_sem] Qif Qig Qih Qii Qij Qik Qil Qim
def Qbo.f(k:Nat)(a0:ByteArray):Option (Bool × Int × ByteArray × ByteArray × Int):=(Qbr.f k a0).bind fun bt689=>(if bt689.2=0 then((Qbl.f k bt689.1).bind fun bt691=>(some (bt691.1,bt691.2.1,bt691.2.2.1,bt691.2.2.2.1,bt691.2.2.2.2)))else(some (false,0,(⟨#[]⟩:ByteArray),(⟨#[]⟩:ByteArray),bt689.2)))
theorem Qbo.calls(k:Nat)(a0:ByteArray)(r1:Bool)(r2:Int)(r3:ByteArray)(r4:ByteArray)(r5:Int)(w:World)(h:Qbo.f k a0=some (r1,r2,r3,r4,r5)) :
  Calls Tryz.prog 84 #[.string a0] w fun e w'=>e=.returned (.tuple #[.agg #[.bool r1,.int .u64 r2,.string r3,.string r4],.int .i64 r5])∧Below w.heap.size w w':=by
 have hu39:=Tryz.underlying39
 have HB:=QA (Below.refl w.heap.size w)
 have H:((Qbr.f k a0).bind fun bt689=>(if bt689.2=0 then((Qbl.f k bt689.1).bind fun bt691=>(some (bt691.1,bt691.2.1,bt691.2.2.1,bt691.2.2.2.1,bt691.2.2.2.2)))else(some (false,0,(⟨#[]⟩:ByteArray),(⟨#[]⟩:ByteArray),bt689.2))))=some (r1,r2,r3,r4,r5):=h
 clear h
 replace H:=Option.bind_eq_some_iff.mp H
 obtain⟨⟨t689,t690⟩,A20,H⟩:=H
 replace H:(if t690=0 then((Qbl.f k t689).bind fun bt691=>(some (bt691.1,bt691.2.1,bt691.2.2.1,bt691.2.2.2.1,bt691.2.2.2.2)))else(some (false,0,(⟨#[]⟩:ByteArray),(⟨#[]⟩:ByteArray),t690)))=some (r1,r2,r3,r4,r5):=H
 have A2:=QA A20
 clear A20
 by_cases c3:t690=0
 ·rw[if_pos c3]at H
  have c3b0:(t690 == 0)=true:=beq_iff_eq.mpr c3
  have c3b1:(t690 != 0)=false:=bne_eq_false_iff_eq.mpr c3
  clear c3
  replace H:=Option.bind_eq_some_iff.mp H
  obtain⟨⟨t691,t692,t693,t694,t695⟩,A40,H⟩:=H
  replace H:(some (t691,t692,t693,t694,t695))=some (r1,r2,r3,r4,r5):=H
  have A4:=QA A40
  clear A40
  simp only[Option.some.injEq,Prod.mk.injEq]at H
  obtain⟨rfl,rfl,rfl,rfl,rfl⟩:=H
  go_enter Tryz.func84,Tryz.ntmps84
  go_wp2_with (first |((with_reducible refine Qfs (N:=2) rfl ?_);refine qq_e 2 #[.bool false,.int .u64 0,.string (⟨#[]⟩:ByteArray),.string (⟨#[]⟩:ByteArray)] 39 ?_;intro gb688 hg w5 hbox hb;have n0_:=QA (Qfh qq_b hb);have n1_:=QA (hbox);have n2_:=QA (qq_s hg:w.heap.size≤gb688);have n3_:=n2_;clear HB;have HB:=n0_;have BK688:=n1_;have GW688:=n2_;have GE688:=n3_;clear n0_ n1_ n2_ n3_;clear hb hbox hg) |((with_reducible refine Qin (f:=135) rfl ?_);refine Qgp (some 8) rfl rfl Tryz.func135 qq_6 rfl #[.string a0] rfl qq_1 ?_;(with_reducible refine(Qbr.calls k a0 t689 t690 _ A2.out).mono ?_);rintro e w6 ⟨rfl,hb⟩;refine⟨_,rfl,?_⟩;have n0_:=QA (Qeh (g:=gb688) (o:=.cells #[.bool false,.int .u64 0,.string (⟨#[]⟩:ByteArray),.string (⟨#[]⟩:ByteArray)] 39 (0,0)) qq_0 hb);have n1_:=QA (Qfh qq_b hb);clear BK688 HB;have BK688:=n0_;have HB:=n1_;clear n0_ n1_;(try clear hb);(try clear hb2);(try clear hk);(try clear hi)) |((with_reducible refine Qin (f:=136) rfl ?_);refine Qgp (some 16) rfl rfl Tryz.func136 qq_6 rfl #[.string t689] rfl qq_1 ?_;(with_reducible refine(Qbl.calls k t689 t691 t692 t693 t694 t695 _ A4.out).mono ?_);rintro e w7 ⟨rfl,hb⟩;refine⟨_,rfl,?_⟩;have n0_:=QA (Qeh (g:=gb688) (o:=.cells #[.bool false,.int .u64 0,.string (⟨#[]⟩:ByteArray),.string (⟨#[]⟩:ByteArray)] 39 (0,0)) qq_0 hb);have n1_:=QA (Qfh qq_b hb);clear BK688 HB;have BK688:=n0_;have HB:=n1_;clear n0_ n1_;(try clear hb);(try clear hb2);(try clear hk);(try clear hi);have hcz8_0:=qq_c (.bool false) BK688.out 0 rfl;have hcz8_1:=qq_c (.int .u64 0) BK688.out 1 rfl;have hcz8_2:=qq_c (.string (⟨#[]⟩:ByteArray)) BK688.out 2 rfl;have hcz8_3:=qq_c (.string (⟨#[]⟩:ByteArray)) BK688.out 3 rfl;have hfz8_0:=Qdt BK688.out 0;have hfz8_1:=Qdt BK688.out 1;have hfz8_2:=Qdt BK688.out 2;have hfz8_3:=Qdt BK688.out 3))
  refine bodyPost_ret (Qej rfl _ _ gb688 39 #[.bool t691,.int .u64 t692,.string t693,.string t694] (0,0) _ rfl (by(with_reducible repeat(first|apply Qeg|apply Qef|apply Qee));refine Qfn (cs:=#[.bool t691,.int .u64 t692,.string t693,.string (⟨#[]⟩:ByteArray)]) ?_ 3 _ rfl;(with_reducible repeat(first|apply Qeg|apply Qef|apply Qee));refine Qfn (cs:=#[.bool t691,.int .u64 t692,.string (⟨#[]⟩:ByteArray),.string (⟨#[]⟩:ByteArray)]) ?_ 2 _ rfl;(with_reducible repeat(first|apply Qeg|apply Qef|apply Qee));refine Qfn (cs:=#[.bool t691,.int .u64 0,.string (⟨#[]⟩:ByteArray),.string (⟨#[]⟩:ByteArray)]) ?_ 1 _ rfl;(with_reducible repeat(first|apply Qeg|apply Qef|apply Qee));refine Qfn (cs:=#[.bool false,.int .u64 0,.string (⟨#[]⟩:ByteArray),.string (⟨#[]⟩:ByteArray)]) ?_ 0 _ rfl;(with_reducible repeat(first|apply Qeg|apply Qef|apply Qee));exact BK688.out) Tryz.underlying39 rfl qq_6) rfl ?_
  exact⟨by first|rfl |(simp[Qis,Qit]<;>rfl) |(simp[*,Qis,Qit]<;>rfl),qq_b⟩
 ·rw[if_neg c3]at H
  have c3b0:(t690 == 0)=false:=beq_eq_false_iff_ne.mpr c3
  have c3b1:(t690 != 0)=true:=bne_iff_ne.mpr c3
  simp only[Option.some.injEq,Prod.mk.injEq]at H
  obtain⟨rfl,rfl,rfl,rfl,rfl⟩:=H
  go_enter Tryz.func84,Tryz.ntmps84
  go_wp2_with (first |((with_reducible refine Qfs (N:=2) rfl ?_);refine qq_e 2 #[.bool false,.int .u64 0,.string (⟨#[]⟩:ByteArray),.string (⟨#[]⟩:ByteArray)] 39 ?_;intro gb688 hg w9 hbox hb;have n0_:=QA (Qfh qq_b hb);have n1_:=QA (hbox);have n2_:=QA (qq_s hg:w.heap.size≤gb688);have n3_:=n2_;clear HB;have HB:=n0_;have BK688:=n1_;have GW688:=n2_;have GE688:=n3_;clear n0_ n1_ n2_ n3_;clear hb hbox hg) |((with_reducible refine Qin (f:=135) rfl ?_);refine Qgp (some 8) rfl rfl Tryz.func135 qq_6 rfl #[.string a0] rfl qq_1 ?_;(with_reducible refine(Qbr.calls k a0 t689 t690 _ A2.out).mono ?_);rintro e w10 ⟨rfl,hb⟩;refine⟨_,rfl,?_⟩;have n0_:=QA (Qeh (g:=gb688) (o:=.cells #[.bool false,.int .u64 0,.string (⟨#[]⟩:ByteArray),.string (⟨#[]⟩:ByteArray)] 39 (0,0)) qq_0 hb);have n1_:=QA (Qfh qq_b hb);clear BK688 HB;have BK688:=n0_;have HB:=n1_;clear n0_ n1_;(try clear hb);(try clear hb2);(try clear hk);(try clear hi);have hcz11_0:=qq_c (.bool false) BK688.out 0 rfl;have hcz11_1:=qq_c (.int .u64 0) BK688.out 1 rfl;have hcz11_2:=qq_c (.string (⟨#[]⟩:ByteArray)) BK688.out 2 rfl;have hcz11_3:=qq_c (.string (⟨#[]⟩:ByteArray)) BK688.out 3 rfl;have hfz11_0:=Qdt BK688.out 0;have hfz11_1:=Qdt BK688.out 1;have hfz11_2:=Qdt BK688.out 2;have hfz11_3:=Qdt BK688.out 3))
  refine bodyPost_ret (Qej rfl _ _ gb688 39 #[.bool false,.int .u64 0,.string (⟨#[]⟩:ByteArray),.string (⟨#[]⟩:ByteArray)] (0,0) _ rfl (by(with_reducible repeat(first|apply Qeg|apply Qef|apply Qee));refine Qfn (cs:=#[.bool false,.int .u64 0,.string (⟨#[]⟩:ByteArray),.string (⟨#[]⟩:ByteArray)]) ?_ 3 _ rfl;(with_reducible repeat(first|apply Qeg|apply Qef|apply Qee));refine Qfn (cs:=#[.bool false,.int .u64 0,.string (⟨#[]⟩:ByteArray),.string (⟨#[]⟩:ByteArray)]) ?_ 2 _ rfl;(with_reducible repeat(first|apply Qeg|apply Qef|apply Qee));refine Qfn (cs:=#[.bool false,.int .u64 0,.string (⟨#[]⟩:ByteArray),.string (⟨#[]⟩:ByteArray)]) ?_ 1 _ rfl;(with_reducible repeat(first|apply Qeg|apply Qef|apply Qee));refine Qfn (cs:=#[.bool false,.int .u64 0,.string (⟨#[]⟩:ByteArray),.string (⟨#[]⟩:ByteArray)]) ?_ 0 _ rfl;(with_reducible repeat(first|apply Qeg|apply Qef|apply Qee));exact BK688.out) Tryz.underlying39 rfl qq_6) rfl ?_
  exact⟨by first|rfl |(simp[Qis,Qit]<;>rfl) |(simp[*,Qis,Qit]<;>rfl),qq_b⟩
mutual
def Qcd.j1:Nat→Int→ByteArray→List (S39)→Int→Int→Option ((List (S39)) × Bool × Bool)
 | 0,_,_,_,_,_=>none
 | k+1,x1,x2,x9,x697000,x697001=>(Qce.f k x697000 x697001 x1 x9 false).bind fun t706=>(if t706.toList=x2.toList then(some (x9,false,true))else(if(x9.length:Int) > 0 then((Qce.f k x697000 x697001 x1 x9 true).bind fun t707=>(if t707.toList=x2.toList then(some (x9,true,true))else(some (([]:List (S39)),false,false))))else(some (([]:List (S39)),false,false))))
def Qcd.l0:Nat→Int→ByteArray→List (S39)→Int→Int→Int→Int→Option ((List (S39)) × Bool × Bool)
 | 0,_,_,_,_,_,_,_=>none
 | k+1,x1,x2,x9,x10,x11,x697000,x697001=>if x11<(x2.size:Int)then(if 0≤x11 then(if(bt x2 x11)=0 then(if x10≥0 then(if 0≤x10 then(if x10≤x11 then(if x11≤(x2.size:Int)then((Qbo.f k (x2.extract (x10:Int).toNat (x11:Int).toNat)).bind fun bt697=>(if bt697.2.2.2.2=0 then(if x9.length<2932031007402 then(Qcd.l0 k x1 x2 (x9++[(⟨bt697.1,bt697.2.1,bt697.2.2.1,bt697.2.2.2.1⟩:S39)]) (wrap64 (x11+1)) (wrap64 (x11+1)) x697000 x697001)else(none))else(Qcd.j1 k x1 x2 x9 x697000 x697001)))else(none))else(none))else(none))else(Qcd.l0 k x1 x2 x9 (wrap64 (x11+1)) (wrap64 (x11+1)) x697000 x697001))else(Qcd.l0 k x1 x2 x9 x10 (wrap64 (x11+1)) x697000 x697001))else(none))else(Qcd.j1 k x1 x2 x9 x697000 x697001)
end
def Qcd.f(k:Nat)(a0_0:Int)(a0_1:Int)(a1:Int)(a2:ByteArray):Option ((List (S39)) × Bool × Bool):=Qcd.l0 k a1 a2 ([]:List (S39)) (-1) 0 a0_0 a0_1
theorem Qcd.calls (k:Nat) (a0_0:Int) (a0_1:Int) (a1:Int) (a2:ByteArray) (r1:List (S39)) (r2:Bool) (r3:Bool) (w:World) (h:Qcd.f k a0_0 a0_1 a1 a2=some (r1,r2,r3)) :
  Calls Tryz.prog 41 #[.agg #[.int .u8 a0_0,.int .u32 a0_1],.int .u64 a1,.string a2] w fun e w'=>∃v0_:Value,e=.returned (.tuple #[v0_,.bool r2,.bool r3])∧Kd.R k39 39 w' w.heap.size (fun _=>True) v0_ r1∧Below w.heap.size w w':=by
 have hu27:=Tryz.underlying27
 have hu39:=Tryz.underlying39
 have HB:=QA (Below.refl w.heap.size w)
 have H:(Qcd.l0 k a1 a2 ([]:List (S39)) (-1) 0 a0_0 a0_1)=some (r1,r2,r3):=h
 clear h
 have HC4:=QA H
 clear H
 go_enter Tryz.func41,Tryz.ntmps41
 go_upto_block 0 with(first |((with_reducible refine Qfs (N:=3) rfl ?_);refine qq_e 3 #[.int .u8 a0_0,.int .u32 a0_1] 27 ?_;intro gb696 hg w5 hbox hb;have n0_:=QA (Qfh qq_b hb);have n1_:=QA (hbox);have n2_:=QA (qq_s hg:w.heap.size≤gb696);have n3_:=n2_;clear HB;have HB:=n0_;have BK696:=n1_;have GW696:=n2_;have GE696:=n3_;clear n0_ n1_ n2_ n3_;clear hb hbox hg))
 (try simp only[Act.put,List.setIfInBounds_toArray,List.set_cons_zero,List.set_cons_succ])
 go_cut [9] (fun v9 wc=>∃(kq:Nat) (x9_3:List (S39)),Aside0 (Qcd.j1 kq a1 a2 x9_3 a0_0 a0_1=some (r1,r2,r3))∧Aside0 (kq≤k)∧Aside0 (Kd.R k39 39 wc w.heap.size (fun _=>True) v9 x9_3)∧Aside0 (wc.heap[gb696]? = some (.cells #[.int .u8 a0_0,.int .u32 a0_1] 27 (0,0)))∧Aside0 (Below w.heap.size w wc))
 case first =>
  have H:=HC4.out
  clear HC4
  have H':=QA H
  clear H
  go_wp2
  go_loopg [9,10,11] k (fun kq v9 v10 v11 w'=>∃(x9_1:List (S39)) (x10_1:Int) (x11_1:Int),v10=.int .i64 x10_1∧v11=.int .i64 x11_1∧Aside0 (Qcd.l0 kq a1 a2 x9_1 x10_1 x11_1 a0_0 a0_1=some (r1,r2,r3))∧Aside0 (kq≤k)∧Aside0 (Kd.R k39 39 w' w.heap.size (fun _=>True) v9 x9_1)∧Aside0 (w'.heap[gb696]? = some (.cells #[.int .u8 a0_0,.int .u32 a0_1] 27 (0,0)))∧Aside0 (Below w.heap.size w w'))
  case atStart=>exact⟨(([]:List (S39))),((-1)),(0),qq_5,qq_5,H',⟨Nat.le_refl _⟩,⟨by first|exact Kd.R_nil _ _ _ _ _|exact Kd.N_nil _ _ _ _ _|exact Kd.V_nil _ _ _ _ _|exact Kd.Q_nil _ _ _ _ _|exact Kd.S_nil _ _ _ _ _⟩,⟨by(with_reducible repeat(first|apply Qeg|apply Qef|apply Qee));exact BK696.out⟩,⟨qq_b⟩⟩
  case round =>
   clear H'
   obtain⟨x9_1,x10_1,x11_1,rfl,rfl,HA,HK1,HO_9,BK696,HB⟩:=hrel
   cases gk with
   | zero=>exact absurd HA.out (by simp[Qcd.l0])
   | succ k1 =>
    have H:=HA.out
    clear HA
    simp only[Qcd.l0]at H
    by_cases c6:x11_1<(a2.size:Int)
    ·rw [if_pos c6]at H
     have c6b0:decide (x11_1<(a2.size:Int))=true:=decide_eq_true c6
     clear c6
     (first|rw[c6b0] |(simp only[Qgr,Qgs];rw[c6b0])|skip)
     by_cases c7:0≤x11_1
     ·rw [if_pos c7]at H
      have c7b0:decide (0≤x11_1)=true:=decide_eq_true c7
      clear c7
      by_cases c9:(bt a2 x11_1)=0
      ·rw [if_pos c9]at H
       have c9b0:((bt a2 x11_1) == 0)=true:=beq_iff_eq.mpr c9
       have c9b1:((bt a2 x11_1) != 0)=false:=bne_eq_false_iff_eq.mpr c9
       clear c9
       by_cases c10:x10_1≥0
       ·rw [if_pos c10]at H
        have c10b0:decide (0≤x10_1)=true:=decide_eq_true c10
        clear c10
        by_cases c11:0≤x10_1
        ·rw [if_pos c11]at H
         have c11b0:=eq_true c11
         have c11b1:decide (0≤x10_1)=true:=decide_eq_true c11
         clear c11
         by_cases c12:x10_1≤x11_1
         ·rw [if_pos c12]at H
          have c12b0:=eq_true c12
          have c12b1:decide (x10_1≤x11_1)=true:=decide_eq_true c12
          clear c12
          by_cases c13:x11_1≤(a2.size:Int)
          ·rw[if_pos c13]at H
           have c13b0:=eq_true c13
           have c13b1:decide (x11_1≤(a2.size:Int))=true:=decide_eq_true c13
           clear c13
           replace H:=Option.bind_eq_some_iff.mp H
           obtain⟨⟨t697,t698,t699,t700,t701⟩,A140,H⟩:=H
           replace H:(if t701=0 then(if x9_1.length<2932031007402 then(Qcd.l0 k1 a1 a2 (x9_1++[(⟨t697,t698,t699,t700⟩:S39)]) (wrap64 (x11_1+1)) (wrap64 (x11_1+1)) a0_0 a0_1)else(none))else(Qcd.j1 k1 a1 a2 x9_1 a0_0 a0_1))=some (r1,r2,r3):=H
           have A14:=QA A140
           clear A140
           by_cases c15:t701=0
           ·rw[if_pos c15]at H
            have c15b0:(t701 == 0)=true:=beq_iff_eq.mpr c15
            have c15b1:(t701 != 0)=false:=bne_eq_false_iff_eq.mpr c15
            clear c15
            by_cases c16:x9_1.length<2932031007402
            ·rw[if_pos c16]at H
             have LMc16:=QA c16
             clear c16
             obtain⟨y703,hy703⟩:∃y_:List (S39),y_=(x9_1++[(⟨t697,t698,t699,t700⟩:S39)]):=⟨_,rfl⟩
             replace H:(Qcd.l0 k1 a1 a2 y703 (wrap64 (x11_1+1)) (wrap64 (x11_1+1)) a0_0 a0_1)=some (r1,r2,r3):=by first |(rw[hy703];with_reducible exact H) |(have H2_:=(Option.bind_some _ _).symm.trans H;rw[hy703];with_reducible exact H2_) |(have H2_:=(Option.bind_some _ _).symm.trans H;with_reducible exact H2_)|with_reducible exact H |(rw[hy703];exact H)|exact H
             have Ny703:=QA hy703
             clear hy703
             have H':=QA H
             clear H
             have p8:0≤(x11_1:Int):=of_decide_eq_true qq_4
             have q8:x11_1<(a2.size:Int):=of_decide_eq_true qq_4
             have hx8:=Qct a2 x11_1
             replace p8:=eq_true p8
             replace q8:=eq_true q8
             go_wp2_with (first |((with_reducible refine Qin (f:=84) rfl ?_);refine Qgp (some 31) rfl rfl Tryz.func84 qq_6 rfl #[.string (a2.extract (x10_1:Int).toNat (x11_1:Int).toNat)] rfl qq_1 ?_;(with_reducible refine(Qbo.calls k1 (a2.extract (x10_1:Int).toNat (x11_1:Int).toNat) t697 t698 t699 t700 t701 _ A14.out).mono ?_);rintro e w17 ⟨rfl,hb⟩;refine⟨_,rfl,?_⟩;have n0_:=QA (Kd.R_below qq_3 hb);have n1_:=QA (Qeh (g:=gb696) (o:=.cells #[.int .u8 a0_0,.int .u32 a0_1] 27 (0,0)) qq_0 hb);have n2_:=QA (Qfh qq_b hb);clear HO_9 BK696 HB;have HO_9:=n0_;have BK696:=n1_;have HB:=n2_;clear n0_ n1_ n2_;(try clear hb);(try clear hb2);(try clear hk);(try clear hi)) |((with_reducible refine Qfs (N:=12) rfl ?_);refine qq_e 12 #[.bool false,.int .u64 0,.string (⟨#[]⟩:ByteArray),.string (⟨#[]⟩:ByteArray)] 39 ?_;intro gb702 hg w18 hbox hb;have n0_:=QA (Kd.R_below (Kd.R_elderB qq_3 gb702 (Nat.le_of_eq hg.symm)) hb);have n1_:=QA (Qeh (g:=gb696) (o:=.cells #[.int .u8 a0_0,.int .u32 a0_1] 27 (0,0)) qq_0 hb);have n2_:=QA (Qfh qq_b hb);have n3_:=QA (hbox);have n4_:=QA (qq_s hg:w.heap.size≤gb702);have n5_:=n4_;have n6_:=QA ((by rw[hg];exact Nat.ne_of_lt (Qdr (g:=gb696) (o:=.cells #[.int .u8 a0_0,.int .u32 a0_1] 27 (0,0)) qq_0):gb696≠gb702));have n7_:=QA ((by rw[hg];exact Nat.ne_of_gt (Qdr (g:=gb696) (o:=.cells #[.int .u8 a0_0,.int .u32 a0_1] 27 (0,0)) qq_0):gb702≠gb696));clear HO_9 BK696 HB;have HO_9:=n0_;have BK696:=n1_;have HB:=n2_;have BK702:=n3_;have GW702:=n4_;have GE702:=n5_;have NB696_702:=n6_;have NB702_696:=n7_;clear n0_ n1_ n2_ n3_ n4_ n5_ n6_ n7_ hb hbox hg;have hnb19:=NB702_696.out;have hnc19:=NB696_702.out;have hcz20_0:=qq_c (.bool false) BK702.out 0 rfl;have hcz20_1:=qq_c (.int .u64 0) BK702.out 1 rfl;have hcz20_2:=qq_c (.string (⟨#[]⟩:ByteArray)) BK702.out 2 rfl;have hcz20_3:=qq_c (.string (⟨#[]⟩:ByteArray)) BK702.out 3 rfl;have hfz20_0:=Qdt BK702.out 0;have hfz20_1:=Qdt BK702.out 1;have hfz20_2:=Qdt BK702.out 2;have hfz20_3:=Qdt BK702.out 3) |((with_reducible refine Qio (b:=.append) (xs:=#[.tmp 36,.tmp 38]) rfl ?_);at_builtin;refine Kd.R_append k39 (w0:=w) w.heap.size rfl (.tmp 36) (.tmp 38) 23 39 (.agg #[(.bool false),(.int .u64 0),(.string ⟨#[]⟩),(.string ⟨#[]⟩)]) 48 rfl Tryz.underlying23 Qiw rfl (by decide) (by omega) u9 x9_1 (⟨t697,t698,t699,t700⟩:S39) [.bool t697,.int .u64 t698,.string t699,.string t700] (fun k_=>k_≠gb702) (fun _=>False) rfl qq_11 ?aP (fun _ hk=>hk.elim) ?aF ?aO ?aB ?aS ?aL ?_;(case aP=>exact Qiz _ _ _ (⟨t697,t698,t699,t700⟩:S39));(case aB=>exact qq_b);(case aF=>exact(fun k_ hk=>Kd.freshB (g:=gb702) (o:=.cells #[.bool t697,.int .u64 t698,.string t699,.string t700] 39 (0,0)) (by(with_reducible repeat(first|apply Qeg|apply Qef|apply Qee));refine Qfn (cs:=#[.bool t697,.int .u64 t698,.string t699,.string (⟨#[]⟩:ByteArray)]) ?_ 3 _ rfl;(with_reducible repeat(first|apply Qeg|apply Qef|apply Qee));refine Qfn (cs:=#[.bool t697,.int .u64 t698,.string (⟨#[]⟩:ByteArray),.string (⟨#[]⟩:ByteArray)]) ?_ 2 _ rfl;(with_reducible repeat(first|apply Qeg|apply Qef|apply Qee));refine Qfn (cs:=#[.bool t697,.int .u64 0,.string (⟨#[]⟩:ByteArray),.string (⟨#[]⟩:ByteArray)]) ?_ 1 _ rfl;(with_reducible repeat(first|apply Qeg|apply Qef|apply Qee));refine Qfn (cs:=#[.bool false,.int .u64 0,.string (⟨#[]⟩:ByteArray),.string (⟨#[]⟩:ByteArray)]) ?_ 0 _ rfl;(with_reducible repeat(first|apply Qeg|apply Qef|apply Qee));exact BK702.out) k_ hk));(case aO=>exact(by(with_reducible repeat(first|apply Kd.R_alloc|apply Kd.R_drewN|apply Kd.R_drew));exact Kd.R_mono (Kd.R_far (p:=⟨gb702,3,none⟩) (Kd.R_far (p:=⟨gb702,2,none⟩) (Kd.R_far (p:=⟨gb702,1,none⟩) (Kd.R_far (p:=⟨gb702,0,none⟩) (Kd.R_mono HO_9.out (fun k_ hk=>(⟨hk,hk.2⟩:_∧k_≠gb702))) (fun _ hk=>hk.2) (.bool t697)) (fun _ hk=>hk.2) (.int .u64 t698)) (fun _ hk=>hk.2) (.string t699)) (fun _ hk=>hk.2) (.string t700)) (fun _ hk=>hk.1.2)));(case aS=>exact(Qfg qq_b));(case aL=>have:=LMc16.out;omega);intro v704 w21 ho hb hg hat;rw[← Ny703.out]at ho;have n0_:=QA (Qdu (g:=gb696) (o:=.cells #[.int .u8 a0_0,.int .u32 a0_1] 27 (0,0)) qq_9 hg (Kd.R_ne HO_9.out BK696.out (by decide)));have n1_:=QA (Qdu (g:=gb702) (o:=.cells #[.bool t697,.int .u64 t698,.string t699,.string t700] 39 (0,0)) (by(with_reducible repeat(first|apply Qeg|apply Qef|apply Qee));refine Qfn (cs:=#[.bool t697,.int .u64 t698,.string t699,.string (⟨#[]⟩:ByteArray)]) ?_ 3 _ rfl;(with_reducible repeat(first|apply Qeg|apply Qef|apply Qee));refine Qfn (cs:=#[.bool t697,.int .u64 t698,.string (⟨#[]⟩:ByteArray),.string (⟨#[]⟩:ByteArray)]) ?_ 2 _ rfl;(with_reducible repeat(first|apply Qeg|apply Qef|apply Qee));refine Qfn (cs:=#[.bool t697,.int .u64 0,.string (⟨#[]⟩:ByteArray),.string (⟨#[]⟩:ByteArray)]) ?_ 1 _ rfl;(with_reducible repeat(first|apply Qeg|apply Qef|apply Qee));refine Qfn (cs:=#[.bool false,.int .u64 0,.string (⟨#[]⟩:ByteArray),.string (⟨#[]⟩:ByteArray)]) ?_ 0 _ rfl;(with_reducible repeat(first|apply Qeg|apply Qef|apply Qee));exact BK702.out) hg (Kd.R_away HO_9.out (fun _ hk=>hk.2)));have n2_:=QA (hb);have n3_:=QA (ho);clear BK696 BK702 HB HO_9;have BK696:=n0_;have BK702:=n1_;have HB:=n2_;have HO705:=n3_;clear n0_ n1_ n2_ n3_;clear ho hb hg hat))
             go_roundg k1
             case measure=>have:=HK1.out;omega
             case rel=>exact⟨(y703),(wrap64 (x11_1+1)),(wrap64 (x11_1+1)),qq_5,qq_5,H',⟨by have:=HK1.out;omega⟩,⟨by(with_reducible repeat(first|apply Kd.R_alloc|apply Kd.R_drewN|apply Kd.R_drew));exact Kd.R_mono HO705.out (fun _ hk=>trivial)⟩,⟨by(with_reducible repeat(first|apply Qeg|apply Qef|apply Qee));exact BK696.out⟩,⟨qq_b⟩⟩
            ·rw[if_neg c16]at H
             exact absurd H (by simp)
           ·rw[if_neg c15]at H
            have c15b0:(t701 == 0)=false:=beq_eq_false_iff_ne.mpr c15
            have c15b1:(t701 != 0)=true:=bne_iff_ne.mpr c15
            have H':=QA H
            clear H
            have p8:0≤(x11_1:Int):=of_decide_eq_true qq_4
            have q8:x11_1<(a2.size:Int):=of_decide_eq_true qq_4
            have hx8:=Qct a2 x11_1
            replace p8:=eq_true p8
            replace q8:=eq_true q8
            go_wp2_with (first |((with_reducible refine Qin (f:=84) rfl ?_);refine Qgp (some 31) rfl rfl Tryz.func84 qq_6 rfl #[.string (a2.extract (x10_1:Int).toNat (x11_1:Int).toNat)] rfl qq_1 ?_;(with_reducible refine(Qbo.calls k1 (a2.extract (x10_1:Int).toNat (x11_1:Int).toNat) t697 t698 t699 t700 t701 _ A14.out).mono ?_);rintro e w22 ⟨rfl,hb⟩;refine⟨_,rfl,?_⟩;have n0_:=QA (Kd.R_below qq_3 hb);have n1_:=QA (Qeh (g:=gb696) (o:=.cells #[.int .u8 a0_0,.int .u32 a0_1] 27 (0,0)) qq_0 hb);have n2_:=QA (Qfh qq_b hb);clear HO_9 BK696 HB;have HO_9:=n0_;have BK696:=n1_;have HB:=n2_;clear n0_ n1_ n2_;(try clear hb);(try clear hb2);(try clear hk);(try clear hi)) |((with_reducible refine Qfs (N:=12) rfl ?_);refine qq_e 12 #[.bool false,.int .u64 0,.string (⟨#[]⟩:ByteArray),.string (⟨#[]⟩:ByteArray)] 39 ?_;intro gb702 hg w23 hbox hb;have n0_:=QA (Kd.R_below (Kd.R_elderB qq_3 gb702 (Nat.le_of_eq hg.symm)) hb);have n1_:=QA (Qeh (g:=gb696) (o:=.cells #[.int .u8 a0_0,.int .u32 a0_1] 27 (0,0)) qq_0 hb);have n2_:=QA (Qfh qq_b hb);have n3_:=QA (hbox);have n4_:=QA (qq_s hg:w.heap.size≤gb702);have n5_:=n4_;have n6_:=QA ((by rw[hg];exact Nat.ne_of_lt (Qdr (g:=gb696) (o:=.cells #[.int .u8 a0_0,.int .u32 a0_1] 27 (0,0)) qq_0):gb696≠gb702));have n7_:=QA ((by rw[hg];exact Nat.ne_of_gt (Qdr (g:=gb696) (o:=.cells #[.int .u8 a0_0,.int .u32 a0_1] 27 (0,0)) qq_0):gb702≠gb696));clear HO_9 BK696 HB;have HO_9:=n0_;have BK696:=n1_;have HB:=n2_;have BK702:=n3_;have GW702:=n4_;have GE702:=n5_;have NB696_702:=n6_;have NB702_696:=n7_;clear n0_ n1_ n2_ n3_ n4_ n5_ n6_ n7_ hb hbox hg;have hnb24:=NB702_696.out;have hnc24:=NB696_702.out;have hcz25_0:=qq_c (.bool false) BK702.out 0 rfl;have hcz25_1:=qq_c (.int .u64 0) BK702.out 1 rfl;have hcz25_2:=qq_c (.string (⟨#[]⟩:ByteArray)) BK702.out 2 rfl;have hcz25_3:=qq_c (.string (⟨#[]⟩:ByteArray)) BK702.out 3 rfl;have hfz25_0:=Qdt BK702.out 0;have hfz25_1:=Qdt BK702.out 1;have hfz25_2:=Qdt BK702.out 2;have hfz25_3:=Qdt BK702.out 3))
            go_meet
            case rel=>exact⟨_,(x9_1),H',⟨by have:=HK1.out;first|omega|exact Nat.le_refl _⟩,⟨by(with_reducible repeat(first|apply Kd.R_alloc|apply Kd.R_drewN|apply Kd.R_drew));exact Kd.R_mono (Kd.R_far (p:=⟨gb702,3,none⟩) (Kd.R_far (p:=⟨gb702,2,none⟩) (Kd.R_far (p:=⟨gb702,1,none⟩) (Kd.R_far (p:=⟨gb702,0,none⟩) (Kd.R_mono HO_9.out (fun k_ hk=>(⟨hk,hk.2⟩:_∧k_≠gb702))) (fun _ hk=>hk.2) (.bool t697)) (fun _ hk=>hk.2) (.int .u64 t698)) (fun _ hk=>hk.2) (.string t699)) (fun _ hk=>hk.2) (.string t700)) (fun _ hk=>trivial)⟩,⟨by(with_reducible repeat(first|apply Qeg|apply Qef|apply Qee));refine Qdq ?_ NB696_702.out _;(with_reducible repeat(first|apply Qeg|apply Qef|apply Qee));refine Qdq ?_ NB696_702.out _;(with_reducible repeat(first|apply Qeg|apply Qef|apply Qee));refine Qdq ?_ NB696_702.out _;(with_reducible repeat(first|apply Qeg|apply Qef|apply Qee));refine Qdq ?_ NB696_702.out _;(with_reducible repeat(first|apply Qeg|apply Qef|apply Qee));exact BK696.out⟩,⟨qq_b⟩⟩
          ·rw[if_neg c13]at H
           exact absurd H (by simp)
         ·rw[if_neg c12]at H
          exact absurd H (by simp)
        ·rw[if_neg c11]at H
         exact absurd H (by simp)
       ·rw[if_neg c10]at H
        have c10b0:decide (0≤x10_1)=false:=decide_eq_false c10
        clear c10
        have H':=QA H
        clear H
        have p8:0≤(x11_1:Int):=of_decide_eq_true qq_4
        have q8:x11_1<(a2.size:Int):=of_decide_eq_true qq_4
        have hx8:=Qct a2 x11_1
        replace p8:=eq_true p8
        replace q8:=eq_true q8
        go_wp2
        go_roundg k1
        case measure=>have:=HK1.out;omega
        case rel=>exact⟨(x9_1),(wrap64 (x11_1+1)),(wrap64 (x11_1+1)),qq_5,qq_5,H',⟨by have:=HK1.out;omega⟩,⟨by(with_reducible repeat(first|apply Kd.R_alloc|apply Kd.R_drewN|apply Kd.R_drew));exact HO_9.out⟩,⟨by(with_reducible repeat(first|apply Qeg|apply Qef|apply Qee));exact BK696.out⟩,⟨qq_b⟩⟩
      ·rw[if_neg c9]at H
       have c9b0:((bt a2 x11_1) == 0)=false:=beq_eq_false_iff_ne.mpr c9
       have c9b1:((bt a2 x11_1) != 0)=true:=bne_iff_ne.mpr c9
       have H':=QA H
       clear H
       have p8:0≤(x11_1:Int):=of_decide_eq_true qq_4
       have q8:x11_1<(a2.size:Int):=of_decide_eq_true qq_4
       have hx8:=Qct a2 x11_1
       replace p8:=eq_true p8
       replace q8:=eq_true q8
       go_wp2
       go_roundg k1
       case measure=>have:=HK1.out;omega
       case rel=>exact⟨(x9_1),(x10_1),(wrap64 (x11_1+1)),qq_5,qq_5,H',⟨by have:=HK1.out;omega⟩,⟨by(with_reducible repeat(first|apply Kd.R_alloc|apply Kd.R_drewN|apply Kd.R_drew));exact HO_9.out⟩,⟨by(with_reducible repeat(first|apply Qeg|apply Qef|apply Qee));exact BK696.out⟩,⟨qq_b⟩⟩
     ·rw[if_neg c7]at H
      exact absurd H (by simp)
    ·rw[if_neg c6]at H
     have c6b0:decide (x11_1<(a2.size:Int))=false:=decide_eq_false c6
     clear c6
     (first|rw[c6b0] |(simp only[Qgr,Qgs];rw[c6b0])|skip)
     have H':=QA H
     clear H
     go_wp2
     go_meet
     case rel=>exact⟨_,(x9_1),H',⟨by have:=HK1.out;first|omega|exact Nat.le_refl _⟩,⟨by(with_reducible repeat(first|apply Kd.R_alloc|apply Kd.R_drewN|apply Kd.R_drew));exact HO_9.out⟩,⟨by(with_reducible repeat(first|apply Qeg|apply Qef|apply Qee));exact BK696.out⟩,⟨qq_b⟩⟩
 case rest =>
  clear HC4
  try clear c6
  try clear c6b0
  try clear c7
  try clear c7b0
  try clear p8
  try clear q8
  try clear hx8
  try clear c9
  try clear c9b0
  try clear c9b1
  try clear c10
  try clear c10b0
  try clear c11
  try clear c11b0
  try clear c11b1
  try clear c12
  try clear c12b0
  try clear c12b1
  try clear c13
  try clear c13b0
  try clear c13b1
  try clear c15
  try clear c15b0
  try clear c15b1
  try clear c16
  try clear hcz20_0
  try clear hcz20_1
  try clear hcz20_2
  try clear hcz20_3
  try clear hcz25_0
  try clear hcz25_1
  try clear hcz25_2
  try clear hcz25_3
  try clear hfz20_0
  try clear hfz20_1
  try clear hfz20_2
  try clear hfz20_3
  try clear hfz25_0
  try clear hfz25_1
  try clear hfz25_2
  try clear hfz25_3
  try clear p8
  try clear q8
  obtain⟨kq,x9_3,HA,HJ3,HO_9,BK696,HB⟩:=hcut
  cases kq with
  | zero=>exact absurd HA.out (by simp[Qcd.j1])
  | succ kj3 =>
   have H:=HA.out
   clear HA
   simp only[Qcd.j1]at H
   replace H:=Option.bind_eq_some_iff.mp H
   obtain⟨t706,A260,H⟩:=H
   replace H:(if t706.toList=a2.toList then(some (x9_3,false,true))else(if(x9_3.length:Int) > 0 then((Qce.f kj3 a0_0 a0_1 a1 x9_3 true).bind fun t707=>(if t707.toList=a2.toList then(some (x9_3,true,true))else(some (([]:List (S39)),false,false))))else(some (([]:List (S39)),false,false))))=some (r1,r2,r3):=H
   have A26:=QA A260
   clear A260
   by_cases c27:t706.toList=a2.toList
   ·rw[if_pos c27]at H
    have c27b0:(t706.toList == a2.toList)=true:=beq_iff_eq.mpr c27
    have c27b1:(t706.toList != a2.toList)=false:=bne_eq_false_iff_eq.mpr c27
    clear c27
    simp only[Option.some.injEq,Prod.mk.injEq]at H
    obtain⟨rfl,rfl,rfl⟩:=H
    have hcz28_0:=qq_c (.int .u8 a0_0) BK696.out 0 rfl
    have hcz28_1:=qq_c (.int .u32 a0_1) BK696.out 1 rfl
    have hfz28_0:=Qdt BK696.out 0
    have hfz28_1:=Qdt BK696.out 1
    obtain⟨Ao29,co29,eo29⟩:=Kd.R_slice HO_9.out
    subst eo29
    go_wp2_with (first |((with_reducible refine Qin (f:=31) rfl ?_);refine Qgp (some 45) rfl rfl Tryz.func31 qq_6 rfl #[.agg #[.int .u8 a0_0,.int .u32 a0_1],.int .u64 a1,.slice Ao29 x9_3.length co29,.bool false] rfl qq_1 ?_;(with_reducible refine(Qce.calls kj3 a0_0 a0_1 a1 _ _ x9_3 false t706 _ ?side1 ?side2 A26.out).mono ?_);(case side1=>repeat(first|exact(Kd.R_reads' HO_9.out).2.2 |(with_reducible refine Kd.C_alloc ?_ _) |(with_reducible refine Kd.C_drewN ?_ _) |(with_reducible refine Kd.C_drew ?_)));(case side2=>exact(Kd.R_reads' HO_9.out).2.1);rintro e w30 ⟨rfl,hb⟩;refine⟨_,rfl,?_⟩;have n0_:=QA (Kd.R_below qq_3 hb);have n1_:=QA (Qeh (g:=gb696) (o:=.cells #[.int .u8 a0_0,.int .u32 a0_1] 27 (0,0)) qq_0 hb);have n2_:=QA (Qfh qq_b hb);clear HO_9 BK696 HB;have HO_9:=n0_;have BK696:=n1_;have HB:=n2_;clear n0_ n1_ n2_;(try clear hb);(try clear hb2);(try clear hk);(try clear hi)))
    go_ret3
    exact⟨_,by first|rfl |(simp[Qis,Qit]<;>rfl) |(simp[*,Qis,Qit]<;>rfl),by(with_reducible repeat(first|apply Kd.R_alloc|apply Kd.R_drewN|apply Kd.R_drew));exact HO_9.out,qq_b⟩
   ·rw[if_neg c27]at H
    have c27b0:(t706.toList == a2.toList)=false:=beq_eq_false_iff_ne.mpr c27
    have c27b1:(t706.toList != a2.toList)=true:=bne_iff_ne.mpr c27
    by_cases c31:(x9_3.length:Int) > 0
    ·rw[if_pos c31]at H
     have c31b0:decide (0<(x9_3.length:Int))=true:=decide_eq_true c31
     have c31b1:decide (0<x9_3.length)=true:=decide_eq_true (by omega)
     clear c31
     replace H:=Option.bind_eq_some_iff.mp H
     obtain⟨t707,A320,H⟩:=H
     replace H:(if t707.toList=a2.toList then(some (x9_3,true,true))else(some (([]:List (S39)),false,false)))=some (r1,r2,r3):=H
     have A32:=QA A320
     clear A320
     by_cases c33:t707.toList=a2.toList
     ·rw[if_pos c33]at H
      have c33b0:(t707.toList == a2.toList)=true:=beq_iff_eq.mpr c33
      have c33b1:(t707.toList != a2.toList)=false:=bne_eq_false_iff_eq.mpr c33
      clear c33
      simp only[Option.some.injEq,Prod.mk.injEq]at H
      obtain⟨rfl,rfl,rfl⟩:=H
      have hcz34_0:=qq_c (.int .u8 a0_0) BK696.out 0 rfl
      have hcz34_1:=qq_c (.int .u32 a0_1) BK696.out 1 rfl
      have hfz34_0:=Qdt BK696.out 0
      have hfz34_1:=Qdt BK696.out 1
      obtain⟨Ao35,co35,eo35⟩:=Kd.R_slice HO_9.out
      subst eo35
      go_wp2_with (first |((with_reducible refine Qin (f:=31) rfl ?_);refine Qgp (some 45) rfl rfl Tryz.func31 qq_6 rfl #[.agg #[.int .u8 a0_0,.int .u32 a0_1],.int .u64 a1,.slice Ao35 x9_3.length co35,.bool false] rfl qq_1 ?_;(with_reducible refine(Qce.calls kj3 a0_0 a0_1 a1 _ _ x9_3 false t706 _ ?side1 ?side2 A26.out).mono ?_);(case side1=>repeat(first|exact(Kd.R_reads' HO_9.out).2.2 |(with_reducible refine Kd.C_alloc ?_ _) |(with_reducible refine Kd.C_drewN ?_ _) |(with_reducible refine Kd.C_drew ?_)));(case side2=>exact(Kd.R_reads' HO_9.out).2.1);rintro e w36 ⟨rfl,hb⟩;refine⟨_,rfl,?_⟩;have n0_:=QA (Kd.R_below qq_3 hb);have n1_:=QA (Qeh (g:=gb696) (o:=.cells #[.int .u8 a0_0,.int .u32 a0_1] 27 (0,0)) qq_0 hb);have n2_:=QA (Qfh qq_b hb);clear HO_9 BK696 HB;have HO_9:=n0_;have BK696:=n1_;have HB:=n2_;clear n0_ n1_ n2_;(try clear hb);(try clear hb2);(try clear hk);(try clear hi);have hcz37_0:=qq_c (.int .u8 a0_0) BK696.out 0 rfl;have hcz37_1:=qq_c (.int .u32 a0_1) BK696.out 1 rfl;have hfz37_0:=Qdt BK696.out 0;have hfz37_1:=Qdt BK696.out 1) |(go_at_call 31;(with_reducible refine(Qce.calls kj3 a0_0 a0_1 a1 _ _ x9_3 true t707 _ ?side1 ?side2 A32.out).mono ?_);(case side1=>repeat(first|exact(Kd.R_reads' HO_9.out).2.2 |(with_reducible refine Kd.C_alloc ?_ _) |(with_reducible refine Kd.C_drewN ?_ _) |(with_reducible refine Kd.C_drew ?_)));(case side2=>exact(Kd.R_reads' HO_9.out).2.1);rintro e w38 ⟨rfl,hb⟩;have n0_:=QA (Kd.R_below qq_3 hb);have n1_:=QA (Qeh (g:=gb696) (o:=.cells #[.int .u8 a0_0,.int .u32 a0_1] 27 (0,0)) qq_0 hb);have n2_:=QA (Qfh qq_b hb);clear HO_9 BK696 HB;have HO_9:=n0_;have BK696:=n1_;have HB:=n2_;clear n0_ n1_ n2_;(try clear hb);(try clear hb2);(try clear hk);(try clear hi)))
      go_ret3
      exact⟨_,by first|rfl |(simp[Qis,Qit]<;>rfl) |(simp[*,Qis,Qit]<;>rfl),by(with_reducible repeat(first|apply Kd.R_alloc|apply Kd.R_drewN|apply Kd.R_drew));exact HO_9.out,qq_b⟩
     ·rw[if_neg c33]at H
      have c33b0:(t707.toList == a2.toList)=false:=beq_eq_false_iff_ne.mpr c33
      have c33b1:(t707.toList != a2.toList)=true:=bne_iff_ne.mpr c33
      simp only[Option.some.injEq,Prod.mk.injEq]at H
      obtain⟨rfl,rfl,rfl⟩:=H
      have hcz39_0:=qq_c (.int .u8 a0_0) BK696.out 0 rfl
      have hcz39_1:=qq_c (.int .u32 a0_1) BK696.out 1 rfl
      have hfz39_0:=Qdt BK696.out 0
      have hfz39_1:=Qdt BK696.out 1
      obtain⟨Ao40,co40,eo40⟩:=Kd.R_slice HO_9.out
      subst eo40
      go_wp2_with (first |((with_reducible refine Qin (f:=31) rfl ?_);refine Qgp (some 45) rfl rfl Tryz.func31 qq_6 rfl #[.agg #[.int .u8 a0_0,.int .u32 a0_1],.int .u64 a1,.slice Ao40 x9_3.length co40,.bool false] rfl qq_1 ?_;(with_reducible refine(Qce.calls kj3 a0_0 a0_1 a1 _ _ x9_3 false t706 _ ?side1 ?side2 A26.out).mono ?_);(case side1=>repeat(first|exact(Kd.R_reads' HO_9.out).2.2 |(with_reducible refine Kd.C_alloc ?_ _) |(with_reducible refine Kd.C_drewN ?_ _) |(with_reducible refine Kd.C_drew ?_)));(case side2=>exact(Kd.R_reads' HO_9.out).2.1);rintro e w41 ⟨rfl,hb⟩;refine⟨_,rfl,?_⟩;have n0_:=QA (Kd.R_below qq_3 hb);have n1_:=QA (Qeh (g:=gb696) (o:=.cells #[.int .u8 a0_0,.int .u32 a0_1] 27 (0,0)) qq_0 hb);have n2_:=QA (Qfh qq_b hb);clear HO_9 BK696 HB;have HO_9:=n0_;have BK696:=n1_;have HB:=n2_;clear n0_ n1_ n2_;(try clear hb);(try clear hb2);(try clear hk);(try clear hi);have hcz42_0:=qq_c (.int .u8 a0_0) BK696.out 0 rfl;have hcz42_1:=qq_c (.int .u32 a0_1) BK696.out 1 rfl;have hfz42_0:=Qdt BK696.out 0;have hfz42_1:=Qdt BK696.out 1) |(go_at_call 31;(with_reducible refine(Qce.calls kj3 a0_0 a0_1 a1 _ _ x9_3 true t707 _ ?side1 ?side2 A32.out).mono ?_);(case side1=>repeat(first|exact(Kd.R_reads' HO_9.out).2.2 |(with_reducible refine Kd.C_alloc ?_ _) |(with_reducible refine Kd.C_drewN ?_ _) |(with_reducible refine Kd.C_drew ?_)));(case side2=>exact(Kd.R_reads' HO_9.out).2.1);rintro e w43 ⟨rfl,hb⟩;have n0_:=QA (Kd.R_below qq_3 hb);have n1_:=QA (Qeh (g:=gb696) (o:=.cells #[.int .u8 a0_0,.int .u32 a0_1] 27 (0,0)) qq_0 hb);have n2_:=QA (Qfh qq_b hb);clear HO_9 BK696 HB;have HO_9:=n0_;have BK696:=n1_;have HB:=n2_;clear n0_ n1_ n2_;(try clear hb);(try clear hb2);(try clear hk);(try clear hi)))
      go_ret3
      exact⟨_,by first|rfl |(simp[Qis,Qit]<;>rfl) |(simp[*,Qis,Qit]<;>rfl),by first|exact Kd.R_nil _ _ _ _ _|exact Kd.N_nil _ _ _ _ _|exact Kd.V_nil _ _ _ _ _|exact Kd.Q_nil _ _ _ _ _|exact Kd.S_nil _ _ _ _ _,qq_b⟩
    ·rw[if_neg c31]at H
     have c31b0:decide (0<(x9_3.length:Int))=false:=decide_eq_false c31
     have c31b1:decide (0<x9_3.length)=false:=decide_eq_false (by omega)
     clear c31
     simp only[Option.some.injEq,Prod.mk.injEq]at H
     obtain⟨rfl,rfl,rfl⟩:=H
     have hcz44_0:=qq_c (.int .u8 a0_0) BK696.out 0 rfl
     have hcz44_1:=qq_c (.int .u32 a0_1) BK696.out 1 rfl
     have hfz44_0:=Qdt BK696.out 0
     have hfz44_1:=Qdt BK696.out 1
     obtain⟨Ao45,co45,eo45⟩:=Kd.R_slice HO_9.out
     subst eo45
     go_wp2_with (first |((with_reducible refine Qin (f:=31) rfl ?_);refine Qgp (some 45) rfl rfl Tryz.func31 qq_6 rfl #[.agg #[.int .u8 a0_0,.int .u32 a0_1],.int .u64 a1,.slice Ao45 x9_3.length co45,.bool false] rfl qq_1 ?_;(with_reducible refine(Qce.calls kj3 a0_0 a0_1 a1 _ _ x9_3 false t706 _ ?side1 ?side2 A26.out).mono ?_);(case side1=>repeat(first|exact(Kd.R_reads' HO_9.out).2.2 |(with_reducible refine Kd.C_alloc ?_ _) |(with_reducible refine Kd.C_drewN ?_ _) |(with_reducible refine Kd.C_drew ?_)));(case side2=>exact(Kd.R_reads' HO_9.out).2.1);rintro e w46 ⟨rfl,hb⟩;refine⟨_,rfl,?_⟩;have n0_:=QA (Kd.R_below qq_3 hb);have n1_:=QA (Qeh (g:=gb696) (o:=.cells #[.int .u8 a0_0,.int .u32 a0_1] 27 (0,0)) qq_0 hb);have n2_:=QA (Qfh qq_b hb);clear HO_9 BK696 HB;have HO_9:=n0_;have BK696:=n1_;have HB:=n2_;clear n0_ n1_ n2_;(try clear hb);(try clear hb2);(try clear hk);(try clear hi)))
     go_ret3
     exact⟨_,by first|rfl |(simp[Qis,Qit]<;>rfl) |(simp[*,Qis,Qit]<;>rfl),by first|exact Kd.R_nil _ _ _ _ _|exact Kd.N_nil _ _ _ _ _|exact Kd.V_nil _ _ _ _ _|exact Kd.Q_nil _ _ _ _ _|exact Kd.S_nil _ _ _ _ _,qq_b⟩
end Go.Proofs.YtnnofopfbeklbaaGreat.C
end
