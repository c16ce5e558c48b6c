/- Texts of this claim's author and of the print of its functions, merged by merge.py. -/
import Derived.Test.YtnnofopfbeklbaaGreatMI02
import Derived.Test.YtnnofopfbeklbaaGreatMI03
import Derived.Test.YtnnofopfbeklbaaGreatMI04
set_option linter.unusedVariables false
set_option linter.unusedSimpArgs false
set_option maxHeartbeats 8000000
set_option maxRecDepth 100000
section
namespace Go.Proofs.YtnnofopfbeklbaaGreat.C
open Go.RowKit Go.Proofs.YtnnofopfbeklbaaGreatW.PrintWords Go.Proofs.YtnnofopfbeklbaaGreatW.PrintLast Go.Proofs.YtnnofopfbeklbaaGreatW.PrintMore
attribute [local go_sem] Qgv Qgw Qgx Qgy Qgz Qha Qhb Qhc
mutual
def Qbn.l0:Nat→List (S39)→List (S39)→Int→Int→Option (Int)
 | 0,_,_,_,_=>none
 | k+1,x0,x7,x8,x9=>if x9<x8 then(if 0≤x9 then(if x9<(x7.length:Int)then((Qbm.f k ((Qhn x7 x9).f0) ((Qhn x7 x9).f1) ((Qhn x7 x9).f2) ((Qhn x7 x9).f3)).bind fun t147=>(if t147=0 then(Qbn.l0 k x0 x7 x8 (wrap64 (x9+1)))else(some t147)))else(none))else(none))else(Qbn.l1 k x0 1)
def Qbn.l1:Nat→List (S39)→Int→Option (Int)
 | 0,_,_=>none
 | k+1,x0,x6=>if x6<(x0.length:Int)then(if 0≤x6 then(if 0≤(wrap64 (x6-1))then(if(wrap64 (x6-1))<(x0.length:Int)then(if((Qhn x0 x6).f1)≤((Qhn x0 (wrap64 (x6-1))).f1)then(some 8)else(Qbn.l1 k x0 (wrap64 (x6+1))))else(none))else(none))else(none))else(some 0)
end
def Qbn.f(k:Nat)(l0:List (S39)):Option (Int):=Qbn.l0 k l0 l0 (l0.length:Int) 0
theorem Qbn.calls (k:Nat) (A0:Option Addr) (c0:Nat) (l0:List (S39)) (r:Int) (w:World) (hr0:Kd.C k39 w A0 l0.length l0) (hc0:l0.length≤c0) (h:Qbn.f k l0=some r) :
  Calls Tryz.prog 124 #[.slice A0 l0.length c0] w fun e w'=>e=.returned (.int .i64 r)∧Below w.heap.size w w':=by
 have hu39:=Tryz.underlying39
 have HR0:=QA hr0
 have HC0:=QA hc0
 clear hr0 hc0
 have HB:=QA (Below.refl w.heap.size w)
 have H:(Qbn.l0 k l0 l0 (l0.length:Int) 0)=some r:=h
 clear h
 have H':=QA H
 clear H
 go_enter Tryz.func124,Tryz.ntmps124
 go_wp2
 repeat(go_quiet (fail);try go_wp2)
 go_loopg [9] k (fun kq v9 w'=>∃(x9_1:Int),v9=.int .i64 x9_1∧Aside0 (Qbn.l0 kq l0 l0 (l0.length:Int) x9_1=some r)∧Aside0 (kq≤k)∧Aside0 (Below w.heap.size w w'))
 case atStart=>exact⟨(0),qq_9,H',⟨Nat.le_refl _⟩,⟨qq_b⟩⟩
 case round =>
  clear H'
  obtain⟨x9_1,rfl,HA,HK1,HB⟩:=hrel
  cases gk with
  | zero=>exact absurd HA.out (by simp[Qbn.l0])
  | succ k1 =>
   have H:=HA.out
   clear HA
   simp only[Qbn.l0]at H
   by_cases c2:x9_1<(l0.length:Int)
   ·rw [if_pos c2]at H
    have c2b0:decide (x9_1<(l0.length:Int))=true:=decide_eq_true c2
    clear c2
    by_cases c3:0≤x9_1
    ·rw[if_pos c3]at H
     have c3b0:decide (0≤x9_1)=true:=decide_eq_true c3
     clear c3
     by_cases c4:x9_1<(l0.length:Int)
     ·rw[if_pos c4]at H
      have c4b0:decide (x9_1<(l0.length:Int))=true:=decide_eq_true c4
      clear c4
      replace H:=Option.bind_eq_some_iff.mp H
      obtain⟨t147,A50,H⟩:=H
      replace H:(if t147=0 then(Qbn.l0 k1 l0 l0 (l0.length:Int) (wrap64 (x9_1+1)))else(some t147))=some r:=H
      have A5:=QA A50
      clear A50
      by_cases c6:t147=0
      ·rw[if_pos c6]at H
       have c6b0:(t147 == 0)=true:=beq_iff_eq.mpr c6
       have c6b1:(t147 != 0)=false:=bne_eq_false_iff_eq.mpr c6
       clear c6
       have H':=QA H
       clear H
       have p145:0≤(x9_1:Int):=of_decide_eq_true qq_6
       have q145:x9_1<(l0.length:Int):=of_decide_eq_true qq_6
       obtain⟨ad145,e145,hx145_0,hx145_1,hx145_2,hx145_3⟩:=Qho HR0.out x9_1 p145 q145
       cases e145
       replace hx145_0:=qq_h HB.out hx145_0
       replace hx145_1:=qq_h HB.out hx145_1
       replace hx145_2:=qq_h HB.out hx145_2
       replace hx145_3:=qq_h HB.out hx145_3
       replace p145:=eq_true p145
       replace q145:=eq_true q145
       go_wp2_with (first |((with_reducible refine Qel (N:=4) rfl ?_);refine qq_e 4 #[.bool false,.int .u64 0,.string (⟨#[]⟩:ByteArray),.string (⟨#[]⟩:ByteArray)] 39 ?_;intro gb146 hg w7 hbox hb;have n0_:=QA (Qeb qq_b hb);have n1_:=QA (hbox);have n2_:=QA (qq_s hg:w.heap.size≤gb146);have n3_:=n2_;clear HB;have HB:=n0_;have BK146:=n1_;have GW146:=n2_;have GE146:=n3_;clear n0_ n1_ n2_ n3_ hb hbox hg;have hcz8_0:=qq_c (.bool false) BK146.out 0 rfl;have hcz8_1:=qq_c (.int .u64 0) BK146.out 1 rfl;have hcz8_2:=qq_c (.string (⟨#[]⟩:ByteArray)) BK146.out 2 rfl;have hcz8_3:=qq_c (.string (⟨#[]⟩:ByteArray)) BK146.out 3 rfl;have hfz8_0:=Qcu BK146.out 0;have hfz8_1:=Qcu BK146.out 1;have hfz8_2:=Qcu BK146.out 2;have hfz8_3:=Qcu BK146.out 3) |(go_at_call 56;(with_reducible refine(Qbm.calls k1 ((Qhn l0 x9_1).f0) ((Qhn l0 x9_1).f1) ((Qhn l0 x9_1).f2) ((Qhn l0 x9_1).f3) t147 _ A5.out).mono ?_);rintro e w9 ⟨rfl,hb⟩;have n0_:=QA (Qdg (g:=gb146) (o:=.cells #[.bool ((Qhn l0 x9_1).f0),.int .u64 ((Qhn l0 x9_1).f1),.string ((Qhn l0 x9_1).f2),.string ((Qhn l0 x9_1).f3)] 39 (0,0)) (by(with_reducible repeat(first|apply Qdf|apply Qde|apply Qdd));refine Qeg (cs:=#[.bool ((Qhn l0 x9_1).f0),.int .u64 ((Qhn l0 x9_1).f1),.string ((Qhn l0 x9_1).f2),.string (⟨#[]⟩:ByteArray)]) ?_ 3 _ rfl;(with_reducible repeat(first|apply Qdf|apply Qde|apply Qdd));refine Qeg (cs:=#[.bool ((Qhn l0 x9_1).f0),.int .u64 ((Qhn l0 x9_1).f1),.string (⟨#[]⟩:ByteArray),.string (⟨#[]⟩:ByteArray)]) ?_ 2 _ rfl;(with_reducible repeat(first|apply Qdf|apply Qde|apply Qdd));refine Qeg (cs:=#[.bool ((Qhn l0 x9_1).f0),.int .u64 0,.string (⟨#[]⟩:ByteArray),.string (⟨#[]⟩:ByteArray)]) ?_ 1 _ rfl;(with_reducible repeat(first|apply Qdf|apply Qde|apply Qdd));refine Qeg (cs:=#[.bool false,.int .u64 0,.string (⟨#[]⟩:ByteArray),.string (⟨#[]⟩:ByteArray)]) ?_ 0 _ rfl;(with_reducible repeat(first|apply Qdf|apply Qde|apply Qdd));exact BK146.out) hb);have n1_:=QA (Qeb qq_b hb);clear BK146 HB;have BK146:=n0_;have HB:=n1_;clear n0_ n1_;(try clear hb);(try clear hb2);(try clear hk);(try clear hi)))
       go_roundg k1
       case measure=>have:=HK1.out;omega
       case rel=>exact⟨(wrap64 (x9_1+1)),qq_9,H',⟨by have:=HK1.out;omega⟩,⟨qq_b⟩⟩
      ·rw[if_neg c6]at H
       have c6b0:(t147 == 0)=false:=beq_eq_false_iff_ne.mpr c6
       have c6b1:(t147 != 0)=true:=bne_iff_ne.mpr c6
       obtain rfl:=Option.some.inj H
       have p145:0≤(x9_1:Int):=of_decide_eq_true qq_6
       have q145:x9_1<(l0.length:Int):=of_decide_eq_true qq_6
       obtain⟨ad145,e145,hx145_0,hx145_1,hx145_2,hx145_3⟩:=Qho HR0.out x9_1 p145 q145
       cases e145
       replace hx145_0:=qq_h HB.out hx145_0
       replace hx145_1:=qq_h HB.out hx145_1
       replace hx145_2:=qq_h HB.out hx145_2
       replace hx145_3:=qq_h HB.out hx145_3
       replace p145:=eq_true p145
       replace q145:=eq_true q145
       go_wp2_with (first |((with_reducible refine Qel (N:=4) rfl ?_);refine qq_e 4 #[.bool false,.int .u64 0,.string (⟨#[]⟩:ByteArray),.string (⟨#[]⟩:ByteArray)] 39 ?_;intro gb146 hg w10 hbox hb;have n0_:=QA (Qeb qq_b hb);have n1_:=QA (hbox);have n2_:=QA (qq_s hg:w.heap.size≤gb146);have n3_:=n2_;clear HB;have HB:=n0_;have BK146:=n1_;have GW146:=n2_;have GE146:=n3_;clear n0_ n1_ n2_ n3_ hb hbox hg;have hcz11_0:=qq_c (.bool false) BK146.out 0 rfl;have hcz11_1:=qq_c (.int .u64 0) BK146.out 1 rfl;have hcz11_2:=qq_c (.string (⟨#[]⟩:ByteArray)) BK146.out 2 rfl;have hcz11_3:=qq_c (.string (⟨#[]⟩:ByteArray)) BK146.out 3 rfl;have hfz11_0:=Qcu BK146.out 0;have hfz11_1:=Qcu BK146.out 1;have hfz11_2:=Qcu BK146.out 2;have hfz11_3:=Qcu BK146.out 3) |(go_at_call 56;(with_reducible refine(Qbm.calls k1 ((Qhn l0 x9_1).f0) ((Qhn l0 x9_1).f1) ((Qhn l0 x9_1).f2) ((Qhn l0 x9_1).f3) t147 _ A5.out).mono ?_);rintro e w12 ⟨rfl,hb⟩;have n0_:=QA (Qdg (g:=gb146) (o:=.cells #[.bool ((Qhn l0 x9_1).f0),.int .u64 ((Qhn l0 x9_1).f1),.string ((Qhn l0 x9_1).f2),.string ((Qhn l0 x9_1).f3)] 39 (0,0)) (by(with_reducible repeat(first|apply Qdf|apply Qde|apply Qdd));refine Qeg (cs:=#[.bool ((Qhn l0 x9_1).f0),.int .u64 ((Qhn l0 x9_1).f1),.string ((Qhn l0 x9_1).f2),.string (⟨#[]⟩:ByteArray)]) ?_ 3 _ rfl;(with_reducible repeat(first|apply Qdf|apply Qde|apply Qdd));refine Qeg (cs:=#[.bool ((Qhn l0 x9_1).f0),.int .u64 ((Qhn l0 x9_1).f1),.string (⟨#[]⟩:ByteArray),.string (⟨#[]⟩:ByteArray)]) ?_ 2 _ rfl;(with_reducible repeat(first|apply Qdf|apply Qde|apply Qdd));refine Qeg (cs:=#[.bool ((Qhn l0 x9_1).f0),.int .u64 0,.string (⟨#[]⟩:ByteArray),.string (⟨#[]⟩:ByteArray)]) ?_ 1 _ rfl;(with_reducible repeat(first|apply Qdf|apply Qde|apply Qdd));refine Qeg (cs:=#[.bool false,.int .u64 0,.string (⟨#[]⟩:ByteArray),.string (⟨#[]⟩:ByteArray)]) ?_ 0 _ rfl;(with_reducible repeat(first|apply Qdf|apply Qde|apply Qdd));exact BK146.out) hb);have n1_:=QA (Qeb qq_b hb);clear BK146 HB;have BK146:=n0_;have HB:=n1_;clear n0_ n1_;(try clear hb);(try clear hb2);(try clear hk);(try clear hi)))
       go_ret
       exact⟨by first|rfl |(simp[Qhh,Qhi]<;>rfl) |(simp[*,Qhh,Qhi]<;>rfl),qq_b⟩
     ·rw[if_neg c4]at H
      exact absurd H (by simp)
    ·rw[if_neg c3]at H
     exact absurd H (by simp)
   ·rw [if_neg c2]at H
    have c2b0:decide (x9_1<(l0.length:Int))=false:=decide_eq_false c2
    clear c2
    have H':=QA H
    clear H
    go_wp2
    repeat(go_quiet (fail);try go_wp2)
    go_loopg [6] k1 (fun kq v6 w'=>∃(x6_2:Int),v6=.int .i64 x6_2∧Aside0 (Qbn.l1 kq l0 x6_2=some r)∧Aside0 (kq≤k1)∧Aside0 (Below w.heap.size w w'))
    case atStart=>exact⟨(1),qq_9,H',⟨Nat.le_refl _⟩,⟨qq_b⟩⟩
    case round =>
     clear H'
     try clear c2
     try clear c2b0
     try clear c3
     try clear c3b0
     try clear c4
     try clear c4b0
     try clear c6
     try clear c6b0
     try clear c6b1
     try clear hcz11_0
     try clear hcz11_1
     try clear hcz11_2
     try clear hcz11_3
     try clear hcz8_0
     try clear hcz8_1
     try clear hcz8_2
     try clear hcz8_3
     try clear hfz11_0
     try clear hfz11_1
     try clear hfz11_2
     try clear hfz11_3
     try clear hfz8_0
     try clear hfz8_1
     try clear hfz8_2
     try clear hfz8_3
     try clear hx145_0
     try clear hx145_1
     try clear hx145_2
     try clear hx145_3
     try clear p145
     try clear q145
     obtain⟨x6_2,rfl,HA,HK2,HB⟩:=hrel
     cases gk with
     | zero=>exact absurd HA.out (by simp[Qbn.l1])
     | succ k2 =>
      have H:=HA.out
      clear HA
      simp only[Qbn.l1]at H
      by_cases c13:x6_2<(l0.length:Int)
      ·rw [if_pos c13]at H
       have c13b0:decide (x6_2<(l0.length:Int))=true:=decide_eq_true c13
       clear c13
       by_cases c14:0≤x6_2
       ·rw [if_pos c14]at H
        have c14b0:decide (0≤x6_2)=true:=decide_eq_true c14
        clear c14
        obtain⟨ji15,hji15⟩:∃j_:Int,(wrap64 (x6_2-1))=j_:=⟨_,rfl⟩
        replace H:(if 0≤(ji15)then(if(ji15)<(l0.length:Int)then(if((Qhn l0 x6_2).f1)≤((Qhn l0 (ji15)).f1)then(some 8)else(Qbn.l1 k2 l0 (wrap64 (x6_2+1))))else(none))else(none))=some r:=by first |(rw[hji15]at H;exact H) |(simp only[hji15]at H ⊢;exact H)
        have hji15w:(IntKind.i64.wrap (x6_2-1))=ji15:=(Qfm _).trans hji15
        by_cases c16:0≤(ji15)
        ·rw[if_pos c16]at H
         have c16b0:decide (0≤(ji15))=true:=decide_eq_true c16
         clear c16
         by_cases c17:(ji15)<(l0.length:Int)
         ·rw[if_pos c17]at H
          have c17b0:decide ((ji15)<(l0.length:Int))=true:=decide_eq_true c17
          clear c17
          by_cases c18:((Qhn l0 x6_2).f1)≤((Qhn l0 (ji15)).f1)
          ·rw[if_pos c18]at H
           have c18b0:decide (((Qhn l0 x6_2).f1)≤((Qhn l0 (ji15)).f1))=true:=decide_eq_true c18
           clear c18
           obtain rfl:=Option.some.inj H
           have p148:0≤(x6_2:Int):=of_decide_eq_true qq_6
           have q148:x6_2<(l0.length:Int):=of_decide_eq_true qq_6
           obtain⟨ad148,e148,hx148_0,hx148_1,hx148_2,hx148_3⟩:=Qho HR0.out x6_2 p148 q148
           cases e148
           replace hx148_0:=qq_h HB.out hx148_0
           replace hx148_1:=qq_h HB.out hx148_1
           replace hx148_2:=qq_h HB.out hx148_2
           replace hx148_3:=qq_h HB.out hx148_3
           replace p148:=eq_true p148
           replace q148:=eq_true q148
           have p149:0≤((ji15):Int):=of_decide_eq_true qq_6
           have q149:(ji15)<(l0.length:Int):=of_decide_eq_true qq_6
           obtain⟨ad149,e149,hx149_0,hx149_1,hx149_2,hx149_3⟩:=Qho HR0.out (ji15) p149 q149
           obtain rfl:ad148=ad149:=(by injection e149)
           replace hx149_0:=qq_h HB.out hx149_0
           replace hx149_1:=qq_h HB.out hx149_1
           replace hx149_2:=qq_h HB.out hx149_2
           replace hx149_3:=qq_h HB.out hx149_3
           replace p149:=eq_true p149
           replace q149:=eq_true q149
           go_wp2
           repeat(go_quiet (fail);try go_wp2)
           go_ret
           exact⟨by first|rfl |(simp[Qhh,Qhi]<;>rfl) |(simp only[← hji15];first|rfl |(simp[Qhh,Qhi]<;>rfl)) |(simp[*,Qhh,Qhi]<;>rfl),qq_b⟩
          ·rw[if_neg c18]at H
           have c18b0:decide (((Qhn l0 x6_2).f1)≤((Qhn l0 (ji15)).f1))=false:=decide_eq_false c18
           clear c18
           have H':=QA H
           clear H
           have p148:0≤(x6_2:Int):=of_decide_eq_true qq_6
           have q148:x6_2<(l0.length:Int):=of_decide_eq_true qq_6
           obtain⟨ad148,e148,hx148_0,hx148_1,hx148_2,hx148_3⟩:=Qho HR0.out x6_2 p148 q148
           cases e148
           replace hx148_0:=qq_h HB.out hx148_0
           replace hx148_1:=qq_h HB.out hx148_1
           replace hx148_2:=qq_h HB.out hx148_2
           replace hx148_3:=qq_h HB.out hx148_3
           replace p148:=eq_true p148
           replace q148:=eq_true q148
           have p149:0≤((ji15):Int):=of_decide_eq_true qq_6
           have q149:(ji15)<(l0.length:Int):=of_decide_eq_true qq_6
           obtain⟨ad149,e149,hx149_0,hx149_1,hx149_2,hx149_3⟩:=Qho HR0.out (ji15) p149 q149
           obtain rfl:ad148=ad149:=(by injection e149)
           replace hx149_0:=qq_h HB.out hx149_0
           replace hx149_1:=qq_h HB.out hx149_1
           replace hx149_2:=qq_h HB.out hx149_2
           replace hx149_3:=qq_h HB.out hx149_3
           replace p149:=eq_true p149
           replace q149:=eq_true q149
           go_wp2
           repeat(go_quiet (fail);try go_wp2)
           go_roundg k2
           case measure=>have:=HK1.out;have:=HK2.out;omega
           case rel=>exact⟨(wrap64 (x6_2+1)),qq_9,H',⟨by have:=HK1.out;have:=HK2.out;omega⟩,⟨qq_b⟩⟩
         ·rw[if_neg c17]at H
          exact absurd H (by simp)
        ·rw[if_neg c16]at H
         exact absurd H (by simp)
       ·rw[if_neg c14]at H
        exact absurd H (by simp)
      ·rw[if_neg c13]at H
       have c13b0:decide (x6_2<(l0.length:Int))=false:=decide_eq_false c13
       clear c13
       obtain rfl:=Option.some.inj H
       go_wp2
       repeat(go_quiet (fail);try go_wp2)
       go_ret
       exact⟨by first|rfl |(simp[Qhh,Qhi]<;>rfl) |(simp[*,Qhh,Qhi]<;>rfl),qq_b⟩
def Qbo.f(k:Nat)(a0_0:Int)(a0_1:Int)(a1_0:Int)(a1_1:Int):Option (Int):=(Qag.f a0_0 a1_0).bind fun t215=>((Qaf.f a0_1 a1_1).bind fun t216=>((Qah.f k (([t215,t216]:List Int))).bind fun t220=>(some t220)))
def Qbo.T1:Bool × List (List Nat × List Nat):=(true,[([],[]),([0],[0]),([],[]),([2],[2]),([1,3],[1,3]),([],[]),([5],[5]),([],[]),([7],[7]),([6,8,4],[6,8]),([4,9],[4,9]),([10,9],[10]),([11,11,0,1,2,3,4,5,6,7,8,9,10,11],[11])])
def Qbo.B1:List Nat:=[0,1,0,4,15,0,32,0,128,511,1023,2047,4095]
theorem Qbo.tab1:rtab .any (Qgr Tryz.f118 1)=Qbo.T1:=by kernel_rfl
theorem Qbo.bits1:Qgl Qbo.T1.2 Qbo.B1=true:=by kernel_rfl
theorem Qbo.calls(k:Nat)(a0_0:Int)(a0_1:Int)(a1_0:Int)(a1_1:Int)(r:Int)(w:World)(h:Qbo.f k a0_0 a0_1 a1_0 a1_1=some r) :
  Calls Tryz.prog 118 #[.agg #[.int .u64 a0_0,.int .u32 a0_1],.agg #[.int .u64 a1_0,.int .u32 a1_1]] w fun e w'=>e=.returned (.int .i64 r)∧Below w.heap.size w w':=by
 have hu117:=Tryz.underlying117
 have HB:=QA (Below.refl w.heap.size w)
 have H:((Qag.f a0_0 a1_0).bind fun t215=>((Qaf.f a0_1 a1_1).bind fun t216=>((Qah.f k (([t215,t216]:List Int))).bind fun t220=>(some t220))))=some r:=h
 clear h
 replace H:=Option.bind_eq_some_iff.mp H
 obtain⟨t215,A30,H⟩:=H
 replace H:((Qaf.f a0_1 a1_1).bind fun t216=>((Qah.f k (([t215,t216]:List Int))).bind fun t220=>(some t220)))=some r:=H
 have A3:=QA A30
 clear A30
 replace H:=Option.bind_eq_some_iff.mp H
 obtain⟨t216,A40,H⟩:=H
 replace H:((Qah.f k (([t215,t216]:List Int))).bind fun t220=>(some t220))=some r:=H
 have A4:=QA A40
 clear A40
 obtain⟨y217,hy217⟩:∃y_:List Int,y_=(([t215,t216]:List Int)):=⟨_,rfl⟩
 replace H:((Qah.f k y217).bind fun t220=>(some t220))=some r:=by first |(rw[hy217];with_reducible exact H) |(have H2_:=(Option.bind_some _ _).symm.trans H;rw[hy217];with_reducible exact H2_) |(have H2_:=(Option.bind_some _ _).symm.trans H;with_reducible exact H2_)|with_reducible exact H |(rw[hy217];exact H)|exact H
 have Ny217:=QA hy217
 clear hy217
 replace H:=Option.bind_eq_some_iff.mp H
 obtain⟨t220,A50,H⟩:=H
 replace H:(some t220)=some r:=H
 have A5:=QA A50
 clear A50
 obtain rfl:=Option.some.inj H
 go_enter Tryz.func118,Tryz.ntmps118
 try go_wp2_with (first |((with_reducible refine Qel (N:=2) rfl ?_);refine qq_e 2 #[.int .u64 a0_0,.int .u32 a0_1] 117 ?_;intro gb213 hg w6 hbox hb;have n0_:=QA (Qeb qq_b hb);have n1_:=QA (hbox);have n2_:=QA (qq_s hg:w.heap.size≤gb213);have n3_:=n2_;clear HB;have HB:=n0_;have BK213:=n1_;have GW213:=n2_;have GE213:=n3_;clear n0_ n1_ n2_ n3_;clear hb hbox hg) |((with_reducible refine Qel (N:=3) rfl ?_);refine qq_e 3 #[.int .u64 a1_0,.int .u32 a1_1] 117 ?_;intro gb214 hg w7 hbox hb;have n0_:=QA (Qdg (g:=gb213) (o:=.cells #[.int .u64 a0_0,.int .u32 a0_1] 117 (0,0)) qq_0 hb);have n1_:=QA (Qeb qq_b hb);have n2_:=QA (hbox);have n3_:=QA (qq_s hg:w.heap.size≤gb214);have n4_:=n3_;have n5_:=QA ((by rw[hg];exact Nat.ne_of_lt (Qcs (g:=gb213) (o:=.cells #[.int .u64 a0_0,.int .u32 a0_1] 117 (0,0)) qq_0):gb213≠gb214));have n6_:=QA ((by rw[hg];exact Nat.ne_of_gt (Qcs (g:=gb213) (o:=.cells #[.int .u64 a0_0,.int .u32 a0_1] 117 (0,0)) qq_0):gb214≠gb213));clear BK213 HB;have BK213:=n0_;have HB:=n1_;have BK214:=n2_;have GW214:=n3_;have GE214:=n4_;have NB213_214:=n5_;have NB214_213:=n6_;clear n0_ n1_ n2_ n3_ n4_ n5_ n6_;clear hb hbox hg))
 have n0_:=QA (Qde BK213.out)
 have n1_:=QA (Qde BK214.out)
 have n2_:=QA (Qeh HB.out)
 clear BK213 BK214 HB
 have BK213:=n0_
 have BK214:=n1_
 have HB:=n2_
 clear n0_ n1_ n2_
 refine Qey (n:=13) (S:=fun w'=>w'.cell? ⟨gb213,0,none⟩=some (.int .u64 a0_0)∧w'.cell? ⟨gb213,1,none⟩=some (.int .u32 a0_1)∧w'.cell? ⟨gb214,0,none⟩=some (.int .u64 a1_0)∧w'.cell? ⟨gb214,1,none⟩=some (.int .u32 a1_1)) (ds:=[]) #[false,false,false,false,false,false,false,false,false,false,false,false,false] qq_5 rfl rfl ⟨(Qct BK213.out 0).trans rfl,(Qct BK213.out 1).trans rfl,(Qct BK214.out 0).trans rfl,(Qct BK214.out 1).trans rfl⟩ (fun hHeld=>?_);refine Qgp Qbo.tab1 Qbo.bits1 (fun HT_ HW_=>?_)
 generalize w7.drew=w8 at BK213 BK214 HB hHeld ⊢
 refine Qfb (i:=0) (N:=some 5) (v:=?_) (a':=?_) #[true,false,false,false,false,false,false,false,false,false,false,false,false] rfl rfl (Qgi HT_.out qq_5) (fun _ _ _ h=>h) (Or.inl ⟨by rfl,?_⟩) ?_ ?_
 rotate_left
 ·intro w'
  go_simp
  with_reducible rfl
 rotate_left
 ·exact qq_4
 refine Qfb (i:=2) (N:=some 7) (v:=?_) (a':=?_) #[true,false,true,false,false,false,false,false,false,false,false,false,false] rfl rfl (Qgi HT_.out qq_5) (fun _ _ _ h=>h) (Or.inl ⟨by rfl,?_⟩) ?_ ?_
 rotate_left
 ·intro w'
  go_simp
  with_reducible rfl
 rotate_left
 ·exact qq_4
 refine Qfb (i:=5) (N:=some 10) (v:=?_) (a':=?_) #[true,false,true,false,false,true,false,false,false,false,false,false,false] rfl rfl (Qgi HT_.out qq_5) (fun _ _ _ h=>h) (Or.inl ⟨by rfl,?_⟩) ?_ ?_
 rotate_left
 ·intro w'
  go_simp
  with_reducible rfl
 rotate_left
 ·exact qq_4
 refine Qfb (i:=7) (N:=some 12) (v:=?_) (a':=?_) #[true,false,true,false,false,true,false,true,false,false,false,false,false] rfl rfl (Qgi HT_.out qq_5) (fun _ _ _ h=>h) (Or.inl ⟨by rfl,?_⟩) ?_ ?_
 rotate_left
 ·intro w'
  go_simp
  with_reducible rfl
 rotate_left
 ·exact qq_4
 refine Qfa (i:=1) (N:=some 6) (v:=?_) (a':=?_) #[true,true,true,false,false,true,false,true,false,false,false,false,false] rfl rfl (Qgo HT_.out HW_.out qq_5) (fun _ _ _ h=>h) (Or.inl ⟨by rfl,?_⟩) hHeld ?_ ?_
 rotate_left
 ·rintro w' ⟨s0,s1,s2,s3⟩
  go_simp
  with_reducible rfl
 rotate_left
 ·exact qq_4
 refine Qfa (i:=3) (N:=some 8) (v:=?_) (a':=?_) #[true,true,true,true,false,true,false,true,false,false,false,false,false] rfl rfl (Qgo HT_.out HW_.out qq_5) (fun _ _ _ h=>h) (Or.inl ⟨by rfl,?_⟩) hHeld ?_ ?_
 rotate_left
 ·rintro w' ⟨s0,s1,s2,s3⟩
  go_simp
  with_reducible rfl
 rotate_left
 ·exact qq_4
 refine Qfa (i:=6) (N:=some 11) (v:=?_) (a':=?_) #[true,true,true,true,false,true,true,true,false,false,false,false,false] rfl rfl (Qgo HT_.out HW_.out qq_5) (fun _ _ _ h=>h) (Or.inl ⟨by rfl,?_⟩) hHeld ?_ ?_
 rotate_left
 ·rintro w' ⟨s0,s1,s2,s3⟩
  go_simp
  with_reducible rfl
 rotate_left
 ·exact qq_4
 refine Qfa (i:=8) (N:=some 13) (v:=?_) (a':=?_) #[true,true,true,true,false,true,true,true,true,false,false,false,false] rfl rfl (Qgo HT_.out HW_.out qq_5) (fun _ _ _ h=>h) (Or.inl ⟨by rfl,?_⟩) hHeld ?_ ?_
 rotate_left
 ·rintro w' ⟨s0,s1,s2,s3⟩
  go_simp
  with_reducible rfl
 rotate_left
 ·exact qq_4
 refine one_ (i:=4) (N:=some 9) #[true,true,true,true,true,true,true,true,true,false,false,false,false] rfl rfl (Qgj HT_.out qq_5) (by decide) (fun K hK=>?_)
 refine Qfj Tryz.func166 qq_5 rfl #[.int .u64 a0_0,.int .u64 a1_0] (by rfl) rfl rfl qq_1 ?_
 with_reducible refine(Qag.calls a0_0 a1_0 t215 _ A3.out).mono ?_
 rintro e w' ⟨rfl,⟨nd,rfl⟩⟩
 refine⟨_,rfl,?_⟩
 refine hK.out _ _ ⟨(Qct BK213.out 0).trans rfl,(Qct BK213.out 1).trans rfl,(Qct BK214.out 0).trans rfl,(Qct BK214.out 1).trans rfl⟩ (fun hHeld=>?_)
 clear hK K
 refine Qfh (a':=?_) ?_ ?_
 rotate_left
 ·show Act.put _ (some 9) _=_
  simp only[Act.put,List.setIfInBounds_toArray,List.set_cons_zero,List.set_cons_succ,Qfm,Qfn]
  rfl
 refine one_ (i:=9) (N:=some 14) #[true,true,true,true,true,true,true,true,true,true,false,false,false] rfl rfl (Qgj HT_.out qq_5) (by decide) (fun K hK=>?_)
 refine Qfj Tryz.func167 qq_5 rfl #[.int .u32 a0_1,.int .u32 a1_1] (by rfl) rfl rfl qq_1 ?_
 with_reducible refine(Qaf.calls a0_1 a1_1 t216 _ A4.out).mono ?_
 rintro e w' ⟨rfl,⟨nd,rfl⟩⟩
 refine⟨_,rfl,?_⟩
 refine hK.out _ _ ⟨(Qct BK213.out 0).trans rfl,(Qct BK213.out 1).trans rfl,(Qct BK214.out 0).trans rfl,(Qct BK214.out 1).trans rfl⟩ (fun hHeld=>?_)
 clear hK K
 refine Qfh (a':=?_) ?_ ?_
 rotate_left
 ·show Act.put _ (some 14) _=_
  simp only[Act.put,List.setIfInBounds_toArray,List.set_cons_zero,List.set_cons_succ,Qfm,Qfn]
  rfl
 refine one_ (i:=10) (N:=some 15) #[true,true,true,true,true,true,true,true,true,true,true,false,false] rfl rfl (Qgj HT_.out qq_5) (by decide) (fun K hK=>?_)
 refine Kd.R_lit_step (Kd.int .i64) _ 3 ?hg (N:=15) ?hd (xs:=([t215,t216]:List Int)) (inner:=[.int .i64 t215,.int .i64 t216]) (ok:=fun _=>True) (okp:=fun _=>True) ?hr ?hp (fun _ hk=>hk) trivial (Below.refl _ _) (Nat.le_refl _) (by simp) ?_;(case hd=>rfl);(case hg=>rfl);(case hr=>exact(by first |(go_simp;done) |(go_simp;rfl)));(case hp=>exact(Reps.one (show Kd.M (Kd.int .i64) _ _ _ t215 [.int .i64 t215] from rfl) (Reps.one (show Kd.M (Kd.int .i64) _ _ _ t216 [.int .i64 t216] from rfl) (Reps.none _ _))))
 intro v218 w9 ho10 hb hg_ hnew_
 clear hg_ hnew_
 (first|rw[← Ny217.out]at ho10 |(simp only[Int.reduceToNat]at ho10;rw[← Ny217.out]at ho10))
 have n0_:=QA (Kd.R_lower ho10 (Qea qq_b))
 have n1_:=QA (Qdg (g:=gb213) (o:=.cells #[.int .u64 a0_0,.int .u32 a0_1] 117 (0,0)) qq_0 hb)
 have n2_:=QA (Qdg (g:=gb214) (o:=.cells #[.int .u64 a1_0,.int .u32 a1_1] 117 (0,0)) qq_0 hb)
 have n3_:=QA (Qeb qq_b hb)
 clear BK213 BK214 HB
 have HO219:=n0_
 have BK213:=n1_
 have BK214:=n2_
 have HB:=n3_
 clear n0_ n1_ n2_ n3_ hb ho10
 obtain⟨Ao11,co11,eo11⟩:=Kd.R_slice HO219.out
 (first|subst eo11 |(injection eo11 with f1_ f2_ f3_;have f4_:=f1_.symm;have f5_:=f3_.symm;clear f1_ f2_ f3_;subst f4_;subst f5_))
 refine hK.out _ _ ⟨(Qct BK213.out 0).trans rfl,(Qct BK213.out 1).trans rfl,(Qct BK214.out 0).trans rfl,(Qct BK214.out 1).trans rfl⟩ (fun hHeld=>?_)
 clear hK K
 refine Qfh (a':=?_) ?_ ?_
 rotate_left
 ·show Act.put _ (some 15) _=_
  simp only[Act.put,List.setIfInBounds_toArray,List.set_cons_zero,List.set_cons_succ,Qfm,Qfn]
  rfl
 refine one_ (i:=11) (N:=some 16) #[true,true,true,true,true,true,true,true,true,true,true,true,false] rfl rfl (Qgj HT_.out qq_5) (by decide) (fun K hK=>?_)
 refine Qfj Tryz.func165 qq_5 rfl #[.slice Ao11 y217.length co11] (by rfl) rfl rfl qq_1 ?_
 with_reducible refine(Qah.calls k _ _ y217 t220 _ ?side1 ?side2 A5.out).mono ?_
 (case side1=>repeat(first|exact(Kd.R_reads' HO219.out).2.2 |(with_reducible refine Kd.C_alloc ?_ _) |(with_reducible refine Kd.C_drewN ?_ _) |(with_reducible refine Kd.C_drew ?_)))
 (case side2=>exact(Kd.R_reads' HO219.out).2.1)
 rintro e w' ⟨rfl,⟨nd,rfl⟩⟩
 refine⟨_,rfl,?_⟩
 refine hK.out _ _ ⟨(Qct BK213.out 0).trans rfl,(Qct BK213.out 1).trans rfl,(Qct BK214.out 0).trans rfl,(Qct BK214.out 1).trans rfl⟩ (fun hHeld=>?_)
 clear hK K
 refine Qfh (a':=?_) ?_ ?_
 rotate_left
 ·show Act.put _ (some 16) _=_
  simp only[Act.put,List.setIfInBounds_toArray,List.set_cons_zero,List.set_cons_succ,Qfm,Qfn]
  rfl
 refine Qfb (i:=12) (N:=some 4) (v:=?_) (a':=?_) #[true,true,true,true,true,true,true,true,true,true,true,true,true] rfl rfl (Qgi HT_.out qq_5) (fun _ _ _ h=>h) (Or.inl ⟨by rfl,?_⟩) ?_ ?_
 rotate_left
 ·intro w'
  go_simp
  with_reducible rfl
 rotate_left
 ·exact qq_4
 refine Qfd (Qgk HT_.out qq_5) ?_
 try go_wp2
 go_ret
 exact⟨by first|rfl |(simp[Qhh,Qhi]<;>rfl) |(simp[*,Qhh,Qhi]<;>rfl),qq_b⟩
def Qbp.l0:Nat→List (S117)→Int→Option (Bool)
 | 0,_,_=>none
 | k+1,x0,x3=>if x3<(x0.length:Int)then(if 0≤(wrap64 (x3-1))then(if(wrap64 (x3-1))<(x0.length:Int)then(if 0≤x3 then((Qbo.f k ((Qht x0 (wrap64 (x3-1))).f0) ((Qht x0 (wrap64 (x3-1))).f1) ((Qht x0 x3).f0) ((Qht x0 x3).f1)).bind fun t225=>(if t225≥0 then(some false)else(Qbp.l0 k x0 (wrap64 (x3+1)))))else(none))else(none))else(none))else(some true)
def Qbp.f(k:Nat)(l0:List (S117)):Option (Bool):=Qbp.l0 k l0 1
def Qbp.T4:Bool × List (List Nat × List Nat):=(true,[([],[]),([],[]),([1],[1]),([0,2],[0,2]),([3],[3]),([],[]),([],[]),([5,6],[5,6]),([7],[7]),([4,8],[4,8]),([9],[9])])
def Qbp.B4:List Nat:=[0,0,2,7,15,0,0,96,224,511,1023]
theorem Qbp.tab4:rtab .any (Qgr Tryz.f160 4)=Qbp.T4:=by kernel_rfl
theorem Qbp.bits4:Qgl Qbp.T4.2 Qbp.B4=true:=by kernel_rfl
theorem Qbp.calls (k:Nat) (A0:Option Addr) (c0:Nat) (l0:List (S117)) (r:Bool) (w:World) (hr0:Kd.C k117 w A0 l0.length l0) (hc0:l0.length≤c0) (h:Qbp.f k l0=some r) :
  Calls Tryz.prog 160 #[.slice A0 l0.length c0] w fun e w'=>e=.returned (.bool r)∧Below w.heap.size w w':=by
 have hu117:=Tryz.underlying117
 have HR0:=QA hr0
 have HC0:=QA hc0
 clear hr0 hc0
 have HB:=QA (Below.refl w.heap.size w)
 have H:(Qbp.l0 k l0 1)=some r:=h
 clear h
 have H':=QA H
 clear H
 go_enter Tryz.func160,Tryz.ntmps160
 go_wp2
 go_loopg [3] k (fun kq v3 w'=>∃(x3_1:Int),v3=.int .i64 x3_1∧Aside0 (Qbp.l0 kq l0 x3_1=some r)∧Aside0 (kq≤k)∧Aside0 (Below w.heap.size w w'))
 case atStart=>exact⟨(1),qq_9,H',⟨Nat.le_refl _⟩,⟨qq_b⟩⟩
 case round =>
  clear H'
  obtain⟨x3_1,rfl,HA,HK1,HB⟩:=hrel
  cases gk with
  | zero=>exact absurd HA.out (by simp[Qbp.l0])
  | succ k1 =>
   have H:=HA.out
   clear HA
   simp only[Qbp.l0]at H
   by_cases c2:x3_1<(l0.length:Int)
   ·rw [if_pos c2]at H
    have c2b0:decide (x3_1<(l0.length:Int))=true:=decide_eq_true c2
    clear c2
    obtain⟨ji3,hji3⟩:∃j_:Int,(wrap64 (x3_1-1))=j_:=⟨_,rfl⟩
    replace H:(if 0≤(ji3)then(if(ji3)<(l0.length:Int)then(if 0≤x3_1 then((Qbo.f k1 ((Qht l0 (ji3)).f0) ((Qht l0 (ji3)).f1) ((Qht l0 x3_1).f0) ((Qht l0 x3_1).f1)).bind fun t225=>(if t225≥0 then(some false)else(Qbp.l0 k1 l0 (wrap64 (x3_1+1)))))else(none))else(none))else(none))=some r:=by first |(rw[hji3]at H;exact H) |(simp only[hji3]at H ⊢;exact H)
    have hji3w:(IntKind.i64.wrap (x3_1-1))=ji3:=(Qfm _).trans hji3
    by_cases c4:0≤(ji3)
    ·rw [if_pos c4]at H
     have c4b0:decide (0≤(ji3))=true:=decide_eq_true c4
     clear c4
     by_cases c5:(ji3)<(l0.length:Int)
     ·rw [if_pos c5]at H
      have c5b0:decide ((ji3)<(l0.length:Int))=true:=decide_eq_true c5
      clear c5
      by_cases c6:0≤x3_1
      ·rw[if_pos c6]at H
       have c6b0:decide (0≤x3_1)=true:=decide_eq_true c6
       clear c6
       replace H:=Option.bind_eq_some_iff.mp H
       obtain⟨t225,A70,H⟩:=H
       replace H:(if t225≥0 then(some false)else(Qbp.l0 k1 l0 (wrap64 (x3_1+1))))=some r:=H
       have A7:=QA A70
       clear A70
       by_cases c8:t225≥0
       ·rw[if_pos c8]at H
        have c8b0:decide (0≤t225)=true:=decide_eq_true c8
        clear c8
        obtain rfl:=Option.some.inj H
        try go_wp2
        have n0_:=QA (Qeh HB.out)
        clear HB
        have HB:=n0_
        clear n0_
        have p223:0≤((ji3):Int):=of_decide_eq_true qq_6
        have q223:(ji3)<(l0.length:Int):=of_decide_eq_true qq_6
        obtain⟨ad223,e223,hx223_0,hx223_1⟩:=Qhu HR0.out (ji3) p223 q223
        have hw223_1:=hx223_1
        have hw223_0:=hx223_0
        cases e223
        replace hx223_0:=qq_h HB.out hx223_0
        replace hx223_1:=qq_h HB.out hx223_1
        replace p223:=eq_true p223
        replace q223:=eq_true q223
        have p224:0≤(x3_1:Int):=of_decide_eq_true qq_6
        have q224:x3_1<(l0.length:Int):=of_decide_eq_true qq_6
        obtain⟨ad224,e224,hx224_0,hx224_1⟩:=Qhu HR0.out x3_1 p224 q224
        have hw224_1:=hx224_1
        have hw224_0:=hx224_0
        obtain rfl:ad223=ad224:=(by injection e224)
        replace hx224_0:=qq_h HB.out hx224_0
        replace hx224_1:=qq_h HB.out hx224_1
        replace p224:=eq_true p224
        replace q224:=eq_true q224
        refine Qey (n:=11) (S:=fun w'=>w'.cell? (ad223.add (((ji3)).toNat*2))=some (.int .u64 ((Qht l0 (ji3)).f0))∧w'.cell? ⟨(ad223.add (((ji3)).toNat*2)).block,(ad223.add (((ji3)).toNat*2)).off+1,none⟩=some (.int .u32 ((Qht l0 (ji3)).f1))∧w'.cell? (ad223.add ((x3_1).toNat*2))=some (.int .u64 ((Qht l0 x3_1).f0))∧w'.cell? ⟨(ad223.add ((x3_1).toNat*2)).block,(ad223.add ((x3_1).toNat*2)).off+1,none⟩=some (.int .u32 ((Qht l0 x3_1).f1))) (ds:=[]) #[false,false,false,false,false,false,false,false,false,false,false] qq_5 rfl rfl ⟨((HB.out.cell (World.block_lt_of_cell? w _ hw223_0)).trans hw223_0),((HB.out.cell (World.block_lt_of_cell? w _ hw223_1)).trans hw223_1),((HB.out.cell (World.block_lt_of_cell? w _ hw224_0)).trans hw224_0),((HB.out.cell (World.block_lt_of_cell? w _ hw224_1)).trans hw224_1)⟩ (fun hHeld=>?_);refine Qgp Qbp.tab4 Qbp.bits4 (fun HT_ HW_=>?_)
        generalize wr.drew=w9 at HB hx223_0 hx223_1 hx224_0 hx224_1 hHeld ⊢
        refine Qfb (i:=0) (N:=some 10) (v:=?_) (a':=?_) #[true,false,false,false,false,false,false,false,false,false,false] rfl rfl (Qgi HT_.out qq_5) (fun _ _ _ h=>h) (Or.inl ⟨by rfl,?_⟩) ?_ ?_
        rotate_left
        ·intro w'
         go_simp
         with_reducible rfl
        rotate_left
        ·exact qq_4
        refine Qfb (i:=1) (N:=some 11) (v:=?_) (a':=?_) #[true,true,false,false,false,false,false,false,false,false,false] rfl rfl (Qgi HT_.out qq_5) (fun _ _ _ h=>h) (Or.inl ⟨by rfl,?_⟩) ?_ ?_
        rotate_left
        ·intro w'
         go_simp
         with_reducible rfl
        rotate_left
        ·exact qq_4
        refine Qfb (i:=2) (N:=some 12) (v:=?_) (a':=?_) #[true,true,true,false,false,false,false,false,false,false,false] rfl rfl (Qgi HT_.out qq_5) (fun _ _ _ h=>h) (Or.inl ⟨by rfl,?_⟩) ?_ ?_
        rotate_left
        ·intro w'
         go_simp
         with_reducible rfl
        rotate_left
        ·exact qq_4
        refine Qfb (i:=3) (N:=some 13) (v:=?_) (a':=?_) #[true,true,true,true,false,false,false,false,false,false,false] rfl rfl (Qgi HT_.out qq_5) (fun _ _ _ h=>h) (Or.inl ⟨by rfl,?_⟩) ?_ ?_
        rotate_left
        ·intro w'
         go_simp
         with_reducible rfl
        rotate_left
        ·exact qq_4
        refine Qfb (i:=5) (N:=some 15) (v:=?_) (a':=?_) #[true,true,true,true,false,true,false,false,false,false,false] rfl rfl (Qgi HT_.out qq_5) (fun _ _ _ h=>h) (Or.inl ⟨by rfl,?_⟩) ?_ ?_
        rotate_left
        ·intro w'
         go_simp
         with_reducible rfl
        rotate_left
        ·exact qq_4
        refine Qfb (i:=6) (N:=some 16) (v:=?_) (a':=?_) #[true,true,true,true,false,true,true,false,false,false,false] rfl rfl (Qgi HT_.out qq_5) (fun _ _ _ h=>h) (Or.inl ⟨by rfl,?_⟩) ?_ ?_
        rotate_left
        ·intro w'
         go_simp
         with_reducible rfl
        rotate_left
        ·exact qq_4
        refine Qfb (i:=7) (N:=some 17) (v:=?_) (a':=?_) #[true,true,true,true,false,true,true,true,false,false,false] rfl rfl (Qgi HT_.out qq_5) (fun _ _ _ h=>h) (Or.inl ⟨by rfl,?_⟩) ?_ ?_
        rotate_left
        ·intro w'
         go_simp
         with_reducible rfl
        rotate_left
        ·exact qq_4
        refine Qfa (i:=4) (N:=some 14) (v:=?_) (a':=?_) #[true,true,true,true,true,true,true,true,false,false,false] rfl rfl (Qgo HT_.out HW_.out qq_5) (fun _ _ _ h=>h) (Or.inl ⟨by rfl,?_⟩) hHeld ?_ ?_
        rotate_left
        ·rintro w' ⟨s0,s1,s2,s3⟩
         go_simp
         with_reducible rfl
        rotate_left
        ·exact qq_4
        refine Qfa (i:=8) (N:=some 18) (v:=?_) (a':=?_) #[true,true,true,true,true,true,true,true,true,false,false] rfl rfl (Qgo HT_.out HW_.out qq_5) (fun _ _ _ h=>h) (Or.inl ⟨by rfl,?_⟩) hHeld ?_ ?_
        rotate_left
        ·rintro w' ⟨s0,s1,s2,s3⟩
         go_simp
         with_reducible rfl
        rotate_left
        ·exact qq_4
        refine one_ (i:=9) (N:=some 19) #[true,true,true,true,true,true,true,true,true,true,false] rfl rfl (Qgj HT_.out qq_5) (by decide) (fun K hK=>?_)
        refine Qfj Tryz.func118 qq_5 rfl #[.agg #[.int .u64 ((Qht l0 (ji3)).f0),.int .u32 ((Qht l0 (ji3)).f1)],.agg #[.int .u64 ((Qht l0 x3_1).f0),.int .u32 ((Qht l0 x3_1).f1)]] (by rfl) rfl rfl (by(try simp only[List.map_toArray,List.map_cons,List.map_nil]);first|done |(simp only[hji3];rfl)|rfl |(simp only[List.length_drop,List.length_take];rfl)) ?_
        with_reducible refine(Qbo.calls k1 ((Qht l0 (ji3)).f0) ((Qht l0 (ji3)).f1) ((Qht l0 x3_1).f0) ((Qht l0 x3_1).f1) t225 _ A7.out).mono ?_
        rintro e w10 ⟨rfl,hb⟩
        refine⟨_,rfl,?_⟩
        have n0_:=QA (Qeb qq_b hb)
        clear HB
        have HB:=n0_
        clear n0_
        (try clear hb)
        (try clear hb2)
        (try clear hk)
        (try clear hi)
        refine hK.out _ _ ⟨((HB.out.cell (World.block_lt_of_cell? w _ hw223_0)).trans hw223_0),((HB.out.cell (World.block_lt_of_cell? w _ hw223_1)).trans hw223_1),((HB.out.cell (World.block_lt_of_cell? w _ hw224_0)).trans hw224_0),((HB.out.cell (World.block_lt_of_cell? w _ hw224_1)).trans hw224_1)⟩ (fun hHeld=>?_)
        clear hK K
        refine Qfh (a':=?_) ?_ ?_
        rotate_left
        ·show Act.put _ (some 19) _=_
         simp only[Act.put,List.setIfInBounds_toArray,List.set_cons_zero,List.set_cons_succ,Qfm,Qfn]
         rfl
        refine Qfb (i:=10) (N:=some 20) (v:=?_) (a':=?_) #[true,true,true,true,true,true,true,true,true,true,true] rfl rfl (Qgi HT_.out qq_5) (fun _ _ _ h=>h) (Or.inl ⟨by rfl,?_⟩) ?_ ?_
        rotate_left
        ·intro w'
         go_simp
         with_reducible rfl
        rotate_left
        ·exact qq_4
        refine Qfd (Qgk HT_.out qq_5) ?_
        try go_wp2
        go_ret
        exact⟨by first|rfl |(simp[Qhh,Qhi]<;>rfl) |(simp only[← hji3];first|rfl |(simp[Qhh,Qhi]<;>rfl)) |(simp[*,Qhh,Qhi]<;>rfl),qq_b⟩
       ·rw[if_neg c8]at H
        have c8b0:decide (0≤t225)=false:=decide_eq_false c8
        clear c8
        have H':=QA H
        clear H
        try go_wp2
        have n0_:=QA (Qeh HB.out)
        clear HB
        have HB:=n0_
        clear n0_
        have p223:0≤((ji3):Int):=of_decide_eq_true qq_6
        have q223:(ji3)<(l0.length:Int):=of_decide_eq_true qq_6
        obtain⟨ad223,e223,hx223_0,hx223_1⟩:=Qhu HR0.out (ji3) p223 q223
        have hw223_1:=hx223_1
        have hw223_0:=hx223_0
        cases e223
        replace hx223_0:=qq_h HB.out hx223_0
        replace hx223_1:=qq_h HB.out hx223_1
        replace p223:=eq_true p223
        replace q223:=eq_true q223
        have p224:0≤(x3_1:Int):=of_decide_eq_true qq_6
        have q224:x3_1<(l0.length:Int):=of_decide_eq_true qq_6
        obtain⟨ad224,e224,hx224_0,hx224_1⟩:=Qhu HR0.out x3_1 p224 q224
        have hw224_1:=hx224_1
        have hw224_0:=hx224_0
        obtain rfl:ad223=ad224:=(by injection e224)
        replace hx224_0:=qq_h HB.out hx224_0
        replace hx224_1:=qq_h HB.out hx224_1
        replace p224:=eq_true p224
        replace q224:=eq_true q224
        refine Qey (n:=11) (S:=fun w'=>w'.cell? (ad223.add (((ji3)).toNat*2))=some (.int .u64 ((Qht l0 (ji3)).f0))∧w'.cell? ⟨(ad223.add (((ji3)).toNat*2)).block,(ad223.add (((ji3)).toNat*2)).off+1,none⟩=some (.int .u32 ((Qht l0 (ji3)).f1))∧w'.cell? (ad223.add ((x3_1).toNat*2))=some (.int .u64 ((Qht l0 x3_1).f0))∧w'.cell? ⟨(ad223.add ((x3_1).toNat*2)).block,(ad223.add ((x3_1).toNat*2)).off+1,none⟩=some (.int .u32 ((Qht l0 x3_1).f1))) (ds:=[]) #[false,false,false,false,false,false,false,false,false,false,false] qq_5 rfl rfl ⟨((HB.out.cell (World.block_lt_of_cell? w _ hw223_0)).trans hw223_0),((HB.out.cell (World.block_lt_of_cell? w _ hw223_1)).trans hw223_1),((HB.out.cell (World.block_lt_of_cell? w _ hw224_0)).trans hw224_0),((HB.out.cell (World.block_lt_of_cell? w _ hw224_1)).trans hw224_1)⟩ (fun hHeld=>?_);refine Qgp Qbp.tab4 Qbp.bits4 (fun HT_ HW_=>?_)
        generalize wr.drew=w11 at HB hx223_0 hx223_1 hx224_0 hx224_1 hHeld ⊢
        refine Qfb (i:=0) (N:=some 10) (v:=?_) (a':=?_) #[true,false,false,false,false,false,false,false,false,false,false] rfl rfl (Qgi HT_.out qq_5) (fun _ _ _ h=>h) (Or.inl ⟨by rfl,?_⟩) ?_ ?_
        rotate_left
        ·intro w'
         go_simp
         with_reducible rfl
        rotate_left
        ·exact qq_4
        refine Qfb (i:=1) (N:=some 11) (v:=?_) (a':=?_) #[true,true,false,false,false,false,false,false,false,false,false] rfl rfl (Qgi HT_.out qq_5) (fun _ _ _ h=>h) (Or.inl ⟨by rfl,?_⟩) ?_ ?_
        rotate_left
        ·intro w'
         go_simp
         with_reducible rfl
        rotate_left
        ·exact qq_4
        refine Qfb (i:=2) (N:=some 12) (v:=?_) (a':=?_) #[true,true,true,false,false,false,false,false,false,false,false] rfl rfl (Qgi HT_.out qq_5) (fun _ _ _ h=>h) (Or.inl ⟨by rfl,?_⟩) ?_ ?_
        rotate_left
        ·intro w'
         go_simp
         with_reducible rfl
        rotate_left
        ·exact qq_4
        refine Qfb (i:=3) (N:=some 13) (v:=?_) (a':=?_) #[true,true,true,true,false,false,false,false,false,false,false] rfl rfl (Qgi HT_.out qq_5) (fun _ _ _ h=>h) (Or.inl ⟨by rfl,?_⟩) ?_ ?_
        rotate_left
        ·intro w'
         go_simp
         with_reducible rfl
        rotate_left
        ·exact qq_4
        refine Qfb (i:=5) (N:=some 15) (v:=?_) (a':=?_) #[true,true,true,true,false,true,false,false,false,false,false] rfl rfl (Qgi HT_.out qq_5) (fun _ _ _ h=>h) (Or.inl ⟨by rfl,?_⟩) ?_ ?_
        rotate_left
        ·intro w'
         go_simp
         with_reducible rfl
        rotate_left
        ·exact qq_4
        refine Qfb (i:=6) (N:=some 16) (v:=?_) (a':=?_) #[true,true,true,true,false,true,true,false,false,false,false] rfl rfl (Qgi HT_.out qq_5) (fun _ _ _ h=>h) (Or.inl ⟨by rfl,?_⟩) ?_ ?_
        rotate_left
        ·intro w'
         go_simp
         with_reducible rfl
        rotate_left
        ·exact qq_4
        refine Qfb (i:=7) (N:=some 17) (v:=?_) (a':=?_) #[true,true,true,true,false,true,true,true,false,false,false] rfl rfl (Qgi HT_.out qq_5) (fun _ _ _ h=>h) (Or.inl ⟨by rfl,?_⟩) ?_ ?_
        rotate_left
        ·intro w'
         go_simp
         with_reducible rfl
        rotate_left
        ·exact qq_4
        refine Qfa (i:=4) (N:=some 14) (v:=?_) (a':=?_) #[true,true,true,true,true,true,true,true,false,false,false] rfl rfl (Qgo HT_.out HW_.out qq_5) (fun _ _ _ h=>h) (Or.inl ⟨by rfl,?_⟩) hHeld ?_ ?_
        rotate_left
        ·rintro w' ⟨s0,s1,s2,s3⟩
         go_simp
         with_reducible rfl
        rotate_left
        ·exact qq_4
        refine Qfa (i:=8) (N:=some 18) (v:=?_) (a':=?_) #[true,true,true,true,true,true,true,true,true,false,false] rfl rfl (Qgo HT_.out HW_.out qq_5) (fun _ _ _ h=>h) (Or.inl ⟨by rfl,?_⟩) hHeld ?_ ?_
        rotate_left
        ·rintro w' ⟨s0,s1,s2,s3⟩
         go_simp
         with_reducible rfl
        rotate_left
        ·exact qq_4
        refine one_ (i:=9) (N:=some 19) #[true,true,true,true,true,true,true,true,true,true,false] rfl rfl (Qgj HT_.out qq_5) (by decide) (fun K hK=>?_)
        refine Qfj Tryz.func118 qq_5 rfl #[.agg #[.int .u64 ((Qht l0 (ji3)).f0),.int .u32 ((Qht l0 (ji3)).f1)],.agg #[.int .u64 ((Qht l0 x3_1).f0),.int .u32 ((Qht l0 x3_1).f1)]] (by rfl) rfl rfl (by(try simp only[List.map_toArray,List.map_cons,List.map_nil]);first|done |(simp only[hji3];rfl)|rfl |(simp only[List.length_drop,List.length_take];rfl)) ?_
        with_reducible refine(Qbo.calls k1 ((Qht l0 (ji3)).f0) ((Qht l0 (ji3)).f1) ((Qht l0 x3_1).f0) ((Qht l0 x3_1).f1) t225 _ A7.out).mono ?_
        rintro e w12 ⟨rfl,hb⟩
        refine⟨_,rfl,?_⟩
        have n0_:=QA (Qeb qq_b hb)
        clear HB
        have HB:=n0_
        clear n0_
        (try clear hb)
        (try clear hb2)
        (try clear hk)
        (try clear hi)
        refine hK.out _ _ ⟨((HB.out.cell (World.block_lt_of_cell? w _ hw223_0)).trans hw223_0),((HB.out.cell (World.block_lt_of_cell? w _ hw223_1)).trans hw223_1),((HB.out.cell (World.block_lt_of_cell? w _ hw224_0)).trans hw224_0),((HB.out.cell (World.block_lt_of_cell? w _ hw224_1)).trans hw224_1)⟩ (fun hHeld=>?_)
        clear hK K
        refine Qfh (a':=?_) ?_ ?_
        rotate_left
        ·show Act.put _ (some 19) _=_
         simp only[Act.put,List.setIfInBounds_toArray,List.set_cons_zero,List.set_cons_succ,Qfm,Qfn]
         rfl
        refine Qfb (i:=10) (N:=some 20) (v:=?_) (a':=?_) #[true,true,true,true,true,true,true,true,true,true,true] rfl rfl (Qgi HT_.out qq_5) (fun _ _ _ h=>h) (Or.inl ⟨by rfl,?_⟩) ?_ ?_
        rotate_left
        ·intro w'
         go_simp
         with_reducible rfl
        rotate_left
        ·exact qq_4
        refine Qfd (Qgk HT_.out qq_5) ?_
        try go_wp2
        go_roundg k1
        case measure=>have:=HK1.out;omega
        case rel=>exact⟨(wrap64 (x3_1+1)),qq_9,H',⟨by have:=HK1.out;omega⟩,⟨qq_b⟩⟩
      ·rw[if_neg c6]at H
       exact absurd H (by simp)
     ·rw[if_neg c5]at H
      exact absurd H (by simp)
    ·rw[if_neg c4]at H
     exact absurd H (by simp)
   ·rw[if_neg c2]at H
    have c2b0:decide (x3_1<(l0.length:Int))=false:=decide_eq_false c2
    clear c2
    obtain rfl:=Option.some.inj H
    go_wp2
    go_ret
    exact⟨by first|rfl |(simp[Qhh,Qhi]<;>rfl) |(simp[*,Qhh,Qhi]<;>rfl),qq_b⟩
theorem eqA117(d:Nat)(w:World)(x0 y0:Int)(x1 y1:Int) :
  (Op.equalIn (d+2) 117 (.agg #[.int .u64 x0,.int .u32 x1]) (.agg #[.int .u64 y0,.int .u32 y1])).run Tryz.prog w=.ok (x0 == y0 && (x1 == y1)) w:=by
 refine eqA_of Tryz.underlying117 qq_5 ?_
 refine Qgt (by rfl) (by go_simp;rfl) (by go_simp;rfl) (by go_simp) ?_
 exact Qgs (by rfl) (by go_simp;rfl) (by go_simp;rfl) (by go_simp)
end Go.Proofs.YtnnofopfbeklbaaGreat.C
end
