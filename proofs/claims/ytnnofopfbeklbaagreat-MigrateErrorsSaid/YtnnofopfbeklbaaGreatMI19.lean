/- Texts of this claim's author and of the print of its functions, merged by merge.py. -/
import Derived.Test.YtnnofopfbeklbaaGreatMI02
import Derived.Test.YtnnofopfbeklbaaGreatMI18
import Derived.Test.YtnnofopfbeklbaaGreatMI17
set_option linter.unusedVariables false
set_option linter.unusedSimpArgs false
set_option maxHeartbeats 8000000
set_option maxRecDepth 100000
section
namespace Go.Proofs.YtnnofopfbeklbaaGreat.C
open Go.RowKit Go.Proofs.YtnnofopfbeklbaaGreatW.PrintWords Go.Proofs.YtnnofopfbeklbaaGreatW.PrintLast Go.Proofs.YtnnofopfbeklbaaGreatW.PrintMore
attribute [local go_sem] Qgv Qgw Qgx Qgy Qgz Qha Qhb Qhc
def Qar.j0:Nat→List Int→Bool→Int→Int→Option (Bool)
 | 0,_,_,_,_=>none
 | k+1,x1,x18,x758000,x758001=>if x18=true then((Qas.f k).bind fun t759=>(some t759))else((Qbe.f k x758000 x758001 x1).bind fun bt760=>((Qbc.f k x758000 x758001 x1).bind fun bt765=>(if x758000<12 then(if bt760.2.2=1 then(if bt765.2.2.2=1 then(some ((wrap64 ((wrap64 ((wrap64 ((wrap64 ((bt760.1.length:Int)+(bt765.1.length:Int)))+bt760.2.1))+bt765.2.1))+bt765.2.2.1)) == 0))else(some false))else(some false))else(if x758000 > 24 then(if bt760.2.2=1 then(if bt765.2.2.2=1 then(some ((wrap64 ((wrap64 ((wrap64 ((wrap64 ((bt760.1.length:Int)+(bt765.1.length:Int)))+bt760.2.1))+bt765.2.1))+bt765.2.2.1)) == 0))else(some false))else(some false))else(if x758001<1 then(if bt760.2.2=1 then(if bt765.2.2.2=1 then(some ((wrap64 ((wrap64 ((wrap64 ((wrap64 ((bt760.1.length:Int)+(bt765.1.length:Int)))+bt760.2.1))+bt765.2.1))+bt765.2.2.1)) == 0))else(some false))else(some false))else(if x758001 > 65536 then(if bt760.2.2=1 then(if bt765.2.2.2=1 then(some ((wrap64 ((wrap64 ((wrap64 ((wrap64 ((bt760.1.length:Int)+(bt765.1.length:Int)))+bt760.2.1))+bt765.2.1))+bt765.2.2.1)) == 0))else(some false))else(some false))else(if bt760.2.2=1 then(some false)else(if bt765.2.2.2=0 then(if bt760.2.2=0 then(some ((strOfNums bt760.1).toList == (strOfNums bt765.1).toList))else(some true))else(some false)))))))))
def Qar.f(k:Nat)(a0_0:Int)(a0_1:Int)(l1:List Int):Option (Bool):=(Qas.f k).bind fun t758=>(if t758=true then(Qar.j0 k l1 (decide ((l1.length:Int) > 600)) a0_0 a0_1)else(Qar.j0 k l1 true a0_0 a0_1))
theorem Qar.calls (k:Nat) (a0_0:Int) (a0_1:Int) (A1:Option Addr) (c1:Nat) (l1:List Int) (r:Bool) (w:World) (hr1:Kd.C (Kd.int .u8) w A1 l1.length l1) (hc1:l1.length≤c1) (h:Qar.f k a0_0 a0_1 l1=some r) :
  Calls Tryz.prog 11 #[.agg #[.int .u8 a0_0,.int .u32 a0_1],.slice A1 l1.length c1] w fun e w'=>e=.returned (.bool r)∧Below w.heap.size w w':=by
 have hu27:=Tryz.underlying27
 have HR1:=QA hr1
 have HC1:=QA hc1
 clear hr1 hc1
 have HB:=QA (Below.refl w.heap.size w)
 have H:((Qas.f k).bind fun t758=>(if t758=true then(Qar.j0 k l1 (decide ((l1.length:Int) > 600)) a0_0 a0_1)else(Qar.j0 k l1 true a0_0 a0_1)))=some r:=h
 clear h
 have HC3:=QA H
 clear H
 go_enter Tryz.func11,Tryz.ntmps11
 go_upto_region 1 with(first |((with_reducible refine Qel (N:=2) rfl ?_);(try(refine Qgu (by rfl) ?_;dsimp only));refine qq_e 2 #[.int .u8 a0_0,.int .u32 a0_1] 27 ?_;intro gb757 hg w4 hbox hb;have n0_:=QA (Qeb qq_b hb);have n1_:=QA (hbox);have n2_:=QA (qq_s hg:w.heap.size≤gb757);have n3_:=n2_;clear HB;have HB:=n0_;have BK757:=n1_;have GW757:=n2_;have GE757:=n3_;clear n0_ n1_ n2_ n3_;clear hb hbox hg))
 (try simp only[Act.put,List.setIfInBounds_toArray,List.set_cons_zero,List.set_cons_succ])
 go_cut [18] (fun v18 wc=>∃(kq:Nat) (x18_2:Bool),v18=.bool x18_2∧Aside0 (Qar.j0 kq l1 x18_2 a0_0 a0_1=some r)∧Aside0 (kq≤k)∧Aside0 (wc.heap[gb757]? = some (.cells #[.int .u8 a0_0,.int .u32 a0_1] 27 (0,0)))∧Aside0 (Below w.heap.size w wc))
 case first =>
  have H:=HC3.out
  clear HC3
  replace H:=Option.bind_eq_some_iff.mp H
  obtain⟨t758,A50,H⟩:=H
  replace H:(if t758=true then(Qar.j0 k l1 (decide ((l1.length:Int) > 600)) a0_0 a0_1)else(Qar.j0 k l1 true a0_0 a0_1))=some r:=H
  have A5:=QA A50
  clear A50
  by_cases c6:t758=true
  ·subst c6
   have H1:(Qar.j0 k l1 (decide ((l1.length:Int) > 600)) a0_0 a0_1)=some r:=by rw[if_pos rfl]at H;exact H
   clear H
   have H:=H1
   clear H1
   have H':=QA H
   clear H
   go_wp2_with (first |((with_reducible refine Qhd (f:=42) rfl ?_);refine Qfk (some 12) rfl rfl Tryz.func42 qq_5 rfl #[] rfl qq_1 ?_;(with_reducible refine(Qas.calls k  true _ A5.out).mono ?_);rintro e w7 ⟨rfl,hb⟩;refine⟨_,rfl,?_⟩;have n0_:=QA (Qdg (g:=gb757) (o:=.cells #[.int .u8 a0_0,.int .u32 a0_1] 27 (0,0)) qq_0 hb);have n1_:=QA (Qeb qq_b hb);clear BK757 HB;have BK757:=n0_;have HB:=n1_;clear n0_ n1_;(try clear hb);(try clear hb2);(try clear hk);(try clear hi)))
   go_meet
   case rel=>exact⟨_,(decide ((l1.length:Int) > 600)),qq_9,H',⟨by first|omega|exact Nat.le_refl _⟩,⟨by(with_reducible repeat(first|apply Qdf|apply Qde|apply Qdd));exact BK757.out⟩,⟨qq_b⟩⟩
  ·replace c6:=Bool.eq_false_iff.mpr c6
   subst c6
   have H1:(Qar.j0 k l1 true a0_0 a0_1)=some r:=by rw[if_neg (show ¬(false=true)by decide)]at H;exact H
   clear H
   have H:=H1
   clear H1
   have H':=QA H
   clear H
   go_wp2_with (first |((with_reducible refine Qhd (f:=42) rfl ?_);refine Qfk (some 12) rfl rfl Tryz.func42 qq_5 rfl #[] rfl qq_1 ?_;(with_reducible refine(Qas.calls k  false _ A5.out).mono ?_);rintro e w8 ⟨rfl,hb⟩;refine⟨_,rfl,?_⟩;have n0_:=QA (Qdg (g:=gb757) (o:=.cells #[.int .u8 a0_0,.int .u32 a0_1] 27 (0,0)) qq_0 hb);have n1_:=QA (Qeb qq_b hb);clear BK757 HB;have BK757:=n0_;have HB:=n1_;clear n0_ n1_;(try clear hb);(try clear hb2);(try clear hk);(try clear hi)))
   go_meet
   case rel=>exact⟨_,(true),qq_9,H',⟨by first|omega|exact Nat.le_refl _⟩,⟨by(with_reducible repeat(first|apply Qdf|apply Qde|apply Qdd));exact BK757.out⟩,⟨qq_b⟩⟩
 case rest =>
  clear HC3
  try clear c1
  try clear c6
  obtain⟨kq,x18_2,rfl,HA,HJ2,BK757,HB⟩:=hcut
  cases kq with
  | zero=>exact absurd HA.out (by simp[Qar.j0])
  | succ kj2 =>
   have H:=HA.out
   clear HA
   simp only[Qar.j0]at H
   by_cases c9:x18_2=true
   ·subst c9
    have H1:((Qas.f kj2).bind fun t759=>(some t759))=some r:=by rw[if_pos rfl]at H;exact H
    clear H
    have H:=H1
    clear H1
    replace H:=Option.bind_eq_some_iff.mp H
    obtain⟨t759,A100,H⟩:=H
    replace H:(some t759)=some r:=H
    have A10:=QA A100
    clear A100
    obtain rfl:=Option.some.inj H
    go_wp2_with (first |((with_reducible refine Qhd (f:=42) rfl ?_);refine Qfk (some 19) rfl rfl Tryz.func42 qq_5 rfl #[] rfl qq_1 ?_;(with_reducible refine(Qas.calls kj2  t759 _ A10.out).mono ?_);rintro e w11 ⟨rfl,hb⟩;refine⟨_,rfl,?_⟩;have n0_:=QA (Qdg (g:=gb757) (o:=.cells #[.int .u8 a0_0,.int .u32 a0_1] 27 (0,0)) qq_0 hb);have n1_:=QA (Qeb qq_b hb);clear BK757 HB;have BK757:=n0_;have HB:=n1_;clear n0_ n1_;(try clear hb);(try clear hb2);(try clear hk);(try clear hi)))
    go_ret
    exact⟨by first|rfl |(simp[Qhh,Qhi]<;>rfl) |(simp[*,Qhh,Qhi]<;>rfl),qq_b⟩
   ·replace c9:=Bool.eq_false_iff.mpr c9
    subst c9
    have H1:((Qbe.f kj2 a0_0 a0_1 l1).bind fun bt760=>((Qbc.f kj2 a0_0 a0_1 l1).bind fun bt765=>(if a0_0<12 then(if bt760.2.2=1 then(if bt765.2.2.2=1 then(some ((wrap64 ((wrap64 ((wrap64 ((wrap64 ((bt760.1.length:Int)+(bt765.1.length:Int)))+bt760.2.1))+bt765.2.1))+bt765.2.2.1)) == 0))else(some false))else(some false))else(if a0_0 > 24 then(if bt760.2.2=1 then(if bt765.2.2.2=1 then(some ((wrap64 ((wrap64 ((wrap64 ((wrap64 ((bt760.1.length:Int)+(bt765.1.length:Int)))+bt760.2.1))+bt765.2.1))+bt765.2.2.1)) == 0))else(some false))else(some false))else(if a0_1<1 then(if bt760.2.2=1 then(if bt765.2.2.2=1 then(some ((wrap64 ((wrap64 ((wrap64 ((wrap64 ((bt760.1.length:Int)+(bt765.1.length:Int)))+bt760.2.1))+bt765.2.1))+bt765.2.2.1)) == 0))else(some false))else(some false))else(if a0_1 > 65536 then(if bt760.2.2=1 then(if bt765.2.2.2=1 then(some ((wrap64 ((wrap64 ((wrap64 ((wrap64 ((bt760.1.length:Int)+(bt765.1.length:Int)))+bt760.2.1))+bt765.2.1))+bt765.2.2.1)) == 0))else(some false))else(some false))else(if bt760.2.2=1 then(some false)else(if bt765.2.2.2=0 then(if bt760.2.2=0 then(some ((strOfNums bt760.1).toList == (strOfNums bt765.1).toList))else(some true))else(some false)))))))))=some r:=by rw[if_neg (show ¬(false=true)by decide)]at H;exact H
    clear H
    have H:=H1
    clear H1
    replace H:=Option.bind_eq_some_iff.mp H
    obtain⟨⟨t760,t763,t764⟩,A120,H⟩:=H
    replace H:((Qbc.f kj2 a0_0 a0_1 l1).bind fun bt765=>(if a0_0<12 then(if t764=1 then(if bt765.2.2.2=1 then(some ((wrap64 ((wrap64 ((wrap64 ((wrap64 ((t760.length:Int)+(bt765.1.length:Int)))+t763))+bt765.2.1))+bt765.2.2.1)) == 0))else(some false))else(some false))else(if a0_0 > 24 then(if t764=1 then(if bt765.2.2.2=1 then(some ((wrap64 ((wrap64 ((wrap64 ((wrap64 ((t760.length:Int)+(bt765.1.length:Int)))+t763))+bt765.2.1))+bt765.2.2.1)) == 0))else(some false))else(some false))else(if a0_1<1 then(if t764=1 then(if bt765.2.2.2=1 then(some ((wrap64 ((wrap64 ((wrap64 ((wrap64 ((t760.length:Int)+(bt765.1.length:Int)))+t763))+bt765.2.1))+bt765.2.2.1)) == 0))else(some false))else(some false))else(if a0_1 > 65536 then(if t764=1 then(if bt765.2.2.2=1 then(some ((wrap64 ((wrap64 ((wrap64 ((wrap64 ((t760.length:Int)+(bt765.1.length:Int)))+t763))+bt765.2.1))+bt765.2.2.1)) == 0))else(some false))else(some false))else(if t764=1 then(some false)else(if bt765.2.2.2=0 then(if t764=0 then(some ((strOfNums t760).toList == (strOfNums bt765.1).toList))else(some true))else(some false))))))))=some r:=H
    have A12:=QA A120
    clear A120
    replace H:=Option.bind_eq_some_iff.mp H
    obtain⟨⟨t765,t768,t769,t770⟩,A130,H⟩:=H
    replace H:(if a0_0<12 then(if t764=1 then(if t770=1 then(some ((wrap64 ((wrap64 ((wrap64 ((wrap64 ((t760.length:Int)+(t765.length:Int)))+t763))+t768))+t769)) == 0))else(some false))else(some false))else(if a0_0 > 24 then(if t764=1 then(if t770=1 then(some ((wrap64 ((wrap64 ((wrap64 ((wrap64 ((t760.length:Int)+(t765.length:Int)))+t763))+t768))+t769)) == 0))else(some false))else(some false))else(if a0_1<1 then(if t764=1 then(if t770=1 then(some ((wrap64 ((wrap64 ((wrap64 ((wrap64 ((t760.length:Int)+(t765.length:Int)))+t763))+t768))+t769)) == 0))else(some false))else(some false))else(if a0_1 > 65536 then(if t764=1 then(if t770=1 then(some ((wrap64 ((wrap64 ((wrap64 ((wrap64 ((t760.length:Int)+(t765.length:Int)))+t763))+t768))+t769)) == 0))else(some false))else(some false))else(if t764=1 then(some false)else(if t770=0 then(if t764=0 then(some ((strOfNums t760).toList == (strOfNums t765).toList))else(some true))else(some false)))))))=some r:=H
    have A13:=QA A130
    clear A130
    by_cases c14:a0_0<12
    ·rw[if_pos c14]at H
     have c14b0:decide (a0_0<12)=true:=decide_eq_true c14
     clear c14
     by_cases c15:t764=1
     ·rw[if_pos c15]at H
      have c15b0:(t764 == 1)=true:=beq_iff_eq.mpr c15
      have c15b1:(t764 != 1)=false:=bne_eq_false_iff_eq.mpr c15
      clear c15
      by_cases c16:t770=1
      ·rw[if_pos c16]at H
       have c16b0:(t770 == 1)=true:=beq_iff_eq.mpr c16
       have c16b1:(t770 != 1)=false:=bne_eq_false_iff_eq.mpr c16
       clear c16
       obtain rfl:=Option.some.inj H
       have hcz17_0:=qq_c (.int .u8 a0_0) BK757.out 0 rfl
       have hcz17_1:=qq_c (.int .u32 a0_1) BK757.out 1 rfl
       have hfz17_0:=Qcu BK757.out 0
       have hfz17_1:=Qcu BK757.out 1
       go_wp2_with (first |((with_reducible refine Qhd (f:=43) rfl ?_);refine Qfk (some 23) rfl rfl Tryz.func43 qq_5 rfl #[.agg #[.int .u8 a0_0,.int .u32 a0_1],.slice A1 l1.length c1] rfl qq_1 ?_;(with_reducible refine(Qbe.calls kj2 a0_0 a0_1 _ _ l1 t760 t763 t764 _ ?side1 ?side2 A12.out).mono ?_);(case side1=>repeat(first|exact(Kd.C_below HR1.out HB.out) |(with_reducible refine Kd.C_alloc ?_ _) |(with_reducible refine Kd.C_drewN ?_ _) |(with_reducible refine Kd.C_drew ?_)));(case side2=>exact HC1.out);rintro e w18 ⟨v761,rfl,ho0,hb⟩;refine⟨_,rfl,?_⟩;have n0_:=QA (Kd.R_lower ho0 (Qea qq_b));have n1_:=QA (Qdg (g:=gb757) (o:=.cells #[.int .u8 a0_0,.int .u32 a0_1] 27 (0,0)) qq_0 hb);have n2_:=QA (Qeb qq_b hb);clear BK757 HB;have HO762:=n0_;have BK757:=n1_;have HB:=n2_;clear n0_ n1_ n2_;(try clear hb);(try clear hb2);(try clear hk);(try clear hi);(try clear ho0);have hcz19_0:=qq_c (.int .u8 a0_0) BK757.out 0 rfl;have hcz19_1:=qq_c (.int .u32 a0_1) BK757.out 1 rfl;have hfz19_0:=Qcu BK757.out 0;have hfz19_1:=Qcu BK757.out 1) |((with_reducible refine Qhd (f:=45) rfl ?_);refine Qfk (some 30) rfl rfl Tryz.func45 qq_5 rfl #[.agg #[.int .u8 a0_0,.int .u32 a0_1],.slice A1 l1.length c1] rfl qq_1 ?_;(with_reducible refine(Qbc.calls kj2 a0_0 a0_1 _ _ l1 t765 t768 t769 t770 _ ?side1 ?side2 A13.out).mono ?_);(case side1=>repeat(first|exact(Kd.C_below HR1.out HB.out) |(with_reducible refine Kd.C_alloc ?_ _) |(with_reducible refine Kd.C_drewN ?_ _) |(with_reducible refine Kd.C_drew ?_)));(case side2=>exact HC1.out);rintro e w20 ⟨v766,rfl,ho0,hb⟩;refine⟨_,rfl,?_⟩;have n0_:=QA (Kd.R_elder' qq_3 (Kd.R_base ho0) hb);have n1_:=QA (Kd.R_lower (Kd.R_new' ho0 (Kd.R_lt qq_3)) (Qea qq_b));have n2_:=QA (Qdg (g:=gb757) (o:=.cells #[.int .u8 a0_0,.int .u32 a0_1] 27 (0,0)) qq_0 hb);have n3_:=QA (Qeb qq_b hb);clear HO762 BK757 HB;have HO762:=n0_;have HO767:=n1_;have BK757:=n2_;have HB:=n3_;clear n0_ n1_ n2_ n3_;(try clear hb);(try clear hb2);(try clear hk);(try clear hi);(try clear ho0);have hcz21_0:=qq_c (.int .u8 a0_0) BK757.out 0 rfl;have hcz21_1:=qq_c (.int .u32 a0_1) BK757.out 1 rfl;have hfz21_0:=Qcu BK757.out 0;have hfz21_1:=Qcu BK757.out 1;obtain⟨Ao22,co22,eo22⟩:=Kd.R_slice HO762.out;subst eo22;obtain⟨Ao23,co23,eo23⟩:=Kd.R_slice HO767.out;subst eo23))
       go_ret
       exact⟨by first|rfl |(simp[Qhh,Qhi]<;>rfl) |(simp[*,Qhh,Qhi]<;>rfl),qq_b⟩
      ·rw[if_neg c16]at H
       have c16b0:(t770 == 1)=false:=beq_eq_false_iff_ne.mpr c16
       have c16b1:(t770 != 1)=true:=bne_iff_ne.mpr c16
       obtain rfl:=Option.some.inj H
       have hcz24_0:=qq_c (.int .u8 a0_0) BK757.out 0 rfl
       have hcz24_1:=qq_c (.int .u32 a0_1) BK757.out 1 rfl
       have hfz24_0:=Qcu BK757.out 0
       have hfz24_1:=Qcu BK757.out 1
       go_wp2_with (first |((with_reducible refine Qhd (f:=43) rfl ?_);refine Qfk (some 23) rfl rfl Tryz.func43 qq_5 rfl #[.agg #[.int .u8 a0_0,.int .u32 a0_1],.slice A1 l1.length c1] rfl qq_1 ?_;(with_reducible refine(Qbe.calls kj2 a0_0 a0_1 _ _ l1 t760 t763 t764 _ ?side1 ?side2 A12.out).mono ?_);(case side1=>repeat(first|exact(Kd.C_below HR1.out HB.out) |(with_reducible refine Kd.C_alloc ?_ _) |(with_reducible refine Kd.C_drewN ?_ _) |(with_reducible refine Kd.C_drew ?_)));(case side2=>exact HC1.out);rintro e w25 ⟨v761,rfl,ho0,hb⟩;refine⟨_,rfl,?_⟩;have n0_:=QA (Kd.R_lower ho0 (Qea qq_b));have n1_:=QA (Qdg (g:=gb757) (o:=.cells #[.int .u8 a0_0,.int .u32 a0_1] 27 (0,0)) qq_0 hb);have n2_:=QA (Qeb qq_b hb);clear BK757 HB;have HO762:=n0_;have BK757:=n1_;have HB:=n2_;clear n0_ n1_ n2_;(try clear hb);(try clear hb2);(try clear hk);(try clear hi);(try clear ho0);have hcz26_0:=qq_c (.int .u8 a0_0) BK757.out 0 rfl;have hcz26_1:=qq_c (.int .u32 a0_1) BK757.out 1 rfl;have hfz26_0:=Qcu BK757.out 0;have hfz26_1:=Qcu BK757.out 1) |((with_reducible refine Qhd (f:=45) rfl ?_);refine Qfk (some 30) rfl rfl Tryz.func45 qq_5 rfl #[.agg #[.int .u8 a0_0,.int .u32 a0_1],.slice A1 l1.length c1] rfl qq_1 ?_;(with_reducible refine(Qbc.calls kj2 a0_0 a0_1 _ _ l1 t765 t768 t769 t770 _ ?side1 ?side2 A13.out).mono ?_);(case side1=>repeat(first|exact(Kd.C_below HR1.out HB.out) |(with_reducible refine Kd.C_alloc ?_ _) |(with_reducible refine Kd.C_drewN ?_ _) |(with_reducible refine Kd.C_drew ?_)));(case side2=>exact HC1.out);rintro e w27 ⟨v766,rfl,ho0,hb⟩;refine⟨_,rfl,?_⟩;have n0_:=QA (Kd.R_elder' qq_3 (Kd.R_base ho0) hb);have n1_:=QA (Kd.R_lower (Kd.R_new' ho0 (Kd.R_lt qq_3)) (Qea qq_b));have n2_:=QA (Qdg (g:=gb757) (o:=.cells #[.int .u8 a0_0,.int .u32 a0_1] 27 (0,0)) qq_0 hb);have n3_:=QA (Qeb qq_b hb);clear HO762 BK757 HB;have HO762:=n0_;have HO767:=n1_;have BK757:=n2_;have HB:=n3_;clear n0_ n1_ n2_ n3_;(try clear hb);(try clear hb2);(try clear hk);(try clear hi);(try clear ho0);have hcz28_0:=qq_c (.int .u8 a0_0) BK757.out 0 rfl;have hcz28_1:=qq_c (.int .u32 a0_1) BK757.out 1 rfl;have hfz28_0:=Qcu BK757.out 0;have hfz28_1:=Qcu BK757.out 1))
       go_ret
       exact⟨by first|rfl |(simp[Qhh,Qhi]<;>rfl) |(simp[*,Qhh,Qhi]<;>rfl),qq_b⟩
     ·rw[if_neg c15]at H
      have c15b0:(t764 == 1)=false:=beq_eq_false_iff_ne.mpr c15
      have c15b1:(t764 != 1)=true:=bne_iff_ne.mpr c15
      obtain rfl:=Option.some.inj H
      have hcz29_0:=qq_c (.int .u8 a0_0) BK757.out 0 rfl
      have hcz29_1:=qq_c (.int .u32 a0_1) BK757.out 1 rfl
      have hfz29_0:=Qcu BK757.out 0
      have hfz29_1:=Qcu BK757.out 1
      go_wp2_with (first |((with_reducible refine Qhd (f:=43) rfl ?_);refine Qfk (some 23) rfl rfl Tryz.func43 qq_5 rfl #[.agg #[.int .u8 a0_0,.int .u32 a0_1],.slice A1 l1.length c1] rfl qq_1 ?_;(with_reducible refine(Qbe.calls kj2 a0_0 a0_1 _ _ l1 t760 t763 t764 _ ?side1 ?side2 A12.out).mono ?_);(case side1=>repeat(first|exact(Kd.C_below HR1.out HB.out) |(with_reducible refine Kd.C_alloc ?_ _) |(with_reducible refine Kd.C_drewN ?_ _) |(with_reducible refine Kd.C_drew ?_)));(case side2=>exact HC1.out);rintro e w30 ⟨v761,rfl,ho0,hb⟩;refine⟨_,rfl,?_⟩;have n0_:=QA (Kd.R_lower ho0 (Qea qq_b));have n1_:=QA (Qdg (g:=gb757) (o:=.cells #[.int .u8 a0_0,.int .u32 a0_1] 27 (0,0)) qq_0 hb);have n2_:=QA (Qeb qq_b hb);clear BK757 HB;have HO762:=n0_;have BK757:=n1_;have HB:=n2_;clear n0_ n1_ n2_;(try clear hb);(try clear hb2);(try clear hk);(try clear hi);(try clear ho0);have hcz31_0:=qq_c (.int .u8 a0_0) BK757.out 0 rfl;have hcz31_1:=qq_c (.int .u32 a0_1) BK757.out 1 rfl;have hfz31_0:=Qcu BK757.out 0;have hfz31_1:=Qcu BK757.out 1) |((with_reducible refine Qhd (f:=45) rfl ?_);refine Qfk (some 30) rfl rfl Tryz.func45 qq_5 rfl #[.agg #[.int .u8 a0_0,.int .u32 a0_1],.slice A1 l1.length c1] rfl qq_1 ?_;(with_reducible refine(Qbc.calls kj2 a0_0 a0_1 _ _ l1 t765 t768 t769 t770 _ ?side1 ?side2 A13.out).mono ?_);(case side1=>repeat(first|exact(Kd.C_below HR1.out HB.out) |(with_reducible refine Kd.C_alloc ?_ _) |(with_reducible refine Kd.C_drewN ?_ _) |(with_reducible refine Kd.C_drew ?_)));(case side2=>exact HC1.out);rintro e w32 ⟨v766,rfl,ho0,hb⟩;refine⟨_,rfl,?_⟩;have n0_:=QA (Kd.R_elder' qq_3 (Kd.R_base ho0) hb);have n1_:=QA (Kd.R_lower (Kd.R_new' ho0 (Kd.R_lt qq_3)) (Qea qq_b));have n2_:=QA (Qdg (g:=gb757) (o:=.cells #[.int .u8 a0_0,.int .u32 a0_1] 27 (0,0)) qq_0 hb);have n3_:=QA (Qeb qq_b hb);clear HO762 BK757 HB;have HO762:=n0_;have HO767:=n1_;have BK757:=n2_;have HB:=n3_;clear n0_ n1_ n2_ n3_;(try clear hb);(try clear hb2);(try clear hk);(try clear hi);(try clear ho0);have hcz33_0:=qq_c (.int .u8 a0_0) BK757.out 0 rfl;have hcz33_1:=qq_c (.int .u32 a0_1) BK757.out 1 rfl;have hfz33_0:=Qcu BK757.out 0;have hfz33_1:=Qcu BK757.out 1))
      go_ret
      exact⟨by first|rfl |(simp[Qhh,Qhi]<;>rfl) |(simp[*,Qhh,Qhi]<;>rfl),qq_b⟩
    ·rw [if_neg c14]at H
     have c14b0:decide (a0_0<12)=false:=decide_eq_false c14
     clear c14
     by_cases c34:a0_0 > 24
     ·rw[if_pos c34]at H
      have c34b0:decide (24<a0_0)=true:=decide_eq_true c34
      clear c34
      by_cases c35:t764=1
      ·rw[if_pos c35]at H
       have c35b0:(t764 == 1)=true:=beq_iff_eq.mpr c35
       have c35b1:(t764 != 1)=false:=bne_eq_false_iff_eq.mpr c35
       clear c35
       by_cases c36:t770=1
       ·rw[if_pos c36]at H
        have c36b0:(t770 == 1)=true:=beq_iff_eq.mpr c36
        have c36b1:(t770 != 1)=false:=bne_eq_false_iff_eq.mpr c36
        clear c36
        obtain rfl:=Option.some.inj H
        have hcz37_0:=qq_c (.int .u8 a0_0) BK757.out 0 rfl
        have hcz37_1:=qq_c (.int .u32 a0_1) BK757.out 1 rfl
        have hfz37_0:=Qcu BK757.out 0
        have hfz37_1:=Qcu BK757.out 1
        go_wp2_with (first |((with_reducible refine Qhd (f:=43) rfl ?_);refine Qfk (some 23) rfl rfl Tryz.func43 qq_5 rfl #[.agg #[.int .u8 a0_0,.int .u32 a0_1],.slice A1 l1.length c1] rfl qq_1 ?_;(with_reducible refine(Qbe.calls kj2 a0_0 a0_1 _ _ l1 t760 t763 t764 _ ?side1 ?side2 A12.out).mono ?_);(case side1=>repeat(first|exact(Kd.C_below HR1.out HB.out) |(with_reducible refine Kd.C_alloc ?_ _) |(with_reducible refine Kd.C_drewN ?_ _) |(with_reducible refine Kd.C_drew ?_)));(case side2=>exact HC1.out);rintro e w38 ⟨v761,rfl,ho0,hb⟩;refine⟨_,rfl,?_⟩;have n0_:=QA (Kd.R_lower ho0 (Qea qq_b));have n1_:=QA (Qdg (g:=gb757) (o:=.cells #[.int .u8 a0_0,.int .u32 a0_1] 27 (0,0)) qq_0 hb);have n2_:=QA (Qeb qq_b hb);clear BK757 HB;have HO762:=n0_;have BK757:=n1_;have HB:=n2_;clear n0_ n1_ n2_;(try clear hb);(try clear hb2);(try clear hk);(try clear hi);(try clear ho0);have hcz39_0:=qq_c (.int .u8 a0_0) BK757.out 0 rfl;have hcz39_1:=qq_c (.int .u32 a0_1) BK757.out 1 rfl;have hfz39_0:=Qcu BK757.out 0;have hfz39_1:=Qcu BK757.out 1) |((with_reducible refine Qhd (f:=45) rfl ?_);refine Qfk (some 30) rfl rfl Tryz.func45 qq_5 rfl #[.agg #[.int .u8 a0_0,.int .u32 a0_1],.slice A1 l1.length c1] rfl qq_1 ?_;(with_reducible refine(Qbc.calls kj2 a0_0 a0_1 _ _ l1 t765 t768 t769 t770 _ ?side1 ?side2 A13.out).mono ?_);(case side1=>repeat(first|exact(Kd.C_below HR1.out HB.out) |(with_reducible refine Kd.C_alloc ?_ _) |(with_reducible refine Kd.C_drewN ?_ _) |(with_reducible refine Kd.C_drew ?_)));(case side2=>exact HC1.out);rintro e w40 ⟨v766,rfl,ho0,hb⟩;refine⟨_,rfl,?_⟩;have n0_:=QA (Kd.R_elder' qq_3 (Kd.R_base ho0) hb);have n1_:=QA (Kd.R_lower (Kd.R_new' ho0 (Kd.R_lt qq_3)) (Qea qq_b));have n2_:=QA (Qdg (g:=gb757) (o:=.cells #[.int .u8 a0_0,.int .u32 a0_1] 27 (0,0)) qq_0 hb);have n3_:=QA (Qeb qq_b hb);clear HO762 BK757 HB;have HO762:=n0_;have HO767:=n1_;have BK757:=n2_;have HB:=n3_;clear n0_ n1_ n2_ n3_;(try clear hb);(try clear hb2);(try clear hk);(try clear hi);(try clear ho0);have hcz41_0:=qq_c (.int .u8 a0_0) BK757.out 0 rfl;have hcz41_1:=qq_c (.int .u32 a0_1) BK757.out 1 rfl;have hfz41_0:=Qcu BK757.out 0;have hfz41_1:=Qcu BK757.out 1;obtain⟨Ao42,co42,eo42⟩:=Kd.R_slice HO762.out;subst eo42;obtain⟨Ao43,co43,eo43⟩:=Kd.R_slice HO767.out;subst eo43))
        go_ret
        exact⟨by first|rfl |(simp[Qhh,Qhi]<;>rfl) |(simp[*,Qhh,Qhi]<;>rfl),qq_b⟩
       ·rw[if_neg c36]at H
        have c36b0:(t770 == 1)=false:=beq_eq_false_iff_ne.mpr c36
        have c36b1:(t770 != 1)=true:=bne_iff_ne.mpr c36
        obtain rfl:=Option.some.inj H
        have hcz44_0:=qq_c (.int .u8 a0_0) BK757.out 0 rfl
        have hcz44_1:=qq_c (.int .u32 a0_1) BK757.out 1 rfl
        have hfz44_0:=Qcu BK757.out 0
        have hfz44_1:=Qcu BK757.out 1
        go_wp2_with (first |((with_reducible refine Qhd (f:=43) rfl ?_);refine Qfk (some 23) rfl rfl Tryz.func43 qq_5 rfl #[.agg #[.int .u8 a0_0,.int .u32 a0_1],.slice A1 l1.length c1] rfl qq_1 ?_;(with_reducible refine(Qbe.calls kj2 a0_0 a0_1 _ _ l1 t760 t763 t764 _ ?side1 ?side2 A12.out).mono ?_);(case side1=>repeat(first|exact(Kd.C_below HR1.out HB.out) |(with_reducible refine Kd.C_alloc ?_ _) |(with_reducible refine Kd.C_drewN ?_ _) |(with_reducible refine Kd.C_drew ?_)));(case side2=>exact HC1.out);rintro e w45 ⟨v761,rfl,ho0,hb⟩;refine⟨_,rfl,?_⟩;have n0_:=QA (Kd.R_lower ho0 (Qea qq_b));have n1_:=QA (Qdg (g:=gb757) (o:=.cells #[.int .u8 a0_0,.int .u32 a0_1] 27 (0,0)) qq_0 hb);have n2_:=QA (Qeb qq_b hb);clear BK757 HB;have HO762:=n0_;have BK757:=n1_;have HB:=n2_;clear n0_ n1_ n2_;(try clear hb);(try clear hb2);(try clear hk);(try clear hi);(try clear ho0);have hcz46_0:=qq_c (.int .u8 a0_0) BK757.out 0 rfl;have hcz46_1:=qq_c (.int .u32 a0_1) BK757.out 1 rfl;have hfz46_0:=Qcu BK757.out 0;have hfz46_1:=Qcu BK757.out 1) |((with_reducible refine Qhd (f:=45) rfl ?_);refine Qfk (some 30) rfl rfl Tryz.func45 qq_5 rfl #[.agg #[.int .u8 a0_0,.int .u32 a0_1],.slice A1 l1.length c1] rfl qq_1 ?_;(with_reducible refine(Qbc.calls kj2 a0_0 a0_1 _ _ l1 t765 t768 t769 t770 _ ?side1 ?side2 A13.out).mono ?_);(case side1=>repeat(first|exact(Kd.C_below HR1.out HB.out) |(with_reducible refine Kd.C_alloc ?_ _) |(with_reducible refine Kd.C_drewN ?_ _) |(with_reducible refine Kd.C_drew ?_)));(case side2=>exact HC1.out);rintro e w47 ⟨v766,rfl,ho0,hb⟩;refine⟨_,rfl,?_⟩;have n0_:=QA (Kd.R_elder' qq_3 (Kd.R_base ho0) hb);have n1_:=QA (Kd.R_lower (Kd.R_new' ho0 (Kd.R_lt qq_3)) (Qea qq_b));have n2_:=QA (Qdg (g:=gb757) (o:=.cells #[.int .u8 a0_0,.int .u32 a0_1] 27 (0,0)) qq_0 hb);have n3_:=QA (Qeb qq_b hb);clear HO762 BK757 HB;have HO762:=n0_;have HO767:=n1_;have BK757:=n2_;have HB:=n3_;clear n0_ n1_ n2_ n3_;(try clear hb);(try clear hb2);(try clear hk);(try clear hi);(try clear ho0);have hcz48_0:=qq_c (.int .u8 a0_0) BK757.out 0 rfl;have hcz48_1:=qq_c (.int .u32 a0_1) BK757.out 1 rfl;have hfz48_0:=Qcu BK757.out 0;have hfz48_1:=Qcu BK757.out 1))
        go_ret
        exact⟨by first|rfl |(simp[Qhh,Qhi]<;>rfl) |(simp[*,Qhh,Qhi]<;>rfl),qq_b⟩
      ·rw[if_neg c35]at H
       have c35b0:(t764 == 1)=false:=beq_eq_false_iff_ne.mpr c35
       have c35b1:(t764 != 1)=true:=bne_iff_ne.mpr c35
       obtain rfl:=Option.some.inj H
       have hcz49_0:=qq_c (.int .u8 a0_0) BK757.out 0 rfl
       have hcz49_1:=qq_c (.int .u32 a0_1) BK757.out 1 rfl
       have hfz49_0:=Qcu BK757.out 0
       have hfz49_1:=Qcu BK757.out 1
       go_wp2_with (first |((with_reducible refine Qhd (f:=43) rfl ?_);refine Qfk (some 23) rfl rfl Tryz.func43 qq_5 rfl #[.agg #[.int .u8 a0_0,.int .u32 a0_1],.slice A1 l1.length c1] rfl qq_1 ?_;(with_reducible refine(Qbe.calls kj2 a0_0 a0_1 _ _ l1 t760 t763 t764 _ ?side1 ?side2 A12.out).mono ?_);(case side1=>repeat(first|exact(Kd.C_below HR1.out HB.out) |(with_reducible refine Kd.C_alloc ?_ _) |(with_reducible refine Kd.C_drewN ?_ _) |(with_reducible refine Kd.C_drew ?_)));(case side2=>exact HC1.out);rintro e w50 ⟨v761,rfl,ho0,hb⟩;refine⟨_,rfl,?_⟩;have n0_:=QA (Kd.R_lower ho0 (Qea qq_b));have n1_:=QA (Qdg (g:=gb757) (o:=.cells #[.int .u8 a0_0,.int .u32 a0_1] 27 (0,0)) qq_0 hb);have n2_:=QA (Qeb qq_b hb);clear BK757 HB;have HO762:=n0_;have BK757:=n1_;have HB:=n2_;clear n0_ n1_ n2_;(try clear hb);(try clear hb2);(try clear hk);(try clear hi);(try clear ho0);have hcz51_0:=qq_c (.int .u8 a0_0) BK757.out 0 rfl;have hcz51_1:=qq_c (.int .u32 a0_1) BK757.out 1 rfl;have hfz51_0:=Qcu BK757.out 0;have hfz51_1:=Qcu BK757.out 1) |((with_reducible refine Qhd (f:=45) rfl ?_);refine Qfk (some 30) rfl rfl Tryz.func45 qq_5 rfl #[.agg #[.int .u8 a0_0,.int .u32 a0_1],.slice A1 l1.length c1] rfl qq_1 ?_;(with_reducible refine(Qbc.calls kj2 a0_0 a0_1 _ _ l1 t765 t768 t769 t770 _ ?side1 ?side2 A13.out).mono ?_);(case side1=>repeat(first|exact(Kd.C_below HR1.out HB.out) |(with_reducible refine Kd.C_alloc ?_ _) |(with_reducible refine Kd.C_drewN ?_ _) |(with_reducible refine Kd.C_drew ?_)));(case side2=>exact HC1.out);rintro e w52 ⟨v766,rfl,ho0,hb⟩;refine⟨_,rfl,?_⟩;have n0_:=QA (Kd.R_elder' qq_3 (Kd.R_base ho0) hb);have n1_:=QA (Kd.R_lower (Kd.R_new' ho0 (Kd.R_lt qq_3)) (Qea qq_b));have n2_:=QA (Qdg (g:=gb757) (o:=.cells #[.int .u8 a0_0,.int .u32 a0_1] 27 (0,0)) qq_0 hb);have n3_:=QA (Qeb qq_b hb);clear HO762 BK757 HB;have HO762:=n0_;have HO767:=n1_;have BK757:=n2_;have HB:=n3_;clear n0_ n1_ n2_ n3_;(try clear hb);(try clear hb2);(try clear hk);(try clear hi);(try clear ho0);have hcz53_0:=qq_c (.int .u8 a0_0) BK757.out 0 rfl;have hcz53_1:=qq_c (.int .u32 a0_1) BK757.out 1 rfl;have hfz53_0:=Qcu BK757.out 0;have hfz53_1:=Qcu BK757.out 1))
       go_ret
       exact⟨by first|rfl |(simp[Qhh,Qhi]<;>rfl) |(simp[*,Qhh,Qhi]<;>rfl),qq_b⟩
     ·rw [if_neg c34]at H
      have c34b0:decide (24<a0_0)=false:=decide_eq_false c34
      clear c34
      by_cases c54:a0_1<1
      ·rw[if_pos c54]at H
       have c54b0:decide (a0_1<1)=true:=decide_eq_true c54
       clear c54
       by_cases c55:t764=1
       ·rw[if_pos c55]at H
        have c55b0:(t764 == 1)=true:=beq_iff_eq.mpr c55
        have c55b1:(t764 != 1)=false:=bne_eq_false_iff_eq.mpr c55
        clear c55
        by_cases c56:t770=1
        ·rw[if_pos c56]at H
         have c56b0:(t770 == 1)=true:=beq_iff_eq.mpr c56
         have c56b1:(t770 != 1)=false:=bne_eq_false_iff_eq.mpr c56
         clear c56
         obtain rfl:=Option.some.inj H
         have hcz57_0:=qq_c (.int .u8 a0_0) BK757.out 0 rfl
         have hcz57_1:=qq_c (.int .u32 a0_1) BK757.out 1 rfl
         have hfz57_0:=Qcu BK757.out 0
         have hfz57_1:=Qcu BK757.out 1
         go_wp2_with (first |((with_reducible refine Qhd (f:=43) rfl ?_);refine Qfk (some 23) rfl rfl Tryz.func43 qq_5 rfl #[.agg #[.int .u8 a0_0,.int .u32 a0_1],.slice A1 l1.length c1] rfl qq_1 ?_;(with_reducible refine(Qbe.calls kj2 a0_0 a0_1 _ _ l1 t760 t763 t764 _ ?side1 ?side2 A12.out).mono ?_);(case side1=>repeat(first|exact(Kd.C_below HR1.out HB.out) |(with_reducible refine Kd.C_alloc ?_ _) |(with_reducible refine Kd.C_drewN ?_ _) |(with_reducible refine Kd.C_drew ?_)));(case side2=>exact HC1.out);rintro e w58 ⟨v761,rfl,ho0,hb⟩;refine⟨_,rfl,?_⟩;have n0_:=QA (Kd.R_lower ho0 (Qea qq_b));have n1_:=QA (Qdg (g:=gb757) (o:=.cells #[.int .u8 a0_0,.int .u32 a0_1] 27 (0,0)) qq_0 hb);have n2_:=QA (Qeb qq_b hb);clear BK757 HB;have HO762:=n0_;have BK757:=n1_;have HB:=n2_;clear n0_ n1_ n2_;(try clear hb);(try clear hb2);(try clear hk);(try clear hi);(try clear ho0);have hcz59_0:=qq_c (.int .u8 a0_0) BK757.out 0 rfl;have hcz59_1:=qq_c (.int .u32 a0_1) BK757.out 1 rfl;have hfz59_0:=Qcu BK757.out 0;have hfz59_1:=Qcu BK757.out 1) |((with_reducible refine Qhd (f:=45) rfl ?_);refine Qfk (some 30) rfl rfl Tryz.func45 qq_5 rfl #[.agg #[.int .u8 a0_0,.int .u32 a0_1],.slice A1 l1.length c1] rfl qq_1 ?_;(with_reducible refine(Qbc.calls kj2 a0_0 a0_1 _ _ l1 t765 t768 t769 t770 _ ?side1 ?side2 A13.out).mono ?_);(case side1=>repeat(first|exact(Kd.C_below HR1.out HB.out) |(with_reducible refine Kd.C_alloc ?_ _) |(with_reducible refine Kd.C_drewN ?_ _) |(with_reducible refine Kd.C_drew ?_)));(case side2=>exact HC1.out);rintro e w60 ⟨v766,rfl,ho0,hb⟩;refine⟨_,rfl,?_⟩;have n0_:=QA (Kd.R_elder' qq_3 (Kd.R_base ho0) hb);have n1_:=QA (Kd.R_lower (Kd.R_new' ho0 (Kd.R_lt qq_3)) (Qea qq_b));have n2_:=QA (Qdg (g:=gb757) (o:=.cells #[.int .u8 a0_0,.int .u32 a0_1] 27 (0,0)) qq_0 hb);have n3_:=QA (Qeb qq_b hb);clear HO762 BK757 HB;have HO762:=n0_;have HO767:=n1_;have BK757:=n2_;have HB:=n3_;clear n0_ n1_ n2_ n3_;(try clear hb);(try clear hb2);(try clear hk);(try clear hi);(try clear ho0);have hcz61_0:=qq_c (.int .u8 a0_0) BK757.out 0 rfl;have hcz61_1:=qq_c (.int .u32 a0_1) BK757.out 1 rfl;have hfz61_0:=Qcu BK757.out 0;have hfz61_1:=Qcu BK757.out 1;obtain⟨Ao62,co62,eo62⟩:=Kd.R_slice HO762.out;subst eo62;obtain⟨Ao63,co63,eo63⟩:=Kd.R_slice HO767.out;subst eo63))
         go_ret
         exact⟨by first|rfl |(simp[Qhh,Qhi]<;>rfl) |(simp[*,Qhh,Qhi]<;>rfl),qq_b⟩
        ·rw[if_neg c56]at H
         have c56b0:(t770 == 1)=false:=beq_eq_false_iff_ne.mpr c56
         have c56b1:(t770 != 1)=true:=bne_iff_ne.mpr c56
         obtain rfl:=Option.some.inj H
         have hcz64_0:=qq_c (.int .u8 a0_0) BK757.out 0 rfl
         have hcz64_1:=qq_c (.int .u32 a0_1) BK757.out 1 rfl
         have hfz64_0:=Qcu BK757.out 0
         have hfz64_1:=Qcu BK757.out 1
         go_wp2_with (first |((with_reducible refine Qhd (f:=43) rfl ?_);refine Qfk (some 23) rfl rfl Tryz.func43 qq_5 rfl #[.agg #[.int .u8 a0_0,.int .u32 a0_1],.slice A1 l1.length c1] rfl qq_1 ?_;(with_reducible refine(Qbe.calls kj2 a0_0 a0_1 _ _ l1 t760 t763 t764 _ ?side1 ?side2 A12.out).mono ?_);(case side1=>repeat(first|exact(Kd.C_below HR1.out HB.out) |(with_reducible refine Kd.C_alloc ?_ _) |(with_reducible refine Kd.C_drewN ?_ _) |(with_reducible refine Kd.C_drew ?_)));(case side2=>exact HC1.out);rintro e w65 ⟨v761,rfl,ho0,hb⟩;refine⟨_,rfl,?_⟩;have n0_:=QA (Kd.R_lower ho0 (Qea qq_b));have n1_:=QA (Qdg (g:=gb757) (o:=.cells #[.int .u8 a0_0,.int .u32 a0_1] 27 (0,0)) qq_0 hb);have n2_:=QA (Qeb qq_b hb);clear BK757 HB;have HO762:=n0_;have BK757:=n1_;have HB:=n2_;clear n0_ n1_ n2_;(try clear hb);(try clear hb2);(try clear hk);(try clear hi);(try clear ho0);have hcz66_0:=qq_c (.int .u8 a0_0) BK757.out 0 rfl;have hcz66_1:=qq_c (.int .u32 a0_1) BK757.out 1 rfl;have hfz66_0:=Qcu BK757.out 0;have hfz66_1:=Qcu BK757.out 1) |((with_reducible refine Qhd (f:=45) rfl ?_);refine Qfk (some 30) rfl rfl Tryz.func45 qq_5 rfl #[.agg #[.int .u8 a0_0,.int .u32 a0_1],.slice A1 l1.length c1] rfl qq_1 ?_;(with_reducible refine(Qbc.calls kj2 a0_0 a0_1 _ _ l1 t765 t768 t769 t770 _ ?side1 ?side2 A13.out).mono ?_);(case side1=>repeat(first|exact(Kd.C_below HR1.out HB.out) |(with_reducible refine Kd.C_alloc ?_ _) |(with_reducible refine Kd.C_drewN ?_ _) |(with_reducible refine Kd.C_drew ?_)));(case side2=>exact HC1.out);rintro e w67 ⟨v766,rfl,ho0,hb⟩;refine⟨_,rfl,?_⟩;have n0_:=QA (Kd.R_elder' qq_3 (Kd.R_base ho0) hb);have n1_:=QA (Kd.R_lower (Kd.R_new' ho0 (Kd.R_lt qq_3)) (Qea qq_b));have n2_:=QA (Qdg (g:=gb757) (o:=.cells #[.int .u8 a0_0,.int .u32 a0_1] 27 (0,0)) qq_0 hb);have n3_:=QA (Qeb qq_b hb);clear HO762 BK757 HB;have HO762:=n0_;have HO767:=n1_;have BK757:=n2_;have HB:=n3_;clear n0_ n1_ n2_ n3_;(try clear hb);(try clear hb2);(try clear hk);(try clear hi);(try clear ho0);have hcz68_0:=qq_c (.int .u8 a0_0) BK757.out 0 rfl;have hcz68_1:=qq_c (.int .u32 a0_1) BK757.out 1 rfl;have hfz68_0:=Qcu BK757.out 0;have hfz68_1:=Qcu BK757.out 1))
         go_ret
         exact⟨by first|rfl |(simp[Qhh,Qhi]<;>rfl) |(simp[*,Qhh,Qhi]<;>rfl),qq_b⟩
       ·rw[if_neg c55]at H
        have c55b0:(t764 == 1)=false:=beq_eq_false_iff_ne.mpr c55
        have c55b1:(t764 != 1)=true:=bne_iff_ne.mpr c55
        obtain rfl:=Option.some.inj H
        have hcz69_0:=qq_c (.int .u8 a0_0) BK757.out 0 rfl
        have hcz69_1:=qq_c (.int .u32 a0_1) BK757.out 1 rfl
        have hfz69_0:=Qcu BK757.out 0
        have hfz69_1:=Qcu BK757.out 1
        go_wp2_with (first |((with_reducible refine Qhd (f:=43) rfl ?_);refine Qfk (some 23) rfl rfl Tryz.func43 qq_5 rfl #[.agg #[.int .u8 a0_0,.int .u32 a0_1],.slice A1 l1.length c1] rfl qq_1 ?_;(with_reducible refine(Qbe.calls kj2 a0_0 a0_1 _ _ l1 t760 t763 t764 _ ?side1 ?side2 A12.out).mono ?_);(case side1=>repeat(first|exact(Kd.C_below HR1.out HB.out) |(with_reducible refine Kd.C_alloc ?_ _) |(with_reducible refine Kd.C_drewN ?_ _) |(with_reducible refine Kd.C_drew ?_)));(case side2=>exact HC1.out);rintro e w70 ⟨v761,rfl,ho0,hb⟩;refine⟨_,rfl,?_⟩;have n0_:=QA (Kd.R_lower ho0 (Qea qq_b));have n1_:=QA (Qdg (g:=gb757) (o:=.cells #[.int .u8 a0_0,.int .u32 a0_1] 27 (0,0)) qq_0 hb);have n2_:=QA (Qeb qq_b hb);clear BK757 HB;have HO762:=n0_;have BK757:=n1_;have HB:=n2_;clear n0_ n1_ n2_;(try clear hb);(try clear hb2);(try clear hk);(try clear hi);(try clear ho0);have hcz71_0:=qq_c (.int .u8 a0_0) BK757.out 0 rfl;have hcz71_1:=qq_c (.int .u32 a0_1) BK757.out 1 rfl;have hfz71_0:=Qcu BK757.out 0;have hfz71_1:=Qcu BK757.out 1) |((with_reducible refine Qhd (f:=45) rfl ?_);refine Qfk (some 30) rfl rfl Tryz.func45 qq_5 rfl #[.agg #[.int .u8 a0_0,.int .u32 a0_1],.slice A1 l1.length c1] rfl qq_1 ?_;(with_reducible refine(Qbc.calls kj2 a0_0 a0_1 _ _ l1 t765 t768 t769 t770 _ ?side1 ?side2 A13.out).mono ?_);(case side1=>repeat(first|exact(Kd.C_below HR1.out HB.out) |(with_reducible refine Kd.C_alloc ?_ _) |(with_reducible refine Kd.C_drewN ?_ _) |(with_reducible refine Kd.C_drew ?_)));(case side2=>exact HC1.out);rintro e w72 ⟨v766,rfl,ho0,hb⟩;refine⟨_,rfl,?_⟩;have n0_:=QA (Kd.R_elder' qq_3 (Kd.R_base ho0) hb);have n1_:=QA (Kd.R_lower (Kd.R_new' ho0 (Kd.R_lt qq_3)) (Qea qq_b));have n2_:=QA (Qdg (g:=gb757) (o:=.cells #[.int .u8 a0_0,.int .u32 a0_1] 27 (0,0)) qq_0 hb);have n3_:=QA (Qeb qq_b hb);clear HO762 BK757 HB;have HO762:=n0_;have HO767:=n1_;have BK757:=n2_;have HB:=n3_;clear n0_ n1_ n2_ n3_;(try clear hb);(try clear hb2);(try clear hk);(try clear hi);(try clear ho0);have hcz73_0:=qq_c (.int .u8 a0_0) BK757.out 0 rfl;have hcz73_1:=qq_c (.int .u32 a0_1) BK757.out 1 rfl;have hfz73_0:=Qcu BK757.out 0;have hfz73_1:=Qcu BK757.out 1))
        go_ret
        exact⟨by first|rfl |(simp[Qhh,Qhi]<;>rfl) |(simp[*,Qhh,Qhi]<;>rfl),qq_b⟩
      ·rw [if_neg c54]at H
       have c54b0:decide (a0_1<1)=false:=decide_eq_false c54
       clear c54
       by_cases c74:a0_1 > 65536
       ·rw[if_pos c74]at H
        have c74b0:decide (65536<a0_1)=true:=decide_eq_true c74
        clear c74
        by_cases c75:t764=1
        ·rw[if_pos c75]at H
         have c75b0:(t764 == 1)=true:=beq_iff_eq.mpr c75
         have c75b1:(t764 != 1)=false:=bne_eq_false_iff_eq.mpr c75
         clear c75
         by_cases c76:t770=1
         ·rw[if_pos c76]at H
          have c76b0:(t770 == 1)=true:=beq_iff_eq.mpr c76
          have c76b1:(t770 != 1)=false:=bne_eq_false_iff_eq.mpr c76
          clear c76
          obtain rfl:=Option.some.inj H
          have hcz77_0:=qq_c (.int .u8 a0_0) BK757.out 0 rfl
          have hcz77_1:=qq_c (.int .u32 a0_1) BK757.out 1 rfl
          have hfz77_0:=Qcu BK757.out 0
          have hfz77_1:=Qcu BK757.out 1
          go_wp2_with (first |((with_reducible refine Qhd (f:=43) rfl ?_);refine Qfk (some 23) rfl rfl Tryz.func43 qq_5 rfl #[.agg #[.int .u8 a0_0,.int .u32 a0_1],.slice A1 l1.length c1] rfl qq_1 ?_;(with_reducible refine(Qbe.calls kj2 a0_0 a0_1 _ _ l1 t760 t763 t764 _ ?side1 ?side2 A12.out).mono ?_);(case side1=>repeat(first|exact(Kd.C_below HR1.out HB.out) |(with_reducible refine Kd.C_alloc ?_ _) |(with_reducible refine Kd.C_drewN ?_ _) |(with_reducible refine Kd.C_drew ?_)));(case side2=>exact HC1.out);rintro e w78 ⟨v761,rfl,ho0,hb⟩;refine⟨_,rfl,?_⟩;have n0_:=QA (Kd.R_lower ho0 (Qea qq_b));have n1_:=QA (Qdg (g:=gb757) (o:=.cells #[.int .u8 a0_0,.int .u32 a0_1] 27 (0,0)) qq_0 hb);have n2_:=QA (Qeb qq_b hb);clear BK757 HB;have HO762:=n0_;have BK757:=n1_;have HB:=n2_;clear n0_ n1_ n2_;(try clear hb);(try clear hb2);(try clear hk);(try clear hi);(try clear ho0);have hcz79_0:=qq_c (.int .u8 a0_0) BK757.out 0 rfl;have hcz79_1:=qq_c (.int .u32 a0_1) BK757.out 1 rfl;have hfz79_0:=Qcu BK757.out 0;have hfz79_1:=Qcu BK757.out 1) |((with_reducible refine Qhd (f:=45) rfl ?_);refine Qfk (some 30) rfl rfl Tryz.func45 qq_5 rfl #[.agg #[.int .u8 a0_0,.int .u32 a0_1],.slice A1 l1.length c1] rfl qq_1 ?_;(with_reducible refine(Qbc.calls kj2 a0_0 a0_1 _ _ l1 t765 t768 t769 t770 _ ?side1 ?side2 A13.out).mono ?_);(case side1=>repeat(first|exact(Kd.C_below HR1.out HB.out) |(with_reducible refine Kd.C_alloc ?_ _) |(with_reducible refine Kd.C_drewN ?_ _) |(with_reducible refine Kd.C_drew ?_)));(case side2=>exact HC1.out);rintro e w80 ⟨v766,rfl,ho0,hb⟩;refine⟨_,rfl,?_⟩;have n0_:=QA (Kd.R_elder' qq_3 (Kd.R_base ho0) hb);have n1_:=QA (Kd.R_lower (Kd.R_new' ho0 (Kd.R_lt qq_3)) (Qea qq_b));have n2_:=QA (Qdg (g:=gb757) (o:=.cells #[.int .u8 a0_0,.int .u32 a0_1] 27 (0,0)) qq_0 hb);have n3_:=QA (Qeb qq_b hb);clear HO762 BK757 HB;have HO762:=n0_;have HO767:=n1_;have BK757:=n2_;have HB:=n3_;clear n0_ n1_ n2_ n3_;(try clear hb);(try clear hb2);(try clear hk);(try clear hi);(try clear ho0);have hcz81_0:=qq_c (.int .u8 a0_0) BK757.out 0 rfl;have hcz81_1:=qq_c (.int .u32 a0_1) BK757.out 1 rfl;have hfz81_0:=Qcu BK757.out 0;have hfz81_1:=Qcu BK757.out 1;obtain⟨Ao82,co82,eo82⟩:=Kd.R_slice HO762.out;subst eo82;obtain⟨Ao83,co83,eo83⟩:=Kd.R_slice HO767.out;subst eo83))
          go_ret
          exact⟨by first|rfl |(simp[Qhh,Qhi]<;>rfl) |(simp[*,Qhh,Qhi]<;>rfl),qq_b⟩
         ·rw[if_neg c76]at H
          have c76b0:(t770 == 1)=false:=beq_eq_false_iff_ne.mpr c76
          have c76b1:(t770 != 1)=true:=bne_iff_ne.mpr c76
          obtain rfl:=Option.some.inj H
          have hcz84_0:=qq_c (.int .u8 a0_0) BK757.out 0 rfl
          have hcz84_1:=qq_c (.int .u32 a0_1) BK757.out 1 rfl
          have hfz84_0:=Qcu BK757.out 0
          have hfz84_1:=Qcu BK757.out 1
          go_wp2_with (first |((with_reducible refine Qhd (f:=43) rfl ?_);refine Qfk (some 23) rfl rfl Tryz.func43 qq_5 rfl #[.agg #[.int .u8 a0_0,.int .u32 a0_1],.slice A1 l1.length c1] rfl qq_1 ?_;(with_reducible refine(Qbe.calls kj2 a0_0 a0_1 _ _ l1 t760 t763 t764 _ ?side1 ?side2 A12.out).mono ?_);(case side1=>repeat(first|exact(Kd.C_below HR1.out HB.out) |(with_reducible refine Kd.C_alloc ?_ _) |(with_reducible refine Kd.C_drewN ?_ _) |(with_reducible refine Kd.C_drew ?_)));(case side2=>exact HC1.out);rintro e w85 ⟨v761,rfl,ho0,hb⟩;refine⟨_,rfl,?_⟩;have n0_:=QA (Kd.R_lower ho0 (Qea qq_b));have n1_:=QA (Qdg (g:=gb757) (o:=.cells #[.int .u8 a0_0,.int .u32 a0_1] 27 (0,0)) qq_0 hb);have n2_:=QA (Qeb qq_b hb);clear BK757 HB;have HO762:=n0_;have BK757:=n1_;have HB:=n2_;clear n0_ n1_ n2_;(try clear hb);(try clear hb2);(try clear hk);(try clear hi);(try clear ho0);have hcz86_0:=qq_c (.int .u8 a0_0) BK757.out 0 rfl;have hcz86_1:=qq_c (.int .u32 a0_1) BK757.out 1 rfl;have hfz86_0:=Qcu BK757.out 0;have hfz86_1:=Qcu BK757.out 1) |((with_reducible refine Qhd (f:=45) rfl ?_);refine Qfk (some 30) rfl rfl Tryz.func45 qq_5 rfl #[.agg #[.int .u8 a0_0,.int .u32 a0_1],.slice A1 l1.length c1] rfl qq_1 ?_;(with_reducible refine(Qbc.calls kj2 a0_0 a0_1 _ _ l1 t765 t768 t769 t770 _ ?side1 ?side2 A13.out).mono ?_);(case side1=>repeat(first|exact(Kd.C_below HR1.out HB.out) |(with_reducible refine Kd.C_alloc ?_ _) |(with_reducible refine Kd.C_drewN ?_ _) |(with_reducible refine Kd.C_drew ?_)));(case side2=>exact HC1.out);rintro e w87 ⟨v766,rfl,ho0,hb⟩;refine⟨_,rfl,?_⟩;have n0_:=QA (Kd.R_elder' qq_3 (Kd.R_base ho0) hb);have n1_:=QA (Kd.R_lower (Kd.R_new' ho0 (Kd.R_lt qq_3)) (Qea qq_b));have n2_:=QA (Qdg (g:=gb757) (o:=.cells #[.int .u8 a0_0,.int .u32 a0_1] 27 (0,0)) qq_0 hb);have n3_:=QA (Qeb qq_b hb);clear HO762 BK757 HB;have HO762:=n0_;have HO767:=n1_;have BK757:=n2_;have HB:=n3_;clear n0_ n1_ n2_ n3_;(try clear hb);(try clear hb2);(try clear hk);(try clear hi);(try clear ho0);have hcz88_0:=qq_c (.int .u8 a0_0) BK757.out 0 rfl;have hcz88_1:=qq_c (.int .u32 a0_1) BK757.out 1 rfl;have hfz88_0:=Qcu BK757.out 0;have hfz88_1:=Qcu BK757.out 1))
          go_ret
          exact⟨by first|rfl |(simp[Qhh,Qhi]<;>rfl) |(simp[*,Qhh,Qhi]<;>rfl),qq_b⟩
        ·rw[if_neg c75]at H
         have c75b0:(t764 == 1)=false:=beq_eq_false_iff_ne.mpr c75
         have c75b1:(t764 != 1)=true:=bne_iff_ne.mpr c75
         obtain rfl:=Option.some.inj H
         have hcz89_0:=qq_c (.int .u8 a0_0) BK757.out 0 rfl
         have hcz89_1:=qq_c (.int .u32 a0_1) BK757.out 1 rfl
         have hfz89_0:=Qcu BK757.out 0
         have hfz89_1:=Qcu BK757.out 1
         go_wp2_with (first |((with_reducible refine Qhd (f:=43) rfl ?_);refine Qfk (some 23) rfl rfl Tryz.func43 qq_5 rfl #[.agg #[.int .u8 a0_0,.int .u32 a0_1],.slice A1 l1.length c1] rfl qq_1 ?_;(with_reducible refine(Qbe.calls kj2 a0_0 a0_1 _ _ l1 t760 t763 t764 _ ?side1 ?side2 A12.out).mono ?_);(case side1=>repeat(first|exact(Kd.C_below HR1.out HB.out) |(with_reducible refine Kd.C_alloc ?_ _) |(with_reducible refine Kd.C_drewN ?_ _) |(with_reducible refine Kd.C_drew ?_)));(case side2=>exact HC1.out);rintro e w90 ⟨v761,rfl,ho0,hb⟩;refine⟨_,rfl,?_⟩;have n0_:=QA (Kd.R_lower ho0 (Qea qq_b));have n1_:=QA (Qdg (g:=gb757) (o:=.cells #[.int .u8 a0_0,.int .u32 a0_1] 27 (0,0)) qq_0 hb);have n2_:=QA (Qeb qq_b hb);clear BK757 HB;have HO762:=n0_;have BK757:=n1_;have HB:=n2_;clear n0_ n1_ n2_;(try clear hb);(try clear hb2);(try clear hk);(try clear hi);(try clear ho0);have hcz91_0:=qq_c (.int .u8 a0_0) BK757.out 0 rfl;have hcz91_1:=qq_c (.int .u32 a0_1) BK757.out 1 rfl;have hfz91_0:=Qcu BK757.out 0;have hfz91_1:=Qcu BK757.out 1) |((with_reducible refine Qhd (f:=45) rfl ?_);refine Qfk (some 30) rfl rfl Tryz.func45 qq_5 rfl #[.agg #[.int .u8 a0_0,.int .u32 a0_1],.slice A1 l1.length c1] rfl qq_1 ?_;(with_reducible refine(Qbc.calls kj2 a0_0 a0_1 _ _ l1 t765 t768 t769 t770 _ ?side1 ?side2 A13.out).mono ?_);(case side1=>repeat(first|exact(Kd.C_below HR1.out HB.out) |(with_reducible refine Kd.C_alloc ?_ _) |(with_reducible refine Kd.C_drewN ?_ _) |(with_reducible refine Kd.C_drew ?_)));(case side2=>exact HC1.out);rintro e w92 ⟨v766,rfl,ho0,hb⟩;refine⟨_,rfl,?_⟩;have n0_:=QA (Kd.R_elder' qq_3 (Kd.R_base ho0) hb);have n1_:=QA (Kd.R_lower (Kd.R_new' ho0 (Kd.R_lt qq_3)) (Qea qq_b));have n2_:=QA (Qdg (g:=gb757) (o:=.cells #[.int .u8 a0_0,.int .u32 a0_1] 27 (0,0)) qq_0 hb);have n3_:=QA (Qeb qq_b hb);clear HO762 BK757 HB;have HO762:=n0_;have HO767:=n1_;have BK757:=n2_;have HB:=n3_;clear n0_ n1_ n2_ n3_;(try clear hb);(try clear hb2);(try clear hk);(try clear hi);(try clear ho0);have hcz93_0:=qq_c (.int .u8 a0_0) BK757.out 0 rfl;have hcz93_1:=qq_c (.int .u32 a0_1) BK757.out 1 rfl;have hfz93_0:=Qcu BK757.out 0;have hfz93_1:=Qcu BK757.out 1))
         go_ret
         exact⟨by first|rfl |(simp[Qhh,Qhi]<;>rfl) |(simp[*,Qhh,Qhi]<;>rfl),qq_b⟩
       ·rw [if_neg c74]at H
        have c74b0:decide (65536<a0_1)=false:=decide_eq_false c74
        clear c74
        by_cases c94:t764=1
        ·rw[if_pos c94]at H
         have c94b0:(t764 == 1)=true:=beq_iff_eq.mpr c94
         have c94b1:(t764 != 1)=false:=bne_eq_false_iff_eq.mpr c94
         clear c94
         obtain rfl:=Option.some.inj H
         have hcz95_0:=qq_c (.int .u8 a0_0) BK757.out 0 rfl
         have hcz95_1:=qq_c (.int .u32 a0_1) BK757.out 1 rfl
         have hfz95_0:=Qcu BK757.out 0
         have hfz95_1:=Qcu BK757.out 1
         go_wp2_with (first |((with_reducible refine Qhd (f:=43) rfl ?_);refine Qfk (some 23) rfl rfl Tryz.func43 qq_5 rfl #[.agg #[.int .u8 a0_0,.int .u32 a0_1],.slice A1 l1.length c1] rfl qq_1 ?_;(with_reducible refine(Qbe.calls kj2 a0_0 a0_1 _ _ l1 t760 t763 t764 _ ?side1 ?side2 A12.out).mono ?_);(case side1=>repeat(first|exact(Kd.C_below HR1.out HB.out) |(with_reducible refine Kd.C_alloc ?_ _) |(with_reducible refine Kd.C_drewN ?_ _) |(with_reducible refine Kd.C_drew ?_)));(case side2=>exact HC1.out);rintro e w96 ⟨v761,rfl,ho0,hb⟩;refine⟨_,rfl,?_⟩;have n0_:=QA (Kd.R_lower ho0 (Qea qq_b));have n1_:=QA (Qdg (g:=gb757) (o:=.cells #[.int .u8 a0_0,.int .u32 a0_1] 27 (0,0)) qq_0 hb);have n2_:=QA (Qeb qq_b hb);clear BK757 HB;have HO762:=n0_;have BK757:=n1_;have HB:=n2_;clear n0_ n1_ n2_;(try clear hb);(try clear hb2);(try clear hk);(try clear hi);(try clear ho0);have hcz97_0:=qq_c (.int .u8 a0_0) BK757.out 0 rfl;have hcz97_1:=qq_c (.int .u32 a0_1) BK757.out 1 rfl;have hfz97_0:=Qcu BK757.out 0;have hfz97_1:=Qcu BK757.out 1) |((with_reducible refine Qhd (f:=45) rfl ?_);refine Qfk (some 30) rfl rfl Tryz.func45 qq_5 rfl #[.agg #[.int .u8 a0_0,.int .u32 a0_1],.slice A1 l1.length c1] rfl qq_1 ?_;(with_reducible refine(Qbc.calls kj2 a0_0 a0_1 _ _ l1 t765 t768 t769 t770 _ ?side1 ?side2 A13.out).mono ?_);(case side1=>repeat(first|exact(Kd.C_below HR1.out HB.out) |(with_reducible refine Kd.C_alloc ?_ _) |(with_reducible refine Kd.C_drewN ?_ _) |(with_reducible refine Kd.C_drew ?_)));(case side2=>exact HC1.out);rintro e w98 ⟨v766,rfl,ho0,hb⟩;refine⟨_,rfl,?_⟩;have n0_:=QA (Kd.R_elder' qq_3 (Kd.R_base ho0) hb);have n1_:=QA (Kd.R_lower (Kd.R_new' ho0 (Kd.R_lt qq_3)) (Qea qq_b));have n2_:=QA (Qdg (g:=gb757) (o:=.cells #[.int .u8 a0_0,.int .u32 a0_1] 27 (0,0)) qq_0 hb);have n3_:=QA (Qeb qq_b hb);clear HO762 BK757 HB;have HO762:=n0_;have HO767:=n1_;have BK757:=n2_;have HB:=n3_;clear n0_ n1_ n2_ n3_;(try clear hb);(try clear hb2);(try clear hk);(try clear hi);(try clear ho0);have hcz99_0:=qq_c (.int .u8 a0_0) BK757.out 0 rfl;have hcz99_1:=qq_c (.int .u32 a0_1) BK757.out 1 rfl;have hfz99_0:=Qcu BK757.out 0;have hfz99_1:=Qcu BK757.out 1))
         go_ret
         exact⟨by first|rfl |(simp[Qhh,Qhi]<;>rfl) |(simp[*,Qhh,Qhi]<;>rfl),qq_b⟩
        ·rw[if_neg c94]at H
         have c94b0:(t764 == 1)=false:=beq_eq_false_iff_ne.mpr c94
         have c94b1:(t764 != 1)=true:=bne_iff_ne.mpr c94
         by_cases c100:t770=0
         ·rw[if_pos c100]at H
          have c100b0:(t770 == 0)=true:=beq_iff_eq.mpr c100
          have c100b1:(t770 != 0)=false:=bne_eq_false_iff_eq.mpr c100
          clear c100
          by_cases c101:t764=0
          ·rw[if_pos c101]at H
           have c101b0:(t764 == 0)=true:=beq_iff_eq.mpr c101
           have c101b1:(t764 != 0)=false:=bne_eq_false_iff_eq.mpr c101
           clear c101
           obtain rfl:=Option.some.inj H
           have hcz102_0:=qq_c (.int .u8 a0_0) BK757.out 0 rfl
           have hcz102_1:=qq_c (.int .u32 a0_1) BK757.out 1 rfl
           have hfz102_0:=Qcu BK757.out 0
           have hfz102_1:=Qcu BK757.out 1
           go_wp2_with (first |((with_reducible refine Qhd (f:=43) rfl ?_);refine Qfk (some 23) rfl rfl Tryz.func43 qq_5 rfl #[.agg #[.int .u8 a0_0,.int .u32 a0_1],.slice A1 l1.length c1] rfl qq_1 ?_;(with_reducible refine(Qbe.calls kj2 a0_0 a0_1 _ _ l1 t760 t763 t764 _ ?side1 ?side2 A12.out).mono ?_);(case side1=>repeat(first|exact(Kd.C_below HR1.out HB.out) |(with_reducible refine Kd.C_alloc ?_ _) |(with_reducible refine Kd.C_drewN ?_ _) |(with_reducible refine Kd.C_drew ?_)));(case side2=>exact HC1.out);rintro e w103 ⟨v761,rfl,ho0,hb⟩;refine⟨_,rfl,?_⟩;have n0_:=QA (Kd.R_lower ho0 (Qea qq_b));have n1_:=QA (Qdg (g:=gb757) (o:=.cells #[.int .u8 a0_0,.int .u32 a0_1] 27 (0,0)) qq_0 hb);have n2_:=QA (Qeb qq_b hb);clear BK757 HB;have HO762:=n0_;have BK757:=n1_;have HB:=n2_;clear n0_ n1_ n2_;(try clear hb);(try clear hb2);(try clear hk);(try clear hi);(try clear ho0);have hcz104_0:=qq_c (.int .u8 a0_0) BK757.out 0 rfl;have hcz104_1:=qq_c (.int .u32 a0_1) BK757.out 1 rfl;have hfz104_0:=Qcu BK757.out 0;have hfz104_1:=Qcu BK757.out 1) |((with_reducible refine Qhd (f:=45) rfl ?_);refine Qfk (some 30) rfl rfl Tryz.func45 qq_5 rfl #[.agg #[.int .u8 a0_0,.int .u32 a0_1],.slice A1 l1.length c1] rfl qq_1 ?_;(with_reducible refine(Qbc.calls kj2 a0_0 a0_1 _ _ l1 t765 t768 t769 t770 _ ?side1 ?side2 A13.out).mono ?_);(case side1=>repeat(first|exact(Kd.C_below HR1.out HB.out) |(with_reducible refine Kd.C_alloc ?_ _) |(with_reducible refine Kd.C_drewN ?_ _) |(with_reducible refine Kd.C_drew ?_)));(case side2=>exact HC1.out);rintro e w105 ⟨v766,rfl,ho0,hb⟩;refine⟨_,rfl,?_⟩;have n0_:=QA (Kd.R_elder' qq_3 (Kd.R_base ho0) hb);have n1_:=QA (Kd.R_lower (Kd.R_new' ho0 (Kd.R_lt qq_3)) (Qea qq_b));have n2_:=QA (Qdg (g:=gb757) (o:=.cells #[.int .u8 a0_0,.int .u32 a0_1] 27 (0,0)) qq_0 hb);have n3_:=QA (Qeb qq_b hb);clear HO762 BK757 HB;have HO762:=n0_;have HO767:=n1_;have BK757:=n2_;have HB:=n3_;clear n0_ n1_ n2_ n3_;(try clear hb);(try clear hb2);(try clear hk);(try clear hi);(try clear ho0);have hcz106_0:=qq_c (.int .u8 a0_0) BK757.out 0 rfl;have hcz106_1:=qq_c (.int .u32 a0_1) BK757.out 1 rfl;have hfz106_0:=Qcu BK757.out 0;have hfz106_1:=Qcu BK757.out 1;have hcv107:=Qcf (P:=Tryz.prog) Tryz.underlying52 Tryz.underlying5 Tryz.underlying9 (Kd.own_of_R HO762.out);have hcv108:=Qcf (P:=Tryz.prog) Tryz.underlying52 Tryz.underlying5 Tryz.underlying9 (Kd.own_of_R HO767.out)))
           go_ret
           exact⟨by first|rfl |(simp[Qhh,Qhi]<;>rfl) |(simp[*,Qhh,Qhi]<;>rfl),qq_b⟩
          ·rw[if_neg c101]at H
           have c101b0:(t764 == 0)=false:=beq_eq_false_iff_ne.mpr c101
           have c101b1:(t764 != 0)=true:=bne_iff_ne.mpr c101
           obtain rfl:=Option.some.inj H
           have hcz109_0:=qq_c (.int .u8 a0_0) BK757.out 0 rfl
           have hcz109_1:=qq_c (.int .u32 a0_1) BK757.out 1 rfl
           have hfz109_0:=Qcu BK757.out 0
           have hfz109_1:=Qcu BK757.out 1
           go_wp2_with (first |((with_reducible refine Qhd (f:=43) rfl ?_);refine Qfk (some 23) rfl rfl Tryz.func43 qq_5 rfl #[.agg #[.int .u8 a0_0,.int .u32 a0_1],.slice A1 l1.length c1] rfl qq_1 ?_;(with_reducible refine(Qbe.calls kj2 a0_0 a0_1 _ _ l1 t760 t763 t764 _ ?side1 ?side2 A12.out).mono ?_);(case side1=>repeat(first|exact(Kd.C_below HR1.out HB.out) |(with_reducible refine Kd.C_alloc ?_ _) |(with_reducible refine Kd.C_drewN ?_ _) |(with_reducible refine Kd.C_drew ?_)));(case side2=>exact HC1.out);rintro e w110 ⟨v761,rfl,ho0,hb⟩;refine⟨_,rfl,?_⟩;have n0_:=QA (Kd.R_lower ho0 (Qea qq_b));have n1_:=QA (Qdg (g:=gb757) (o:=.cells #[.int .u8 a0_0,.int .u32 a0_1] 27 (0,0)) qq_0 hb);have n2_:=QA (Qeb qq_b hb);clear BK757 HB;have HO762:=n0_;have BK757:=n1_;have HB:=n2_;clear n0_ n1_ n2_;(try clear hb);(try clear hb2);(try clear hk);(try clear hi);(try clear ho0);have hcz111_0:=qq_c (.int .u8 a0_0) BK757.out 0 rfl;have hcz111_1:=qq_c (.int .u32 a0_1) BK757.out 1 rfl;have hfz111_0:=Qcu BK757.out 0;have hfz111_1:=Qcu BK757.out 1) |((with_reducible refine Qhd (f:=45) rfl ?_);refine Qfk (some 30) rfl rfl Tryz.func45 qq_5 rfl #[.agg #[.int .u8 a0_0,.int .u32 a0_1],.slice A1 l1.length c1] rfl qq_1 ?_;(with_reducible refine(Qbc.calls kj2 a0_0 a0_1 _ _ l1 t765 t768 t769 t770 _ ?side1 ?side2 A13.out).mono ?_);(case side1=>repeat(first|exact(Kd.C_below HR1.out HB.out) |(with_reducible refine Kd.C_alloc ?_ _) |(with_reducible refine Kd.C_drewN ?_ _) |(with_reducible refine Kd.C_drew ?_)));(case side2=>exact HC1.out);rintro e w112 ⟨v766,rfl,ho0,hb⟩;refine⟨_,rfl,?_⟩;have n0_:=QA (Kd.R_elder' qq_3 (Kd.R_base ho0) hb);have n1_:=QA (Kd.R_lower (Kd.R_new' ho0 (Kd.R_lt qq_3)) (Qea qq_b));have n2_:=QA (Qdg (g:=gb757) (o:=.cells #[.int .u8 a0_0,.int .u32 a0_1] 27 (0,0)) qq_0 hb);have n3_:=QA (Qeb qq_b hb);clear HO762 BK757 HB;have HO762:=n0_;have HO767:=n1_;have BK757:=n2_;have HB:=n3_;clear n0_ n1_ n2_ n3_;(try clear hb);(try clear hb2);(try clear hk);(try clear hi);(try clear ho0);have hcz113_0:=qq_c (.int .u8 a0_0) BK757.out 0 rfl;have hcz113_1:=qq_c (.int .u32 a0_1) BK757.out 1 rfl;have hfz113_0:=Qcu BK757.out 0;have hfz113_1:=Qcu BK757.out 1))
           go_ret
           exact⟨by first|rfl |(simp[Qhh,Qhi]<;>rfl) |(simp[*,Qhh,Qhi]<;>rfl),qq_b⟩
         ·rw[if_neg c100]at H
          have c100b0:(t770 == 0)=false:=beq_eq_false_iff_ne.mpr c100
          have c100b1:(t770 != 0)=true:=bne_iff_ne.mpr c100
          obtain rfl:=Option.some.inj H
          have hcz114_0:=qq_c (.int .u8 a0_0) BK757.out 0 rfl
          have hcz114_1:=qq_c (.int .u32 a0_1) BK757.out 1 rfl
          have hfz114_0:=Qcu BK757.out 0
          have hfz114_1:=Qcu BK757.out 1
          go_wp2_with (first |((with_reducible refine Qhd (f:=43) rfl ?_);refine Qfk (some 23) rfl rfl Tryz.func43 qq_5 rfl #[.agg #[.int .u8 a0_0,.int .u32 a0_1],.slice A1 l1.length c1] rfl qq_1 ?_;(with_reducible refine(Qbe.calls kj2 a0_0 a0_1 _ _ l1 t760 t763 t764 _ ?side1 ?side2 A12.out).mono ?_);(case side1=>repeat(first|exact(Kd.C_below HR1.out HB.out) |(with_reducible refine Kd.C_alloc ?_ _) |(with_reducible refine Kd.C_drewN ?_ _) |(with_reducible refine Kd.C_drew ?_)));(case side2=>exact HC1.out);rintro e w115 ⟨v761,rfl,ho0,hb⟩;refine⟨_,rfl,?_⟩;have n0_:=QA (Kd.R_lower ho0 (Qea qq_b));have n1_:=QA (Qdg (g:=gb757) (o:=.cells #[.int .u8 a0_0,.int .u32 a0_1] 27 (0,0)) qq_0 hb);have n2_:=QA (Qeb qq_b hb);clear BK757 HB;have HO762:=n0_;have BK757:=n1_;have HB:=n2_;clear n0_ n1_ n2_;(try clear hb);(try clear hb2);(try clear hk);(try clear hi);(try clear ho0);have hcz116_0:=qq_c (.int .u8 a0_0) BK757.out 0 rfl;have hcz116_1:=qq_c (.int .u32 a0_1) BK757.out 1 rfl;have hfz116_0:=Qcu BK757.out 0;have hfz116_1:=Qcu BK757.out 1) |((with_reducible refine Qhd (f:=45) rfl ?_);refine Qfk (some 30) rfl rfl Tryz.func45 qq_5 rfl #[.agg #[.int .u8 a0_0,.int .u32 a0_1],.slice A1 l1.length c1] rfl qq_1 ?_;(with_reducible refine(Qbc.calls kj2 a0_0 a0_1 _ _ l1 t765 t768 t769 t770 _ ?side1 ?side2 A13.out).mono ?_);(case side1=>repeat(first|exact(Kd.C_below HR1.out HB.out) |(with_reducible refine Kd.C_alloc ?_ _) |(with_reducible refine Kd.C_drewN ?_ _) |(with_reducible refine Kd.C_drew ?_)));(case side2=>exact HC1.out);rintro e w117 ⟨v766,rfl,ho0,hb⟩;refine⟨_,rfl,?_⟩;have n0_:=QA (Kd.R_elder' qq_3 (Kd.R_base ho0) hb);have n1_:=QA (Kd.R_lower (Kd.R_new' ho0 (Kd.R_lt qq_3)) (Qea qq_b));have n2_:=QA (Qdg (g:=gb757) (o:=.cells #[.int .u8 a0_0,.int .u32 a0_1] 27 (0,0)) qq_0 hb);have n3_:=QA (Qeb qq_b hb);clear HO762 BK757 HB;have HO762:=n0_;have HO767:=n1_;have BK757:=n2_;have HB:=n3_;clear n0_ n1_ n2_ n3_;(try clear hb);(try clear hb2);(try clear hk);(try clear hi);(try clear ho0);have hcz118_0:=qq_c (.int .u8 a0_0) BK757.out 0 rfl;have hcz118_1:=qq_c (.int .u32 a0_1) BK757.out 1 rfl;have hfz118_0:=Qcu BK757.out 0;have hfz118_1:=Qcu BK757.out 1))
          go_ret
          exact⟨by first|rfl |(simp[Qhh,Qhi]<;>rfl) |(simp[*,Qhh,Qhi]<;>rfl),qq_b⟩
end Go.Proofs.YtnnofopfbeklbaaGreat.C
end
