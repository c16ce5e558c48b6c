/- Texts of this claim's author and of the print of its functions, merged by merge.py. -/
import Derived.Test.YtnnofopfbeklbaaGreatMI02
import Derived.Test.YtnnofopfbeklbaaGreatMI17
import Derived.Test.YtnnofopfbeklbaaGreatMI15
set_option linter.unusedVariables false
set_option linter.unusedSimpArgs false
set_option maxHeartbeats 8000000
set_option maxRecDepth 100000
section
namespace Go.Proofs.YtnnofopfbeklbaaGreat.C
open Go.RowKit Go.Proofs.YtnnofopfbeklbaaGreatW.PrintWords Go.Proofs.YtnnofopfbeklbaaGreatW.PrintLast Go.Proofs.YtnnofopfbeklbaaGreatW.PrintMore
attribute [local go_sem] Qgv Qgw Qgx Qgy Qgz Qha Qhb Qhc
def Qas.f(k:Nat)  : Option (Bool):=(Qbe.f k 12 1 ([]:List Int)).bind fun bt737=>((Qaq.f).bind fun t742=>(if t742=true then(if(bt737.1.length:Int)=0 then(if bt737.2.1=0 then(some (bt737.2.2 == 0))else(some false))else(some false))else(some false)))
theorem Qas.calls(k:Nat) (r:Bool)(w:World)(h:Qas.f k  = some r) :
  Calls Tryz.prog 42 #[] w fun e w'=>e=.returned (.bool r)∧Below w.heap.size w w':=by
 have hu27:=Tryz.underlying27
 have HB:=QA (Below.refl w.heap.size w)
 have H:((Qbe.f k 12 1 ([]:List Int)).bind fun bt737=>((Qaq.f).bind fun t742=>(if t742=true then(if(bt737.1.length:Int)=0 then(if bt737.2.1=0 then(some (bt737.2.2 == 0))else(some false))else(some false))else(some false))))=some r:=h
 clear h
 replace H:=Option.bind_eq_some_iff.mp H
 obtain⟨⟨t737,t740,t741⟩,A10,H⟩:=H
 replace H:((Qaq.f).bind fun t742=>(if t742=true then(if(t737.length:Int)=0 then(if t740=0 then(some (t741 == 0))else(some false))else(some false))else(some false)))=some r:=H
 have A1:=QA A10
 clear A10
 replace H:=Option.bind_eq_some_iff.mp H
 obtain⟨t742,A20,H⟩:=H
 replace H:(if t742=true then(if(t737.length:Int)=0 then(if t740=0 then(some (t741 == 0))else(some false))else(some false))else(some false))=some r:=H
 have A2:=QA A20
 clear A20
 by_cases c3:t742=true
 ·subst c3
  have H1:(if(t737.length:Int)=0 then(if t740=0 then(some (t741 == 0))else(some false))else(some false))=some r:=by rw[if_pos rfl]at H;exact H
  clear H
  have H:=H1
  clear H1
  by_cases c4:(t737.length:Int)=0
  ·rw[if_pos c4]at H
   have c4b0:((t737.length:Int) == 0)=true:=beq_iff_eq.mpr c4
   have c4b1:((t737.length:Int) != 0)=false:=bne_eq_false_iff_eq.mpr c4
   clear c4
   by_cases c5:t740=0
   ·rw[if_pos c5]at H
    have c5b0:(t740 == 0)=true:=beq_iff_eq.mpr c5
    have c5b1:(t740 != 0)=false:=bne_eq_false_iff_eq.mpr c5
    clear c5
    obtain rfl:=Option.some.inj H
    go_enter Tryz.func42,Tryz.ntmps42
    go_wp2_with (first |((with_reducible refine Qhd (f:=43) rfl ?_);refine Qfk (some 6) rfl rfl Tryz.func43 qq_5 rfl #[.agg #[.int .u8 12,.int .u32 1],.slice none 0 0] rfl qq_1 ?_;(refine(Qbe.calls k 12 1 _ _ ([]:List Int) t737 t740 t741 _ ?side1 ?side2 A1.out).mono ?_);(case side1=>exact Kd.C_nil _ _);(case side2=>exact Nat.le_refl _);rintro e w6 ⟨v738,rfl,ho0,hb⟩;refine⟨_,rfl,?_⟩;have n0_:=QA (Kd.R_lower ho0 (Qea qq_b));have n1_:=QA (Qeb qq_b hb);clear HB;have HO739:=n0_;have HB:=n1_;clear n0_ n1_;(try clear hb);(try clear hb2);(try clear hk);(try clear hi);(try clear ho0)) |((with_reducible refine Qhd (f:=32) rfl ?_);refine Qfk (some 10) rfl rfl Tryz.func32 qq_5 rfl #[] rfl qq_1 ?_;(with_reducible refine(Qaq.calls  true _ A2.out).mono ?_);rintro e w7 ⟨rfl,hb⟩;refine⟨_,rfl,?_⟩;have n0_:=QA (Kd.R_below qq_3 hb);have n1_:=QA (Qeb qq_b hb);clear HO739 HB;have HO739:=n0_;have HB:=n1_;clear n0_ n1_;(try clear hb);(try clear hb2);(try clear hk);(try clear hi);obtain⟨Ao8,co8,eo8⟩:=Kd.R_slice HO739.out;subst eo8))
    go_ret
    exact⟨by first|rfl |(simp[Qhh,Qhi]<;>rfl) |(simp[*,Qhh,Qhi]<;>rfl),qq_b⟩
   ·rw[if_neg c5]at H
    have c5b0:(t740 == 0)=false:=beq_eq_false_iff_ne.mpr c5
    have c5b1:(t740 != 0)=true:=bne_iff_ne.mpr c5
    obtain rfl:=Option.some.inj H
    go_enter Tryz.func42,Tryz.ntmps42
    go_wp2_with (first |((with_reducible refine Qhd (f:=43) rfl ?_);refine Qfk (some 6) rfl rfl Tryz.func43 qq_5 rfl #[.agg #[.int .u8 12,.int .u32 1],.slice none 0 0] rfl qq_1 ?_;(refine(Qbe.calls k 12 1 _ _ ([]:List Int) t737 t740 t741 _ ?side1 ?side2 A1.out).mono ?_);(case side1=>exact Kd.C_nil _ _);(case side2=>exact Nat.le_refl _);rintro e w9 ⟨v738,rfl,ho0,hb⟩;refine⟨_,rfl,?_⟩;have n0_:=QA (Kd.R_lower ho0 (Qea qq_b));have n1_:=QA (Qeb qq_b hb);clear HB;have HO739:=n0_;have HB:=n1_;clear n0_ n1_;(try clear hb);(try clear hb2);(try clear hk);(try clear hi);(try clear ho0)) |((with_reducible refine Qhd (f:=32) rfl ?_);refine Qfk (some 10) rfl rfl Tryz.func32 qq_5 rfl #[] rfl qq_1 ?_;(with_reducible refine(Qaq.calls  true _ A2.out).mono ?_);rintro e w10 ⟨rfl,hb⟩;refine⟨_,rfl,?_⟩;have n0_:=QA (Kd.R_below qq_3 hb);have n1_:=QA (Qeb qq_b hb);clear HO739 HB;have HO739:=n0_;have HB:=n1_;clear n0_ n1_;(try clear hb);(try clear hb2);(try clear hk);(try clear hi);obtain⟨Ao11,co11,eo11⟩:=Kd.R_slice HO739.out;subst eo11))
    go_ret
    exact⟨by first|rfl |(simp[Qhh,Qhi]<;>rfl) |(simp[*,Qhh,Qhi]<;>rfl),qq_b⟩
  ·rw[if_neg c4]at H
   have c4b0:((t737.length:Int) == 0)=false:=beq_eq_false_iff_ne.mpr c4
   have c4b1:((t737.length:Int) != 0)=true:=bne_iff_ne.mpr c4
   have c4b2:¬(t737=[]):=fun h_=>c4 (by rw[h_];rfl)
   obtain rfl:=Option.some.inj H
   go_enter Tryz.func42,Tryz.ntmps42
   go_wp2_with (first |((with_reducible refine Qhd (f:=43) rfl ?_);refine Qfk (some 6) rfl rfl Tryz.func43 qq_5 rfl #[.agg #[.int .u8 12,.int .u32 1],.slice none 0 0] rfl qq_1 ?_;(refine(Qbe.calls k 12 1 _ _ ([]:List Int) t737 t740 t741 _ ?side1 ?side2 A1.out).mono ?_);(case side1=>exact Kd.C_nil _ _);(case side2=>exact Nat.le_refl _);rintro e w12 ⟨v738,rfl,ho0,hb⟩;refine⟨_,rfl,?_⟩;have n0_:=QA (Kd.R_lower ho0 (Qea qq_b));have n1_:=QA (Qeb qq_b hb);clear HB;have HO739:=n0_;have HB:=n1_;clear n0_ n1_;(try clear hb);(try clear hb2);(try clear hk);(try clear hi);(try clear ho0)) |((with_reducible refine Qhd (f:=32) rfl ?_);refine Qfk (some 10) rfl rfl Tryz.func32 qq_5 rfl #[] rfl qq_1 ?_;(with_reducible refine(Qaq.calls  true _ A2.out).mono ?_);rintro e w13 ⟨rfl,hb⟩;refine⟨_,rfl,?_⟩;have n0_:=QA (Kd.R_below qq_3 hb);have n1_:=QA (Qeb qq_b hb);clear HO739 HB;have HO739:=n0_;have HB:=n1_;clear n0_ n1_;(try clear hb);(try clear hb2);(try clear hk);(try clear hi);obtain⟨Ao14,co14,eo14⟩:=Kd.R_slice HO739.out;subst eo14))
   go_ret
   exact⟨by first|rfl |(simp[Qhh,Qhi]<;>rfl) |(simp[*,Qhh,Qhi]<;>rfl),qq_b⟩
 ·replace c3:=Bool.eq_false_iff.mpr c3
  subst c3
  have H1:(some false)=some r:=by rw[if_neg (show ¬(false=true)by decide)]at H;exact H
  clear H
  have H:=H1
  clear H1
  obtain rfl:=Option.some.inj H
  go_enter Tryz.func42,Tryz.ntmps42
  go_wp2_with (first |((with_reducible refine Qhd (f:=43) rfl ?_);refine Qfk (some 6) rfl rfl Tryz.func43 qq_5 rfl #[.agg #[.int .u8 12,.int .u32 1],.slice none 0 0] rfl qq_1 ?_;(refine(Qbe.calls k 12 1 _ _ ([]:List Int) t737 t740 t741 _ ?side1 ?side2 A1.out).mono ?_);(case side1=>exact Kd.C_nil _ _);(case side2=>exact Nat.le_refl _);rintro e w15 ⟨v738,rfl,ho0,hb⟩;refine⟨_,rfl,?_⟩;have n0_:=QA (Kd.R_lower ho0 (Qea qq_b));have n1_:=QA (Qeb qq_b hb);clear HB;have HO739:=n0_;have HB:=n1_;clear n0_ n1_;(try clear hb);(try clear hb2);(try clear hk);(try clear hi);(try clear ho0)) |((with_reducible refine Qhd (f:=32) rfl ?_);refine Qfk (some 10) rfl rfl Tryz.func32 qq_5 rfl #[] rfl qq_1 ?_;(with_reducible refine(Qaq.calls  false _ A2.out).mono ?_);rintro e w16 ⟨rfl,hb⟩;refine⟨_,rfl,?_⟩;have n0_:=QA (Kd.R_below qq_3 hb);have n1_:=QA (Qeb qq_b hb);clear HO739 HB;have HO739:=n0_;have HB:=n1_;clear n0_ n1_;(try clear hb);(try clear hb2);(try clear hk);(try clear hi)))
  go_ret
  exact⟨by first|rfl |(simp[Qhh,Qhi]<;>rfl) |(simp[*,Qhh,Qhi]<;>rfl),qq_b⟩
def Qbc.f(k:Nat)(a0_0:Int)(a0_1:Int)(l1:List Int):Option (List Int × Int × Int × Int):=(Qal.f a0_0 a0_1).bind fun t744=>(if t744=0 then((Qan.f l1).bind fun bt745=>((Qbd.f k bt745.1).bind fun t750=>((Qba.f k a0_0 a0_1 t750).bind fun bt753=>(if bt753.2=0 then(some (bt753.1,(bt745.1.length:Int),bt745.2.1,0))else(some (([]:List Int),0,0,bt753.2))))))else(some (([]:List Int),0,0,t744)))
def Qbc.T5:Bool × List (List Nat × List Nat):=(true,[([],[]),([],[]),([1],[1]),([0,2,2],[0,2]),([3],[3]),([4],[4]),([4],[4]),([5,3,0,1,2,3,4,5],[5]),([6,7,0,1,2,3,4,5,6,7],[6])])
def Qbc.B5:List Nat:=[0,0,2,7,15,31,31,63,255]
theorem Qbc.tab5:rtab .any (Qgr Tryz.f45 5)=Qbc.T5:=by kernel_rfl
theorem Qbc.bits5:Qgl Qbc.T5.2 Qbc.B5=true:=by kernel_rfl
theorem Qbc.calls(k:Nat)(a0_0:Int)(a0_1:Int)(A1:Option Addr)(c1:Nat)(l1:List Int)(r1:List Int)(r2:Int)(r3:Int)(r4:Int)(w:World)(hr1:Kd.C (Kd.int .u8) w A1 l1.length l1)(hc1:l1.length≤c1)(h:Qbc.f k a0_0 a0_1 l1=some (r1,r2,r3,r4)) :
  Calls Tryz.prog 45 #[.agg #[.int .u8 a0_0,.int .u32 a0_1],.slice A1 l1.length c1] w fun e w'=>∃v0_:Value,e=.returned (.tuple #[v0_,.int .i64 r2,.int .i64 r3,.int .i64 r4])∧Kd.R (Kd.int .u8) 5 w' w.heap.size (fun _=>True) v0_ r1∧Below w.heap.size w w':=by
 have hu27:=Tryz.underlying27
 have HR1:=QA hr1
 have HC1:=QA hc1
 clear hr1 hc1
 have HB:=QA (Below.refl w.heap.size w)
 have H:((Qal.f a0_0 a0_1).bind fun t744=>(if t744=0 then((Qan.f l1).bind fun bt745=>((Qbd.f k bt745.1).bind fun t750=>((Qba.f k a0_0 a0_1 t750).bind fun bt753=>(if bt753.2=0 then(some (bt753.1,(bt745.1.length:Int),bt745.2.1,0))else(some (([]:List Int),0,0,bt753.2))))))else(some (([]:List Int),0,0,t744))))=some (r1,r2,r3,r4):=h
 clear h
 replace H:=Option.bind_eq_some_iff.mp H
 obtain⟨t744,A30,H⟩:=H
 replace H:(if t744=0 then((Qan.f l1).bind fun bt745=>((Qbd.f k bt745.1).bind fun t750=>((Qba.f k a0_0 a0_1 t750).bind fun bt753=>(if bt753.2=0 then(some (bt753.1,(bt745.1.length:Int),bt745.2.1,0))else(some (([]:List Int),0,0,bt753.2))))))else(some (([]:List Int),0,0,t744)))=some (r1,r2,r3,r4):=H
 have A3:=QA A30
 clear A30
 by_cases c4:t744=0
 ·rw[if_pos c4]at H
  have c4b0:(t744 == 0)=true:=beq_iff_eq.mpr c4
  have c4b1:(t744 != 0)=false:=bne_eq_false_iff_eq.mpr c4
  clear c4
  replace H:=Option.bind_eq_some_iff.mp H
  obtain⟨⟨t745,t746,t747⟩,A50,H⟩:=H
  replace H:((Qbd.f k t745).bind fun t750=>((Qba.f k a0_0 a0_1 t750).bind fun bt753=>(if bt753.2=0 then(some (bt753.1,(t745.length:Int),t746,0))else(some (([]:List Int),0,0,bt753.2)))))=some (r1,r2,r3,r4):=H
  have A5:=QA A50
  clear A50
  replace H:=Option.bind_eq_some_iff.mp H
  obtain⟨t750,A60,H⟩:=H
  replace H:((Qba.f k a0_0 a0_1 t750).bind fun bt753=>(if bt753.2=0 then(some (bt753.1,(t745.length:Int),t746,0))else(some (([]:List Int),0,0,bt753.2))))=some (r1,r2,r3,r4):=H
  have A6:=QA A60
  clear A60
  replace H:=Option.bind_eq_some_iff.mp H
  obtain⟨⟨t753,t756⟩,A70,H⟩:=H
  replace H:(if t756=0 then(some (t753,(t745.length:Int),t746,0))else(some (([]:List Int),0,0,t756)))=some (r1,r2,r3,r4):=H
  have A7:=QA A70
  clear A70
  by_cases c8:t756=0
  ·rw[if_pos c8]at H
   have c8b0:(t756 == 0)=true:=beq_iff_eq.mpr c8
   have c8b1:(t756 != 0)=false:=bne_eq_false_iff_eq.mpr c8
   clear c8
   simp only[Option.some.injEq,Prod.mk.injEq]at H
   obtain⟨rfl,rfl,rfl,rfl⟩:=H
   go_enter Tryz.func45,Tryz.ntmps45
   try go_wp2_with (first |((with_reducible refine Qel (N:=2) rfl ?_);refine qq_e 2 #[.int .u8 a0_0,.int .u32 a0_1] 27 ?_;intro gb743 hg w9 hbox hb;have n0_:=QA (Qeb qq_b hb);have n1_:=QA (hbox);have n2_:=QA (qq_s hg:w.heap.size≤gb743);have n3_:=n2_;clear HB;have HB:=n0_;have BK743:=n1_;have GW743:=n2_;have GE743:=n3_;clear n0_ n1_ n2_ n3_ hb hbox hg;have hcz10_0:=qq_c (.int .u8 a0_0) BK743.out 0 rfl;have hcz10_1:=qq_c (.int .u32 a0_1) BK743.out 1 rfl;have hfz10_0:=Qcu BK743.out 0;have hfz10_1:=Qcu BK743.out 1) |((with_reducible refine Qhd (f:=85) rfl ?_);refine Qfk (some 12) rfl rfl Tryz.func85 qq_5 rfl #[.agg #[.int .u8 a0_0,.int .u32 a0_1]] rfl qq_1 ?_;(with_reducible refine(Qal.calls a0_0 a0_1 t744 _ A3.out).mono ?_);rintro e w11 ⟨rfl,hb⟩;refine⟨_,rfl,?_⟩;have n0_:=QA (Qdg (g:=gb743) (o:=.cells #[.int .u8 a0_0,.int .u32 a0_1] 27 (0,0)) qq_0 hb);have n1_:=QA (Qeb qq_b hb);clear BK743 HB;have BK743:=n0_;have HB:=n1_;clear n0_ n1_;(try clear hb);(try clear hb2);(try clear hk);(try clear hi)) |((with_reducible refine Qhd (f:=86) rfl ?_);refine Qfk (some 18) rfl rfl Tryz.func86 qq_5 rfl #[.slice A1 l1.length c1] rfl qq_1 ?_;(with_reducible refine(Qan.calls _ _ l1 t745 t746 t747 _ ?side1 ?side2 A5.out).mono ?_);(case side1=>repeat(first|exact(Kd.C_below HR1.out HB.out) |(with_reducible refine Kd.C_alloc ?_ _) |(with_reducible refine Kd.C_drewN ?_ _) |(with_reducible refine Kd.C_drew ?_)));(case side2=>exact HC1.out);rintro e w12 ⟨v748,rfl,ho0,hb⟩;refine⟨_,rfl,?_⟩;have n0_:=QA (Kd.R_lower ho0 (Qea qq_b));have n1_:=QA (Qdg (g:=gb743) (o:=.cells #[.int .u8 a0_0,.int .u32 a0_1] 27 (0,0)) qq_0 hb);have n2_:=QA (Qeb qq_b hb);clear BK743 HB;have HO749:=n0_;have BK743:=n1_;have HB:=n2_;clear n0_ n1_ n2_;(try clear hb);(try clear hb2);(try clear hk);(try clear hi);(try clear ho0)))
   have n0_:=QA (Kd.R_drew HO749.out)
   have n1_:=QA (Qde BK743.out)
   have n2_:=QA (Qeh HB.out)
   clear HO749 BK743 HB
   have HO749:=n0_
   have BK743:=n1_
   have HB:=n2_
   clear n0_ n1_ n2_
   obtain⟨Ao14,co14,eo14⟩:=Kd.R_slice HO749.out
   (first|subst eo14 |(injection eo14 with f1_ f2_ f3_;have f4_:=f1_.symm;have f5_:=f3_.symm;clear f1_ f2_ f3_;subst f4_;subst f5_))
   refine Qey (n:=9) (S:=fun w'=>w'.cell? ⟨gb743,0,none⟩=some (.int .u8 a0_0)∧w'.cell? ⟨gb743,1,none⟩=some (.int .u32 a0_1)) (ds:=[]) #[false,false,false,false,false,false,false,false,false] qq_5 rfl rfl ⟨(Qct BK743.out 0).trans rfl,(Qct BK743.out 1).trans rfl⟩ (fun hHeld=>?_);refine Qgp Qbc.tab5 Qbc.bits5 (fun HT_ HW_=>?_)
   generalize w12.drew=w13 at HO749 BK743 HB hHeld ⊢
   refine Qfb (i:=1) (N:=some 24) (v:=?_) (a':=?_) #[false,true,false,false,false,false,false,false,false] rfl rfl (Qgi HT_.out qq_5) (fun _ _ _ h=>h) (Or.inl ⟨by rfl,?_⟩) ?_ ?_
   rotate_left
   ·intro w'
    go_simp
    with_reducible rfl
   rotate_left
   ·exact qq_4
   refine Qfa (i:=0) (N:=some 23) (v:=?_) (a':=?_) #[true,true,false,false,false,false,false,false,false] rfl rfl (Qgo HT_.out HW_.out qq_5) (fun _ _ _ h=>h) (Or.inl ⟨by rfl,?_⟩) hHeld ?_ ?_
   rotate_left
   ·rintro w' ⟨s0,s1⟩
    go_simp
    with_reducible rfl
   rotate_left
   ·exact qq_4
   refine one_ (i:=2) (N:=some 25) #[true,true,true,false,false,false,false,false,false] rfl rfl (Qgj HT_.out qq_5) (by decide) (fun K hK=>?_)
   refine Qfj Tryz.func87 qq_5 rfl #[.slice Ao14 t745.length co14] (by rfl) rfl rfl qq_1 ?_
   with_reducible refine(Qbd.calls k _ _ t745 t750 _ ?side1 ?side2 A6.out).mono ?_
   (case side1=>repeat(first|exact(Kd.R_reads' HO749.out).2.2 |(with_reducible refine Kd.C_alloc ?_ _) |(with_reducible refine Kd.C_drewN ?_ _) |(with_reducible refine Kd.C_drew ?_)))
   (case side2=>exact(Kd.R_reads' HO749.out).2.1)
   rintro e w15 ⟨v751,rfl,ho0,hb⟩
   refine⟨_,rfl,?_⟩
   have n0_:=QA (Kd.R_below qq_3 hb)
   have n1_:=QA (Kd.R_lower ho0 (Qea qq_b))
   have n2_:=QA (Qdg (g:=gb743) (o:=.cells #[.int .u8 a0_0,.int .u32 a0_1] 27 (0,0)) qq_0 hb)
   have n3_:=QA (Qeb qq_b hb)
   clear HO749 BK743 HB
   have HO749:=n0_
   have HO752:=n1_
   have BK743:=n2_
   have HB:=n3_
   clear n0_ n1_ n2_ n3_
   (try clear hb)
   (try clear hb2)
   (try clear hk)
   (try clear hi)
   (try clear ho0)
   obtain⟨Ao16,co16,eo16⟩:=Kd.R_slice HO752.out
   (first|subst eo16 |(injection eo16 with f1_ f2_ f3_;have f4_:=f1_.symm;have f5_:=f3_.symm;clear f1_ f2_ f3_;subst f4_;subst f5_))
   refine hK.out _ _ ⟨(Qct BK743.out 0).trans rfl,(Qct BK743.out 1).trans rfl⟩ (fun hHeld=>?_)
   clear hK K
   refine Qfh (a':=?_) ?_ ?_
   rotate_left
   ·show Act.put _ (some 25) _=_
    simp only[Act.put,List.setIfInBounds_toArray,List.set_cons_zero,List.set_cons_succ,Qfm,Qfn]
    rfl
   refine one_ (i:=3) (N:=some 26) #[true,true,true,true,false,false,false,false,false] rfl rfl (Qgj HT_.out qq_5) (by decide) (fun K hK=>?_)
   refine Qfj Tryz.func33 qq_5 rfl #[.agg #[.int .u8 a0_0,.int .u32 a0_1],.slice Ao16 t750.length co16] (by rfl) rfl rfl qq_1 ?_
   with_reducible refine(Qba.calls k a0_0 a0_1 _ _ t750 t753 t756 _ ?side1 ?side2 A7.out).mono ?_
   (case side1=>repeat(first|exact(Kd.R_reads' HO752.out).2.2 |(with_reducible refine Kd.C_alloc ?_ _) |(with_reducible refine Kd.C_drewN ?_ _) |(with_reducible refine Kd.C_drew ?_)))
   (case side2=>exact(Kd.R_reads' HO752.out).2.1)
   rintro e w17 ⟨v754,rfl,ho0,hb⟩
   refine⟨_,rfl,?_⟩
   have n0_:=QA (Kd.R_below qq_3 hb)
   have n1_:=QA (Kd.R_below qq_3 hb)
   have n2_:=QA (Kd.R_lower ho0 (Qea qq_b))
   have n3_:=QA (Qdg (g:=gb743) (o:=.cells #[.int .u8 a0_0,.int .u32 a0_1] 27 (0,0)) qq_0 hb)
   have n4_:=QA (Qeb qq_b hb)
   clear HO749 HO752 BK743 HB
   have HO749:=n0_
   have HO752:=n1_
   have HO755:=n2_
   have BK743:=n3_
   have HB:=n4_
   clear n0_ n1_ n2_ n3_ n4_
   (try clear hb)
   (try clear hb2)
   (try clear hk)
   (try clear hi)
   (try clear ho0)
   refine hK.out _ _ ⟨(Qct BK743.out 0).trans rfl,(Qct BK743.out 1).trans rfl⟩ (fun hHeld=>?_)
   clear hK K
   refine Qfh (a':=?_) ?_ ?_
   rotate_left
   ·show Act.put _ (some 26) _=_
    simp only[Act.put,List.setIfInBounds_toArray,List.set_cons_zero,List.set_cons_succ,Qfm,Qfn]
    rfl
   refine Qfb (i:=4) (N:=some 22) (v:=?_) (a':=?_) #[true,true,true,true,true,false,false,false,false] rfl rfl (Qgi HT_.out qq_5) (fun _ _ _ h=>h) (Or.inl ⟨by rfl,?_⟩) ?_ ?_
   rotate_left
   ·intro w'
    go_simp
    with_reducible rfl
   rotate_left
   ·exact qq_4
   refine Qfb (i:=5) (N:=some 27) (v:=?_) (a':=?_) #[true,true,true,true,true,true,false,false,false] rfl rfl (Qgi HT_.out qq_5) (fun _ _ _ h=>h) (Or.inl ⟨by rfl,?_⟩) ?_ ?_
   rotate_left
   ·intro w'
    go_simp
    with_reducible rfl
   rotate_left
   ·exact qq_4
   refine Qfb (i:=6) (N:=some 28) (v:=?_) (a':=?_) #[true,true,true,true,true,true,true,false,false] rfl rfl (Qgi HT_.out qq_5) (fun _ _ _ h=>h) (Or.inl ⟨by rfl,?_⟩) ?_ ?_
   rotate_left
   ·intro w'
    go_simp
    with_reducible rfl
   rotate_left
   ·exact qq_4
   refine Qfb (i:=7) (N:=some 4) (v:=?_) (a':=?_) #[true,true,true,true,true,true,true,true,false] rfl rfl (Qgi HT_.out qq_5) (fun _ _ _ h=>h) (Or.inl ⟨by rfl,?_⟩) ?_ ?_
   rotate_left
   ·intro w'
    go_simp
    with_reducible rfl
   rotate_left
   ·exact qq_4
   refine Qfb (i:=8) (N:=some 7) (v:=?_) (a':=?_) #[true,true,true,true,true,true,true,true,true] rfl rfl (Qgi HT_.out qq_5) (fun _ _ _ h=>h) (Or.inl ⟨by rfl,?_⟩) ?_ ?_
   rotate_left
   ·intro w'
    go_simp
    with_reducible rfl
   rotate_left
   ·exact qq_4
   refine Qfd (Qgk HT_.out qq_5) ?_
   try go_wp2
   refine bodyPost_ret (Qeo (rs:=[.tmp 4,.tmp 5,.tmp 6,.tmp 7]) rfl (by simp) (.tmp (.tmp (.tmp (.tmp .nil))))) rfl ?_
   exact⟨_,by first|rfl |(simp[Qhh,Qhi]<;>rfl) |(simp[*,Qhh,Qhi]<;>rfl),by(with_reducible repeat(first|apply Kd.R_alloc|apply Kd.R_drewN|apply Kd.R_drew));exact HO755.out,qq_b⟩
  ·rw[if_neg c8]at H
   have c8b0:(t756 == 0)=false:=beq_eq_false_iff_ne.mpr c8
   have c8b1:(t756 != 0)=true:=bne_iff_ne.mpr c8
   simp only[Option.some.injEq,Prod.mk.injEq]at H
   obtain⟨rfl,rfl,rfl,rfl⟩:=H
   go_enter Tryz.func45,Tryz.ntmps45
   try go_wp2_with (first |((with_reducible refine Qel (N:=2) rfl ?_);refine qq_e 2 #[.int .u8 a0_0,.int .u32 a0_1] 27 ?_;intro gb743 hg w18 hbox hb;have n0_:=QA (Qeb qq_b hb);have n1_:=QA (hbox);have n2_:=QA (qq_s hg:w.heap.size≤gb743);have n3_:=n2_;clear HB;have HB:=n0_;have BK743:=n1_;have GW743:=n2_;have GE743:=n3_;clear n0_ n1_ n2_ n3_ hb hbox hg;have hcz19_0:=qq_c (.int .u8 a0_0) BK743.out 0 rfl;have hcz19_1:=qq_c (.int .u32 a0_1) BK743.out 1 rfl;have hfz19_0:=Qcu BK743.out 0;have hfz19_1:=Qcu BK743.out 1) |((with_reducible refine Qhd (f:=85) rfl ?_);refine Qfk (some 12) rfl rfl Tryz.func85 qq_5 rfl #[.agg #[.int .u8 a0_0,.int .u32 a0_1]] rfl qq_1 ?_;(with_reducible refine(Qal.calls a0_0 a0_1 t744 _ A3.out).mono ?_);rintro e w20 ⟨rfl,hb⟩;refine⟨_,rfl,?_⟩;have n0_:=QA (Qdg (g:=gb743) (o:=.cells #[.int .u8 a0_0,.int .u32 a0_1] 27 (0,0)) qq_0 hb);have n1_:=QA (Qeb qq_b hb);clear BK743 HB;have BK743:=n0_;have HB:=n1_;clear n0_ n1_;(try clear hb);(try clear hb2);(try clear hk);(try clear hi)) |((with_reducible refine Qhd (f:=86) rfl ?_);refine Qfk (some 18) rfl rfl Tryz.func86 qq_5 rfl #[.slice A1 l1.length c1] rfl qq_1 ?_;(with_reducible refine(Qan.calls _ _ l1 t745 t746 t747 _ ?side1 ?side2 A5.out).mono ?_);(case side1=>repeat(first|exact(Kd.C_below HR1.out HB.out) |(with_reducible refine Kd.C_alloc ?_ _) |(with_reducible refine Kd.C_drewN ?_ _) |(with_reducible refine Kd.C_drew ?_)));(case side2=>exact HC1.out);rintro e w21 ⟨v748,rfl,ho0,hb⟩;refine⟨_,rfl,?_⟩;have n0_:=QA (Kd.R_lower ho0 (Qea qq_b));have n1_:=QA (Qdg (g:=gb743) (o:=.cells #[.int .u8 a0_0,.int .u32 a0_1] 27 (0,0)) qq_0 hb);have n2_:=QA (Qeb qq_b hb);clear BK743 HB;have HO749:=n0_;have BK743:=n1_;have HB:=n2_;clear n0_ n1_ n2_;(try clear hb);(try clear hb2);(try clear hk);(try clear hi);(try clear ho0)))
   have n0_:=QA (Kd.R_drew HO749.out)
   have n1_:=QA (Qde BK743.out)
   have n2_:=QA (Qeh HB.out)
   clear HO749 BK743 HB
   have HO749:=n0_
   have BK743:=n1_
   have HB:=n2_
   clear n0_ n1_ n2_
   obtain⟨Ao23,co23,eo23⟩:=Kd.R_slice HO749.out
   (first|subst eo23 |(injection eo23 with f1_ f2_ f3_;have f4_:=f1_.symm;have f5_:=f3_.symm;clear f1_ f2_ f3_;subst f4_;subst f5_))
   refine Qey (n:=9) (S:=fun w'=>w'.cell? ⟨gb743,0,none⟩=some (.int .u8 a0_0)∧w'.cell? ⟨gb743,1,none⟩=some (.int .u32 a0_1)) (ds:=[]) #[false,false,false,false,false,false,false,false,false] qq_5 rfl rfl ⟨(Qct BK743.out 0).trans rfl,(Qct BK743.out 1).trans rfl⟩ (fun hHeld=>?_);refine Qgp Qbc.tab5 Qbc.bits5 (fun HT_ HW_=>?_)
   generalize w21.drew=w22 at HO749 BK743 HB hHeld ⊢
   refine Qfb (i:=1) (N:=some 24) (v:=?_) (a':=?_) #[false,true,false,false,false,false,false,false,false] rfl rfl (Qgi HT_.out qq_5) (fun _ _ _ h=>h) (Or.inl ⟨by rfl,?_⟩) ?_ ?_
   rotate_left
   ·intro w'
    go_simp
    with_reducible rfl
   rotate_left
   ·exact qq_4
   refine Qfa (i:=0) (N:=some 23) (v:=?_) (a':=?_) #[true,true,false,false,false,false,false,false,false] rfl rfl (Qgo HT_.out HW_.out qq_5) (fun _ _ _ h=>h) (Or.inl ⟨by rfl,?_⟩) hHeld ?_ ?_
   rotate_left
   ·rintro w' ⟨s0,s1⟩
    go_simp
    with_reducible rfl
   rotate_left
   ·exact qq_4
   refine one_ (i:=2) (N:=some 25) #[true,true,true,false,false,false,false,false,false] rfl rfl (Qgj HT_.out qq_5) (by decide) (fun K hK=>?_)
   refine Qfj Tryz.func87 qq_5 rfl #[.slice Ao23 t745.length co23] (by rfl) rfl rfl qq_1 ?_
   with_reducible refine(Qbd.calls k _ _ t745 t750 _ ?side1 ?side2 A6.out).mono ?_
   (case side1=>repeat(first|exact(Kd.R_reads' HO749.out).2.2 |(with_reducible refine Kd.C_alloc ?_ _) |(with_reducible refine Kd.C_drewN ?_ _) |(with_reducible refine Kd.C_drew ?_)))
   (case side2=>exact(Kd.R_reads' HO749.out).2.1)
   rintro e w24 ⟨v751,rfl,ho0,hb⟩
   refine⟨_,rfl,?_⟩
   have n0_:=QA (Kd.R_below qq_3 hb)
   have n1_:=QA (Kd.R_lower ho0 (Qea qq_b))
   have n2_:=QA (Qdg (g:=gb743) (o:=.cells #[.int .u8 a0_0,.int .u32 a0_1] 27 (0,0)) qq_0 hb)
   have n3_:=QA (Qeb qq_b hb)
   clear HO749 BK743 HB
   have HO749:=n0_
   have HO752:=n1_
   have BK743:=n2_
   have HB:=n3_
   clear n0_ n1_ n2_ n3_
   (try clear hb)
   (try clear hb2)
   (try clear hk)
   (try clear hi)
   (try clear ho0)
   obtain⟨Ao25,co25,eo25⟩:=Kd.R_slice HO752.out
   (first|subst eo25 |(injection eo25 with f1_ f2_ f3_;have f4_:=f1_.symm;have f5_:=f3_.symm;clear f1_ f2_ f3_;subst f4_;subst f5_))
   refine hK.out _ _ ⟨(Qct BK743.out 0).trans rfl,(Qct BK743.out 1).trans rfl⟩ (fun hHeld=>?_)
   clear hK K
   refine Qfh (a':=?_) ?_ ?_
   rotate_left
   ·show Act.put _ (some 25) _=_
    simp only[Act.put,List.setIfInBounds_toArray,List.set_cons_zero,List.set_cons_succ,Qfm,Qfn]
    rfl
   refine one_ (i:=3) (N:=some 26) #[true,true,true,true,false,false,false,false,false] rfl rfl (Qgj HT_.out qq_5) (by decide) (fun K hK=>?_)
   refine Qfj Tryz.func33 qq_5 rfl #[.agg #[.int .u8 a0_0,.int .u32 a0_1],.slice Ao25 t750.length co25] (by rfl) rfl rfl qq_1 ?_
   with_reducible refine(Qba.calls k a0_0 a0_1 _ _ t750 t753 t756 _ ?side1 ?side2 A7.out).mono ?_
   (case side1=>repeat(first|exact(Kd.R_reads' HO752.out).2.2 |(with_reducible refine Kd.C_alloc ?_ _) |(with_reducible refine Kd.C_drewN ?_ _) |(with_reducible refine Kd.C_drew ?_)))
   (case side2=>exact(Kd.R_reads' HO752.out).2.1)
   rintro e w26 ⟨v754,rfl,ho0,hb⟩
   refine⟨_,rfl,?_⟩
   have n0_:=QA (Kd.R_below qq_3 hb)
   have n1_:=QA (Kd.R_below qq_3 hb)
   have n2_:=QA (Kd.R_lower ho0 (Qea qq_b))
   have n3_:=QA (Qdg (g:=gb743) (o:=.cells #[.int .u8 a0_0,.int .u32 a0_1] 27 (0,0)) qq_0 hb)
   have n4_:=QA (Qeb qq_b hb)
   clear HO749 HO752 BK743 HB
   have HO749:=n0_
   have HO752:=n1_
   have HO755:=n2_
   have BK743:=n3_
   have HB:=n4_
   clear n0_ n1_ n2_ n3_ n4_
   (try clear hb)
   (try clear hb2)
   (try clear hk)
   (try clear hi)
   (try clear ho0)
   refine hK.out _ _ ⟨(Qct BK743.out 0).trans rfl,(Qct BK743.out 1).trans rfl⟩ (fun hHeld=>?_)
   clear hK K
   refine Qfh (a':=?_) ?_ ?_
   rotate_left
   ·show Act.put _ (some 26) _=_
    simp only[Act.put,List.setIfInBounds_toArray,List.set_cons_zero,List.set_cons_succ,Qfm,Qfn]
    rfl
   refine Qfb (i:=4) (N:=some 22) (v:=?_) (a':=?_) #[true,true,true,true,true,false,false,false,false] rfl rfl (Qgi HT_.out qq_5) (fun _ _ _ h=>h) (Or.inl ⟨by rfl,?_⟩) ?_ ?_
   rotate_left
   ·intro w'
    go_simp
    with_reducible rfl
   rotate_left
   ·exact qq_4
   refine Qfb (i:=5) (N:=some 27) (v:=?_) (a':=?_) #[true,true,true,true,true,true,false,false,false] rfl rfl (Qgi HT_.out qq_5) (fun _ _ _ h=>h) (Or.inl ⟨by rfl,?_⟩) ?_ ?_
   rotate_left
   ·intro w'
    go_simp
    with_reducible rfl
   rotate_left
   ·exact qq_4
   refine Qfb (i:=6) (N:=some 28) (v:=?_) (a':=?_) #[true,true,true,true,true,true,true,false,false] rfl rfl (Qgi HT_.out qq_5) (fun _ _ _ h=>h) (Or.inl ⟨by rfl,?_⟩) ?_ ?_
   rotate_left
   ·intro w'
    go_simp
    with_reducible rfl
   rotate_left
   ·exact qq_4
   refine Qfb (i:=7) (N:=some 4) (v:=?_) (a':=?_) #[true,true,true,true,true,true,true,true,false] rfl rfl (Qgi HT_.out qq_5) (fun _ _ _ h=>h) (Or.inl ⟨by rfl,?_⟩) ?_ ?_
   rotate_left
   ·intro w'
    go_simp
    with_reducible rfl
   rotate_left
   ·exact qq_4
   refine Qfb (i:=8) (N:=some 7) (v:=?_) (a':=?_) #[true,true,true,true,true,true,true,true,true] rfl rfl (Qgi HT_.out qq_5) (fun _ _ _ h=>h) (Or.inl ⟨by rfl,?_⟩) ?_ ?_
   rotate_left
   ·intro w'
    go_simp
    with_reducible rfl
   rotate_left
   ·exact qq_4
   refine Qfd (Qgk HT_.out qq_5) ?_
   try go_wp2
   refine bodyPost_ret (Qeo (rs:=[.tmp 4,.tmp 5,.tmp 6,.tmp 7]) rfl (by simp) (.tmp (.tmp (.tmp (.tmp .nil))))) rfl ?_
   exact⟨_,by first|rfl |(simp[Qhh,Qhi]<;>rfl) |(simp[*,Qhh,Qhi]<;>rfl),by first|exact Kd.R_nil _ _ _ _ _|exact Kd.N_nil _ _ _ _ _|exact Kd.V_nil _ _ _ _ _|exact Kd.Q_nil _ _ _ _ _|exact Kd.S_nil _ _ _ _ _,qq_b⟩
 ·rw[if_neg c4]at H
  have c4b0:(t744 == 0)=false:=beq_eq_false_iff_ne.mpr c4
  have c4b1:(t744 != 0)=true:=bne_iff_ne.mpr c4
  simp only[Option.some.injEq,Prod.mk.injEq]at H
  obtain⟨rfl,rfl,rfl,rfl⟩:=H
  go_enter Tryz.func45,Tryz.ntmps45
  go_wp2_with (first |((with_reducible refine Qel (N:=2) rfl ?_);refine qq_e 2 #[.int .u8 a0_0,.int .u32 a0_1] 27 ?_;intro gb743 hg w27 hbox hb;have n0_:=QA (Qeb qq_b hb);have n1_:=QA (hbox);have n2_:=QA (qq_s hg:w.heap.size≤gb743);have n3_:=n2_;clear HB;have HB:=n0_;have BK743:=n1_;have GW743:=n2_;have GE743:=n3_;clear n0_ n1_ n2_ n3_ hb hbox hg;have hcz28_0:=qq_c (.int .u8 a0_0) BK743.out 0 rfl;have hcz28_1:=qq_c (.int .u32 a0_1) BK743.out 1 rfl;have hfz28_0:=Qcu BK743.out 0;have hfz28_1:=Qcu BK743.out 1) |((with_reducible refine Qhd (f:=85) rfl ?_);refine Qfk (some 12) rfl rfl Tryz.func85 qq_5 rfl #[.agg #[.int .u8 a0_0,.int .u32 a0_1]] rfl qq_1 ?_;(with_reducible refine(Qal.calls a0_0 a0_1 t744 _ A3.out).mono ?_);rintro e w29 ⟨rfl,hb⟩;refine⟨_,rfl,?_⟩;have n0_:=QA (Qdg (g:=gb743) (o:=.cells #[.int .u8 a0_0,.int .u32 a0_1] 27 (0,0)) qq_0 hb);have n1_:=QA (Qeb qq_b hb);clear BK743 HB;have BK743:=n0_;have HB:=n1_;clear n0_ n1_;(try clear hb);(try clear hb2);(try clear hk);(try clear hi)))
  refine bodyPost_ret (Qeo (rs:=[.tmp 4,.tmp 5,.tmp 6,.tmp 7]) rfl (by simp) (.tmp (.tmp (.tmp (.tmp .nil))))) rfl ?_
  exact⟨_,by first|rfl |(simp[Qhh,Qhi]<;>rfl) |(simp[*,Qhh,Qhi]<;>rfl),by first|exact Kd.R_nil _ _ _ _ _|exact Kd.N_nil _ _ _ _ _|exact Kd.V_nil _ _ _ _ _|exact Kd.Q_nil _ _ _ _ _|exact Kd.S_nil _ _ _ _ _,qq_b⟩
end Go.Proofs.YtnnofopfbeklbaaGreat.C
end
