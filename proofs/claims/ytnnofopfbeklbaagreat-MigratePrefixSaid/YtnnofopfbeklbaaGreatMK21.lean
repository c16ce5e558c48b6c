/- Merged texts. -/
import Derived.Test.YtnnofopfbeklbaaGreatMK02
import Derived.Test.YtnnofopfbeklbaaGreatMK19
import Derived.Test.YtnnofopfbeklbaaGreatMK20
import Derived.Test.YtnnofopfbeklbaaGreatMK16
import Derived.Test.YtnnofopfbeklbaaGreatMK10
import Derived.Test.YtnnofopfbeklbaaGreatMK15
import Derived.Test.YtnnofopfbeklbaaGreatMK14
import Derived.Test.YtnnofopfbeklbaaGreatMK07
set_option linter.unusedVariables false
set_option linter.unusedSimpArgs false
set_option maxHeartbeats 8000000
set_option maxRecDepth 100000
section
namespace Go.Proofs.YtnnofopfbeklbaaGreat.C
open Go.RowKit Go.Proofs.YtnnofopfbeklbaaGreatW.PrintWords Go.Proofs.YtnnofopfbeklbaaGreatW.PrintLast Go.Proofs.YtnnofopfbeklbaaGreatW.PrintMore
attribute [local go_sem] Qjm Qjn Qjo Qjp Qjq Qjr Qjs Qjt
def Qcw.f(k:Nat)(a0_0:Int)(a0_1:Int)(l1:List Int):Option (List Int × Int × Int × Int):=(Qal.f a0_0 a0_1).bind fun t744=>(if t744=0 then((Qan.f l1).bind fun bt745=>((Qcx.f k bt745.1).bind fun t750=>((Qcu.f k a0_0 a0_1 t750).bind fun bt753=>(if bt753.2=0 then(some (bt753.1,(bt745.1.length:Int),bt745.2.1,0))else(some (([]:List Int),0,0,bt753.2))))))else(some (([]:List Int),0,0,t744)))
def Qcw.T5:Bool × List (List Nat × List Nat):=(true,[([],[]),([],[]),([1],[1]),([0,2,2],[0,2]),([3],[3]),([4],[4]),([4],[4]),([5,3,0,1,2,3,4,5],[5]),([6,7,0,1,2,3,4,5,6,7],[6])])
def Qcw.B5:List Nat:=[0,0,2,7,15,31,31,63,255]
theorem Qcw.tab5:rtab .any (Qjd Tryz.f45 5)=Qcw.T5:=by kernel_rfl
theorem Qcw.bits5:Qix Qcw.T5.2 Qcw.B5=true:=by kernel_rfl
theorem Qcw.calls(k:Nat)(b:Int)(c:Int)(A1:Option Addr)(c1:Nat)(l1:List Int)(r1:List Int)(r2:Int)(r3:Int)(r4:Int)(w:World)(hr1:Kd.C (Kd.int .u8) w A1 l1.length l1)(hc1:l1.length≤c1)(h:Qcw.f k b c l1=some (r1,r2,r3,r4)) :
  Calls Tryz.prog 45 #[.agg #[.int .u8 b,.int .u32 c],.slice A1 l1.length c1] w fun e w'=>∃B:Value,e=.returned (.tuple #[B,.int .i64 r2,.int .i64 r3,.int .i64 r4])∧Kd.R (Kd.int .u8) 5 w' w.heap.size (fun _=>True) B r1∧Below w.heap.size w w':=by
 have hu27:=Tryz.underlying27;have D:=QA hr1;have E:=QA hc1;clear hr1 hc1;have HB:=QA (Below.refl w.heap.size w);have H:((Qal.f b c).bind fun q=>(if q=0 then((Qan.f l1).bind fun bt745=>((Qcx.f k bt745.1).bind fun r=>((Qcu.f k b c r).bind fun bt753=>(if bt753.2=0 then(some (bt753.1,(bt745.1.length:Int),bt745.2.1,0))else(some (([]:List Int),0,0,bt753.2))))))else(some (([]:List Int),0,0,q))))=some (r1,r2,r3,r4):=h;clear h;replace H:=Option.bind_eq_some_iff.mp H;obtain⟨q,G,H⟩:=H;have A3:=QA G;clear G
 by_cases c4:q=0
 ·rw[if_pos c4]at H;have M:(q == 0)=true:=beq_iff_eq.mpr c4;have O:(q != 0)=false:=bne_eq_false_iff_eq.mpr c4;clear c4;replace H:=Option.bind_eq_some_iff.mp H;obtain⟨⟨s,u,A⟩,I,H⟩:=H;replace H:((Qcx.f k s).bind fun r=>((Qcu.f k b c r).bind fun bt753=>(if bt753.2=0 then(some (bt753.1,(s.length:Int),u,0))else(some (([]:List Int),0,0,bt753.2)))))=some (r1,r2,r3,r4):=H;have A5:=QA I;clear I;replace H:=Option.bind_eq_some_iff.mp H;obtain⟨r,J,H⟩:=H;have A6:=QA J;clear J;replace H:=Option.bind_eq_some_iff.mp H;obtain⟨⟨v,t⟩,L,H⟩:=H;replace H:(if t=0 then(some (v,(s.length:Int),u,0))else(some (([]:List Int),0,0,t)))=some (r1,r2,r3,r4):=H;have A7:=QA L;clear L
  by_cases c8:t=0
  ·rw[if_pos c8]at H;have P:(t == 0)=true:=beq_iff_eq.mpr c8;have T:(t != 0)=false:=bne_eq_false_iff_eq.mpr c8;clear c8;simp only[Option.some.injEq,Prod.mk.injEq]at H;obtain⟨rfl,rfl,rfl,rfl⟩:=H
   go_enter Tryz.func45,Tryz.ntmps45
   try go_wp2_with (first |((with_reducible refine Qgv (N:=2) rfl ?_);refine qq_e 2 #[.int .u8 b,.int .u32 c] 27 ?_;intro j hg w9 hbox hb;have n_:=qn4 (Qgk qq_b hb) (hbox) (qq_s hg:w.heap.size≤j) (qq_s hg:w.heap.size≤j);clear HB;obtain⟨HB,a,x,y⟩:=n_;clear hb hbox hg;obtain⟨Y,Z⟩:=qc2 a.out;have ag:=Qeq a.out) |((with_reducible refine Qju (f:=85) rfl ?_);refine Qhu (some 12) rfl rfl Tryz.func85 qq_6 rfl #[.agg #[.int .u8 b,.int .u32 c]] rfl qq_1 ?_;(with_reducible refine(Qal.calls b c q _ A3.out).mono ?_);rintro e aj ⟨rfl,hb⟩;refine⟨_,rfl,?_⟩;have n_:=qn2 (Qfe (g:=j) (o:=.cells #[.int .u8 b,.int .u32 c] 27 (0,0)) qq_0 hb) (Qgk qq_b hb);clear a HB;obtain⟨a,HB⟩:=n_;(try clear hb);(try clear hb2);(try clear hk);(try clear hi)) |((with_reducible refine Qju (f:=86) rfl ?_);refine Qhu (some 18) rfl rfl Tryz.func86 qq_6 rfl #[.slice A1 l1.length c1] rfl qq_1 ?_;(with_reducible refine(Qan.calls _ _ l1 s u A _ ?side1 ?side2 A5.out).mono ?_);(case side1=>repeat(first|exact(Kd.C_below D.out HB.out) |(with_reducible refine Kd.C_alloc ?_ _) |(with_reducible refine Kd.C_drewN ?_ _) |(with_reducible refine Kd.C_drew ?_)));(case side2=>exact E.out);rintro e ae ⟨U,rfl,m,hb⟩;refine⟨_,rfl,?_⟩;have n_:=qn3 (Kd.R_lower m (Qgj qq_b)) (Qfe (g:=j) (o:=.cells #[.int .u8 b,.int .u32 c] 27 (0,0)) qq_0 hb) (Qgk qq_b hb);clear a HB;obtain⟨d,a,HB⟩:=n_;(try clear hb);(try clear hb2);(try clear hk);(try clear hi);(try clear m)))
   have n_:=qn3 (Kd.R_drew d.out) (Qfc a.out) (Qgr HB.out);clear d a HB;obtain⟨d,a,HB⟩:=n_;obtain⟨Ao14,co14,eo14⟩:=Kd.R_slice d.out
   (first|subst eo14 |(injection eo14 with f1_ f2_ f3_;have f4_:=f1_.symm;have f5_:=f3_.symm;clear f1_ f2_ f3_;subst f4_;subst f5_))
   refine Qhk (n:=9) (S:=fun w'=>w'.cell? ⟨j,0,none⟩=some (.int .u8 b)∧w'.cell? ⟨j,1,none⟩=some (.int .u32 c)) (ds:=[]) (bm 9 0) qq_6 rfl rfl ⟨(Qep a.out 0).trans rfl,(Qep a.out 1).trans rfl⟩ (fun p=>?_);refine Qjb Qcw.tab5 Qcw.bits5 (fun HT_ HW_=>?_);generalize ae.drew=w13 at d a HB p ⊢;refine pz_ (i:=1) (N:=some 24) (bm 9 2) (Qit HT_.out qq_6) ?_;refine tz_ (i:=0) (N:=some 23) (bm 9 3) (Qja HT_.out HW_.out qq_6) p ?_;refine one_ (i:=2) (N:=some 25) (bm 9 7) rfl rfl (Qiu HT_.out qq_6) (by decide) (fun K hK=>?_);refine Qht Tryz.func87 qq_6 rfl #[.slice Ao14 s.length co14] (by rfl) rfl rfl qq_1 ?_;with_reducible refine(Qcx.calls k _ _ s r _ ?side1 ?side2 A6.out).mono ?_
   (case side1=>repeat(first|exact(Kd.R_reads' d.out).2.2 |(with_reducible refine Kd.C_alloc ?_ _) |(with_reducible refine Kd.C_drewN ?_ _) |(with_reducible refine Kd.C_drew ?_)))
   (case side2=>exact(Kd.R_reads' d.out).2.1)
   rintro e ak ⟨W,rfl,m,hb⟩;refine⟨_,rfl,?_⟩;have n_:=qn4 (Kd.R_below qq_2 hb) (Kd.R_lower m (Qgj qq_b)) (Qfe (g:=j) (o:=.cells #[.int .u8 b,.int .u32 c] 27 (0,0)) qq_0 hb) (Qgk qq_b hb);clear d a HB;obtain⟨d,l,a,HB⟩:=n_
   (try clear hb)
   (try clear hb2)
   (try clear hk)
   (try clear hi)
   (try clear m)
   obtain⟨Ao16,co16,eo16⟩:=Kd.R_slice l.out
   (first|subst eo16 |(injection eo16 with f1_ f2_ f3_;have f4_:=f1_.symm;have f5_:=f3_.symm;clear f1_ f2_ f3_;subst f4_;subst f5_))
   refine hK.out _ _ ⟨(Qep a.out 0).trans rfl,(Qep a.out 1).trans rfl⟩ (fun p=>?_);clear hK K;refine nzp_ 25 ?_;refine one_ (i:=3) (N:=some 26) (bm 9 15) rfl rfl (Qiu HT_.out qq_6) (by decide) (fun K hK=>?_);refine Qht Tryz.func33 qq_6 rfl #[.agg #[.int .u8 b,.int .u32 c],.slice Ao16 r.length co16] (by rfl) rfl rfl qq_1 ?_;with_reducible refine(Qcu.calls k b c _ _ r v t _ ?side1 ?side2 A7.out).mono ?_
   (case side1=>repeat(first|exact(Kd.R_reads' l.out).2.2 |(with_reducible refine Kd.C_alloc ?_ _) |(with_reducible refine Kd.C_drewN ?_ _) |(with_reducible refine Kd.C_drew ?_)))
   (case side2=>exact(Kd.R_reads' l.out).2.1)
   rintro e al ⟨X,rfl,m,hb⟩;refine⟨_,rfl,?_⟩;have n_:=qn5 (Kd.R_below qq_2 hb) (Kd.R_below qq_2 hb) (Kd.R_lower m (Qgj qq_b)) (Qfe (g:=j) (o:=.cells #[.int .u8 b,.int .u32 c] 27 (0,0)) qq_0 hb) (Qgk qq_b hb);clear d l a HB;obtain⟨d,l,z,a,HB⟩:=n_
   (try clear hb)
   (try clear hb2)
   (try clear hk)
   (try clear hi)
   (try clear m)
   refine hK.out _ _ ⟨(Qep a.out 0).trans rfl,(Qep a.out 1).trans rfl⟩ (fun p=>?_);clear hK K;refine nzp_ 26 ?_;refine pz_ (i:=4) (N:=some 22) (bm 9 31) (Qit HT_.out qq_6) ?_;refine pz_ (i:=5) (N:=some 27) (bm 9 63) (Qit HT_.out qq_6) ?_;refine pz_ (i:=6) (N:=some 28) (bm 9 127) (Qit HT_.out qq_6) ?_;refine pz_ (i:=7) (N:=some 4) (bm 9 255) (Qit HT_.out qq_6) ?_;refine pz_ (i:=8) (N:=some 7) (bm 9 511) (Qit HT_.out qq_6) ?_;refine Qhn (Qiw HT_.out qq_6) ?_
   try go_wp2
   refine bodyPost_ret (Qha (rs:=[.tmp 4,.tmp 5,.tmp 6,.tmp 7]) rfl (by simp) (.tmp (.tmp (.tmp (.tmp .nil))))) rfl ?_;exact⟨_,by first|rfl |(simp[Qkb,Qkc]<;>rfl) |(simp[*,Qkb,Qkc]<;>rfl),by(with_reducible repeat(first|apply Kd.R_alloc|apply Kd.R_drewN|apply Kd.R_drew));exact z.out,qq_b⟩
  ·rw[if_neg c8]at H;have P:(t == 0)=false:=beq_eq_false_iff_ne.mpr c8;have T:(t != 0)=true:=bne_iff_ne.mpr c8;simp only[Option.some.injEq,Prod.mk.injEq]at H;obtain⟨rfl,rfl,rfl,rfl⟩:=H
   go_enter Tryz.func45,Tryz.ntmps45
   try go_wp2_with (first |((with_reducible refine Qgv (N:=2) rfl ?_);refine qq_e 2 #[.int .u8 b,.int .u32 c] 27 ?_;intro j hg am hbox hb;have n_:=qn4 (Qgk qq_b hb) (hbox) (qq_s hg:w.heap.size≤j) (qq_s hg:w.heap.size≤j);clear HB;obtain⟨HB,a,x,y⟩:=n_;clear hb hbox hg;obtain⟨aa,ab⟩:=qc2 a.out;have ah:=Qeq a.out) |((with_reducible refine Qju (f:=85) rfl ?_);refine Qhu (some 12) rfl rfl Tryz.func85 qq_6 rfl #[.agg #[.int .u8 b,.int .u32 c]] rfl qq_1 ?_;(with_reducible refine(Qal.calls b c q _ A3.out).mono ?_);rintro e an ⟨rfl,hb⟩;refine⟨_,rfl,?_⟩;have n_:=qn2 (Qfe (g:=j) (o:=.cells #[.int .u8 b,.int .u32 c] 27 (0,0)) qq_0 hb) (Qgk qq_b hb);clear a HB;obtain⟨a,HB⟩:=n_;(try clear hb);(try clear hb2);(try clear hk);(try clear hi)) |((with_reducible refine Qju (f:=86) rfl ?_);refine Qhu (some 18) rfl rfl Tryz.func86 qq_6 rfl #[.slice A1 l1.length c1] rfl qq_1 ?_;(with_reducible refine(Qan.calls _ _ l1 s u A _ ?side1 ?side2 A5.out).mono ?_);(case side1=>repeat(first|exact(Kd.C_below D.out HB.out) |(with_reducible refine Kd.C_alloc ?_ _) |(with_reducible refine Kd.C_drewN ?_ _) |(with_reducible refine Kd.C_drew ?_)));(case side2=>exact E.out);rintro e af ⟨U,rfl,m,hb⟩;refine⟨_,rfl,?_⟩;have n_:=qn3 (Kd.R_lower m (Qgj qq_b)) (Qfe (g:=j) (o:=.cells #[.int .u8 b,.int .u32 c] 27 (0,0)) qq_0 hb) (Qgk qq_b hb);clear a HB;obtain⟨d,a,HB⟩:=n_;(try clear hb);(try clear hb2);(try clear hk);(try clear hi);(try clear m)))
   have n_:=qn3 (Kd.R_drew d.out) (Qfc a.out) (Qgr HB.out);clear d a HB;obtain⟨d,a,HB⟩:=n_;obtain⟨Ao23,co23,eo23⟩:=Kd.R_slice d.out
   (first|subst eo23 |(injection eo23 with f1_ f2_ f3_;have f4_:=f1_.symm;have f5_:=f3_.symm;clear f1_ f2_ f3_;subst f4_;subst f5_))
   refine Qhk (n:=9) (S:=fun w'=>w'.cell? ⟨j,0,none⟩=some (.int .u8 b)∧w'.cell? ⟨j,1,none⟩=some (.int .u32 c)) (ds:=[]) (bm 9 0) qq_6 rfl rfl ⟨(Qep a.out 0).trans rfl,(Qep a.out 1).trans rfl⟩ (fun p=>?_);refine Qjb Qcw.tab5 Qcw.bits5 (fun HT_ HW_=>?_);generalize af.drew=w22 at d a HB p ⊢;refine pz_ (i:=1) (N:=some 24) (bm 9 2) (Qit HT_.out qq_6) ?_;refine tz_ (i:=0) (N:=some 23) (bm 9 3) (Qja HT_.out HW_.out qq_6) p ?_;refine one_ (i:=2) (N:=some 25) (bm 9 7) rfl rfl (Qiu HT_.out qq_6) (by decide) (fun K hK=>?_);refine Qht Tryz.func87 qq_6 rfl #[.slice Ao23 s.length co23] (by rfl) rfl rfl qq_1 ?_;with_reducible refine(Qcx.calls k _ _ s r _ ?side1 ?side2 A6.out).mono ?_
   (case side1=>repeat(first|exact(Kd.R_reads' d.out).2.2 |(with_reducible refine Kd.C_alloc ?_ _) |(with_reducible refine Kd.C_drewN ?_ _) |(with_reducible refine Kd.C_drew ?_)))
   (case side2=>exact(Kd.R_reads' d.out).2.1)
   rintro e ao ⟨W,rfl,m,hb⟩;refine⟨_,rfl,?_⟩;have n_:=qn4 (Kd.R_below qq_2 hb) (Kd.R_lower m (Qgj qq_b)) (Qfe (g:=j) (o:=.cells #[.int .u8 b,.int .u32 c] 27 (0,0)) qq_0 hb) (Qgk qq_b hb);clear d a HB;obtain⟨d,l,a,HB⟩:=n_
   (try clear hb)
   (try clear hb2)
   (try clear hk)
   (try clear hi)
   (try clear m)
   obtain⟨Ao25,co25,eo25⟩:=Kd.R_slice l.out
   (first|subst eo25 |(injection eo25 with f1_ f2_ f3_;have f4_:=f1_.symm;have f5_:=f3_.symm;clear f1_ f2_ f3_;subst f4_;subst f5_))
   refine hK.out _ _ ⟨(Qep a.out 0).trans rfl,(Qep a.out 1).trans rfl⟩ (fun p=>?_);clear hK K;refine nzp_ 25 ?_;refine one_ (i:=3) (N:=some 26) (bm 9 15) rfl rfl (Qiu HT_.out qq_6) (by decide) (fun K hK=>?_);refine Qht Tryz.func33 qq_6 rfl #[.agg #[.int .u8 b,.int .u32 c],.slice Ao25 r.length co25] (by rfl) rfl rfl qq_1 ?_;with_reducible refine(Qcu.calls k b c _ _ r v t _ ?side1 ?side2 A7.out).mono ?_
   (case side1=>repeat(first|exact(Kd.R_reads' l.out).2.2 |(with_reducible refine Kd.C_alloc ?_ _) |(with_reducible refine Kd.C_drewN ?_ _) |(with_reducible refine Kd.C_drew ?_)))
   (case side2=>exact(Kd.R_reads' l.out).2.1)
   rintro e ap ⟨X,rfl,m,hb⟩;refine⟨_,rfl,?_⟩;have n_:=qn5 (Kd.R_below qq_2 hb) (Kd.R_below qq_2 hb) (Kd.R_lower m (Qgj qq_b)) (Qfe (g:=j) (o:=.cells #[.int .u8 b,.int .u32 c] 27 (0,0)) qq_0 hb) (Qgk qq_b hb);clear d l a HB;obtain⟨d,l,z,a,HB⟩:=n_
   (try clear hb)
   (try clear hb2)
   (try clear hk)
   (try clear hi)
   (try clear m)
   refine hK.out _ _ ⟨(Qep a.out 0).trans rfl,(Qep a.out 1).trans rfl⟩ (fun p=>?_);clear hK K;refine nzp_ 26 ?_;refine pz_ (i:=4) (N:=some 22) (bm 9 31) (Qit HT_.out qq_6) ?_;refine pz_ (i:=5) (N:=some 27) (bm 9 63) (Qit HT_.out qq_6) ?_;refine pz_ (i:=6) (N:=some 28) (bm 9 127) (Qit HT_.out qq_6) ?_;refine pz_ (i:=7) (N:=some 4) (bm 9 255) (Qit HT_.out qq_6) ?_;refine pz_ (i:=8) (N:=some 7) (bm 9 511) (Qit HT_.out qq_6) ?_;refine Qhn (Qiw HT_.out qq_6) ?_
   try go_wp2
   refine bodyPost_ret (Qha (rs:=[.tmp 4,.tmp 5,.tmp 6,.tmp 7]) rfl (by simp) (.tmp (.tmp (.tmp (.tmp .nil))))) rfl ?_;exact⟨_,by first|rfl |(simp[Qkb,Qkc]<;>rfl) |(simp[*,Qkb,Qkc]<;>rfl),by first|exact Kd.R_nil _ _ _ _ _|exact Kd.N_nil _ _ _ _ _|exact Kd.V_nil _ _ _ _ _|exact Kd.Q_nil _ _ _ _ _|exact Kd.S_nil _ _ _ _ _,qq_b⟩
 ·rw[if_neg c4]at H;have M:(q == 0)=false:=beq_eq_false_iff_ne.mpr c4;have O:(q != 0)=true:=bne_iff_ne.mpr c4;simp only[Option.some.injEq,Prod.mk.injEq]at H;obtain⟨rfl,rfl,rfl,rfl⟩:=H
  go_enter Tryz.func45,Tryz.ntmps45
  go_wp2_with (first |((with_reducible refine Qgv (N:=2) rfl ?_);refine qq_e 2 #[.int .u8 b,.int .u32 c] 27 ?_;intro j hg aq hbox hb;have n_:=qn4 (Qgk qq_b hb) (hbox) (qq_s hg:w.heap.size≤j) (qq_s hg:w.heap.size≤j);clear HB;obtain⟨HB,a,x,y⟩:=n_;clear hb hbox hg;obtain⟨ac,ad⟩:=qc2 a.out;have ai:=Qeq a.out) |((with_reducible refine Qju (f:=85) rfl ?_);refine Qhu (some 12) rfl rfl Tryz.func85 qq_6 rfl #[.agg #[.int .u8 b,.int .u32 c]] rfl qq_1 ?_;(with_reducible refine(Qal.calls b c q _ A3.out).mono ?_);rintro e ar ⟨rfl,hb⟩;refine⟨_,rfl,?_⟩;have n_:=qn2 (Qfe (g:=j) (o:=.cells #[.int .u8 b,.int .u32 c] 27 (0,0)) qq_0 hb) (Qgk qq_b hb);clear a HB;obtain⟨a,HB⟩:=n_;(try clear hb);(try clear hb2);(try clear hk);(try clear hi)))
  refine bodyPost_ret (Qha (rs:=[.tmp 4,.tmp 5,.tmp 6,.tmp 7]) rfl (by simp) (.tmp (.tmp (.tmp (.tmp .nil))))) rfl ?_;exact⟨_,by first|rfl |(simp[Qkb,Qkc]<;>rfl) |(simp[*,Qkb,Qkc]<;>rfl),by first|exact Kd.R_nil _ _ _ _ _|exact Kd.N_nil _ _ _ _ _|exact Kd.V_nil _ _ _ _ _|exact Kd.Q_nil _ _ _ _ _|exact Kd.S_nil _ _ _ _ _,qq_b⟩
end Go.Proofs.YtnnofopfbeklbaaGreat.C
end
section
namespace Go.Proofs.YtnnofopfbeklbaaGreat.CodecP
open Go.RowKit Go.Proofs.YtnnofopfbeklbaaGreat.C Go.Proofs.YtnnofopfbeklbaaGreatW.PrintWords Go.Proofs.YtnnofopfbeklbaaGreatW.PrintLast Go.Proofs.YtnnofopfbeklbaaGreatW.PrintMore
theorem Qvi(a b:Nat)(ha:a<4294967296)(hb:b<4294967296):Go.bits .or .u32 (a:Int) (b:Int)=((a ||| b:Nat):Int):=by
 have hx:a ||| b<2^32:=Nat.or_lt_two_pow (by omega) (by omega)
 have h1:(BitVec.ofInt 32 (a:Int)).toNat=a:=by
  rw[BitVec.ofInt_natCast,BitVec.toNat_ofNat];exact Nat.mod_eq_of_lt (by omega)
 have h2:(BitVec.ofInt 32 (b:Int)).toNat=b:=by
  rw[BitVec.ofInt_natCast,BitVec.toNat_ofNat];exact Nat.mod_eq_of_lt (by omega)
 show IntKind.u32.wrap ((BitVec.ofInt 32 (a:Int) ||| BitVec.ofInt 32 (b:Int)).toNat:Int)=_;rw[BitVec.toNat_or,h1,h2,IntKind.wrap_u32];omega
theorem Qvj(a b:Nat)(ha:a<4294967296)(hb:b<4294967296):Go.bits .xor .u32 (a:Int) (b:Int)=((a ^^^ b:Nat):Int):=by
 have hx:a ^^^ b<2^32:=Nat.xor_lt_two_pow (by omega) (by omega);have h1:(BitVec.ofInt 32 (a:Int)).toNat=a:=by
  rw[BitVec.ofInt_natCast,BitVec.toNat_ofNat];exact Nat.mod_eq_of_lt (by omega)
 have h2:(BitVec.ofInt 32 (b:Int)).toNat=b:=by
  rw[BitVec.ofInt_natCast,BitVec.toNat_ofNat];exact Nat.mod_eq_of_lt (by omega)
 show IntKind.u32.wrap ((BitVec.ofInt 32 (a:Int) ^^^ BitVec.ofInt 32 (b:Int)).toNat:Int)=_;rw[BitVec.toNat_xor,h1,h2,IntKind.wrap_u32];omega
def rotM(x n:Nat):Nat:=(x%2^(32-n))*2^n+x/2^(32-n)
theorem Qvk(x n:Nat)(hx:x<2^32)(hn:n≤32):rotM x n<2^32:=by
 unfold rotM;have hp:(2:Nat)^(32-n)*2^n=2^32:=by rw[← Nat.pow_add];congr 1;omega
 have h1:x%2^(32-n)<2^(32-n):=Nat.mod_lt _ (Nat.two_pow_pos _);have h2:x/2^(32-n)<2^n:=by rw[Nat.div_lt_iff_lt_mul (Nat.two_pow_pos _),Nat.mul_comm,hp];exact hx
 have h3:(x%2^(32-n))*2^n+2^n≤2^(32-n)*2^n:=by
  rw[← Nat.succ_mul];exact Nat.mul_le_mul_right _ h1
 omega
theorem Qvl(x i:Nat)(hx:x<2^32)(hi:i<32):(2*rotM x i)%2^32+rotM x i/2^31=rotM x (i+1):=by
 unfold rotM;obtain⟨m,hm⟩:∃m,m=31-i:=⟨_,rfl⟩;rw[show 32-i=m+1 by omega,show 32-(i+1)=m by omega];have hp:(2:Nat)^m*2^i=2^31:=by rw[← Nat.pow_add];congr 1;omega
 rw[Nat.pow_succ 2 m,Nat.pow_succ 2 i];generalize hP:(2:Nat)^m=P at *;generalize hQ:(2:Nat)^i=Q at *;have hP0:0<P:=by rw[← hP];exact Nat.two_pow_pos _
 have hQ0:0<Q:=by rw[← hQ];exact Nat.two_pow_pos _
 obtain⟨a,ha⟩:∃a,a=x/(P*2):=⟨_,rfl⟩;obtain⟨b,hb⟩:∃b,b=x%(P*2):=⟨_,rfl⟩;have hxab:x=P*2*a+b:=by rw[ha,hb];exact(Nat.div_add_mod x (P*2)).symm
 have hbl:b<P*2:=by rw[hb];exact Nat.mod_lt _ (by omega)
 have haQ:a<Q:=by
  rw[ha,Nat.div_lt_iff_lt_mul (by omega),Nat.mul_comm,Nat.mul_assoc,Nat.mul_comm 2 Q,← Nat.mul_assoc,hp];omega
 obtain⟨c,hc⟩:∃c,c=b/P:=⟨_,rfl⟩;obtain⟨d,hd⟩:∃d,d=b%P:=⟨_,rfl⟩;have hbcd:b=P*c+d:=by rw[hc,hd];exact(Nat.div_add_mod b P).symm
 have hdl:d<P:=by rw[hd];exact Nat.mod_lt _ hP0
 have hcl:c<2:=by rw[hc,Nat.div_lt_iff_lt_mul hP0,Nat.mul_comm];exact hbl
 have hxP:x/P=2*a+c:=by
  rw[hxab,hbcd,show P*2*a+(P*c+d)=P*(2*a+c)+d by rw[Nat.mul_add,Nat.mul_assoc,Nat.add_assoc],Nat.mul_add_div hP0,Nat.div_eq_of_lt hdl];rfl
 have hxm:x%P=d:=by
  rw[hxab,hbcd,show P*2*a+(P*c+d)=P*(2*a+c)+d by rw[Nat.mul_add,Nat.mul_assoc,Nat.add_assoc],Nat.mul_add_mod,Nat.mod_eq_of_lt hdl]
 rw[← ha,← hb,hxP,hxm];have he:d*Q+a<2^31:=by
  have:d*Q+Q≤P*Q:=by rw[← Nat.succ_mul];exact Nat.mul_le_mul_right _ hdl
  omega
 have hbq:b*Q+a=2^31*c+(d*Q+a):=by
  rw[hbcd,Nat.add_mul,Nat.mul_assoc,Nat.mul_comm c Q,← Nat.mul_assoc,hp,Nat.add_assoc]
 rw[hbq,show d*(Q*2)=2*(d*Q)by rw[← Nat.mul_assoc,Nat.mul_comm]];generalize d*Q=q at *;clear hp hbq hxab hbcd hbl;have:c=0∨c=1:=by omega
 rcases this with rfl|rfl<;>omega
theorem Qvm(x n:Nat)(hx:x<2^32)(h0:0<n)(hn:n<32):rotT (x:Int) (n:Int)=(rotM x n:Nat):=by
 have hand:Go.bits .and .u64 (IntKind.u64.wrap (n:Int)) 31=(n:Int):=by
  rw[IntWalk.u64_in _ (by omega),show(31:Int)=((31:Nat):Int) from rfl,bits_and_u64_nat _ _ (by omega) (by decide)];have:=Nat.and_two_pow_sub_one_eq_mod n 5;rw[show(31:Nat)=2^5-1 from rfl,this,Nat.mod_eq_of_lt (by omega)]
 have h:=Qqa (x:Int) (n:Int) ⟨by omega,by omega,hand⟩;unfold Qac.f at h;rw[hand,if_pos (by omega),IntWalk.u64_in _ (by omega),if_pos (by omega),Option.some_inj]at h;rw[← h];unfold shl shr rotM;have e1:min (n:Int).toNat IntKind.u32.bits=n:=by simp[IntKind.bits];omega
 have e2:min ((32:Int)-(n:Int)).toNat IntKind.u32.bits=32-n:=by simp[IntKind.bits]<;>omega
 rw[e1,e2,IntKind.wrap_u32];have e3:((x:Int)*2^n)%4294967296=(((x%2^(32-n))*2^n:Nat):Int):=by
  rw[← Nat.mul_mod_mul_right,← Nat.pow_add,show 32-n+n=32 by omega];rw[Int.natCast_emod,Int.natCast_mul,Int.natCast_pow];rfl
 have e4:(x:Int)/2^(32-n)=((x/2^(32-n):Nat):Int):=by rw[Int.natCast_ediv,Int.natCast_pow];rfl
 rw[e3,e4];have hp:(2:Nat)^(32-n)*2^n=2^32:=by rw[← Nat.pow_add];congr 1;omega
 have h1:x%2^(32-n)<2^(32-n):=Nat.mod_lt _ (Nat.two_pow_pos _);have h2:x/2^(32-n)<2^n:=by rw[Nat.div_lt_iff_lt_mul (Nat.two_pow_pos _),Nat.mul_comm,hp];exact hx
 have h3:(x%2^(32-n))*2^n+2^n≤2^(32-n)*2^n:=by
  rw[← Nat.succ_mul];exact Nat.mul_le_mul_right _ h1
 have hq:=Nat.two_pow_pos n;rw[Qvi _ _ (by omega) (by omega)]
 congr 1
 rw[Nat.mul_comm,← Nat.two_pow_add_eq_or_of_lt h2]
theorem Qvn(x n:Nat)(hx:x<2^32)(hn:n≤32):Qup (x:Int) n=(rotM x n:Nat):=by
 have key:∀(d i:Nat),i+d=n→Qbb.l0 (d+1) ((rotM x i:Nat):Int) (n:Int) (i:Int)=some ((rotM x n:Nat):Int):=by
  intro d
  induction d with
  | zero =>
   intro i h;unfold Qbb.l0;obtain rfl:i=n:=by omega
   rw[if_neg (by omega)]
  | succ d ih =>
   intro i h;unfold Qbb.l0;rw[if_pos (by omega),show wrap64 ((i:Int)+1)=((i+1:Nat):Int)by unfold wrap64;omega];have hl:=Qvk x i hx (by omega);have hs:=Qvl x i hx (by omega);have e:IntKind.u64.wrap ((Int.tmod (IntKind.u64.wrap (2*((rotM x i:Nat):Int))) 4294967296)+(IntKind.u64.wrap (Int.tdiv ((rotM x i:Nat):Int) 2147483648)))=((rotM x (i+1):Nat):Int):=by
    rw[← hs,Int.tdiv_eq_ediv_of_nonneg (by omega),IntWalk.u64_in (2*((rotM x i:Nat):Int)) (by omega),Int.tmod_eq_emod_of_nonneg (by omega)];generalize rotM x i=y at *;rw[IntWalk.u64_in ((y:Int)/2147483648) (by omega),IntWalk.u64_in _ (by omega)];omega
   rw[e];exact ih (i+1) (by omega)
 have h0:rotM x 0=x:=by simp[rotM,Nat.mod_eq_of_lt hx,Nat.div_eq_of_lt hx]
 have:=key n 0 (by omega);rw[h0]at this;unfold Qup Qbb.f;rw[show((0:Nat):Int)=0 from rfl]at this;rw[this];rfl
def R32(x:Int):Prop:=0≤x∧x<4294967296
theorem Qvo(x:Int)(n:Nat)(hx:R32 x)(h0:0<n)(hn:n<32):Qup x n=rotT x (n:Int)∧R32 (rotT x (n:Int)):=by
 obtain⟨y,rfl⟩:=Int.eq_ofNat_of_zero_le hx.1;have hy:=hx.2;have:=Qvk y n (by omega) (by omega);rw[Qvn y n (by omega) (by omega),Qvm y n (by omega) h0 hn];unfold R32;exact⟨rfl,by omega⟩
theorem em32(x:Int):R32 (x%4294967296):=by unfold R32;omega
theorem tm32{x:Int}(h:0≤x):Int.tmod x 4294967296=x%4294967296:=Int.tmod_eq_emod_of_nonneg h
theorem Qvp(x y:Int)(hx:R32 x)(hy:R32 y):Qur x y=Qqc x y∧R32 (Qqc x y):=by
 unfold Qur Qaz.f Qqc;have hx1:=hx.1;have hx2:=hx.2;have hy1:=hy.1;have hy2:=hy.2;have h1:IntKind.u64.wrap (x+(IntKind.u64.wrap (y*2246822519)))=x+y*2246822519:=by rw[IntWalk.u64_in (y*2246822519) (by omega),IntWalk.u64_in _ (by omega)]
 have h2:IntKind.u32.wrap (x+IntKind.u32.wrap (y*2246822519))=(x+y*2246822519)%4294967296:=by simp only[IntKind.wrap_u32];omega
 rw[show(14:Nat)=13+1 from rfl,show(13:Int)=((13:Nat):Int) from rfl,h1,tm32 (by omega),Quq _ 13 (by omega),h2];obtain⟨e1,e2,e3⟩:=Qvo ((x+y*2246822519)%4294967296) 13 (em32 _) (by omega) (by omega);rw[e1];generalize rotT ((x+y*2246822519)%4294967296) ((13:Nat):Int)=z at *;refine⟨?_,by rw[IntKind.wrap_u32];exact em32 _⟩;show Int.tmod (IntKind.u64.wrap (z*2654435761)) 4294967296=_;rw[IntWalk.u64_in _ (by omega),tm32 (by omega),IntKind.wrap_u32]
theorem Qvq(l:List Int)(hb:Bytes l)(hl:4≤l.length):numT l=leI (l.take 4):=by
 obtain⟨a,b,c,d,r,rfl⟩:∃a b c d r,l=a :: b :: c :: d :: r:=by
  match l,hl with
  | a :: b :: c :: d :: r,_=>exact⟨a,b,c,d,r,rfl⟩
 have ha:=hb a (by simp);have hb':=hb b (by simp);have hc:=hb c (by simp);have hd:=hb d (by simp);have h:=Qqb (a :: b :: c :: d :: r) hl;unfold Qdm.f at h;rw[if_pos (by simp only[List.length_cons];omega),if_pos (by simp only[List.length_cons];omega),if_pos (by simp only[List.length_cons];omega),if_pos (by simp only[List.length_cons];omega),Option.some_inj]at h;rw[← h];have r0:rd (a :: b :: c :: d :: r) 0=a:=rfl;have r1:rd (a :: b :: c :: d :: r) 1=b:=rfl;have r2:rd (a :: b :: c :: d :: r) 2=c:=rfl;have r3:rd (a :: b :: c :: d :: r) 3=d:=rfl;rw[r0,r1,r2,r3];simp only[List.take_succ_cons,List.take_zero,leI];obtain⟨a,rfl⟩:=Int.eq_ofNat_of_zero_le ha.1;obtain⟨b,rfl⟩:=Int.eq_ofNat_of_zero_le hb'.1;obtain⟨c,rfl⟩:=Int.eq_ofNat_of_zero_le hc.1;obtain⟨d,rfl⟩:=Int.eq_ofNat_of_zero_le hd.1;clear h r0 r1 r2 r3 hb hl;have e1:(((b:Int)%4294967296)*256)%4294967296=((2^8*b:Nat):Int):=by omega
 have e2:(((c:Int)%4294967296)*65536)%4294967296=((2^16*c:Nat):Int):=by omega
 have e3:(((d:Int)%4294967296)*16777216)%4294967296=((2^24*d:Nat):Int):=by omega
 have e0:(a:Int)%4294967296=(a:Int):=by omega
 rw[e0,e1,e2,e3,Qvi _ _ (by omega) (by omega)];have o1:a ||| 2^8*b=2^8*b+a:=by rw[Nat.or_comm,← Nat.two_pow_add_eq_or_of_lt (by omega)]
 rw[o1,Qvi _ _ (by omega) (by omega)];have o2:2^8*b+a ||| 2^16*c=2^16*c+(2^8*b+a):=by rw[Nat.or_comm,← Nat.two_pow_add_eq_or_of_lt (by omega)]
 rw[o2,Qvi _ _ (by omega) (by omega)];have o3:2^16*c+(2^8*b+a) ||| 2^24*d=2^24*d+(2^16*c+(2^8*b+a)):=by rw[Nat.or_comm,← Nat.two_pow_add_eq_or_of_lt (by omega)]
 rw[o3];omega
theorem numT_r(l:List Int)(hb:Bytes l)(hl:4≤l.length):R32 (numT l):=by
 rw[Qvq l hb hl];have:=leI_range (hb.take 4);rw[List.length_take,Nat.min_eq_left hl]at this;unfold R32;omega
theorem Qvr(s:ByteArray)(a:Nat)(h:a+4≤s.size):rval (s.extract a (a+4))=numT ((bytesOf s).drop a):=by
 rw[Qou s a (a+4) (by omega),Qvq _ ((Qom s).drop a) (by rw[List.length_drop,Qec];omega),Nat.add_sub_cancel_left]
theorem Qvs(s:ByteArray)(a:Nat)(h:a+4≤s.size):R32 (numT ((bytesOf s).drop a)):=numT_r _ ((Qom s).drop a) (by rw[List.length_drop,Qec];omega)
def RV32(v:V4):Prop:=R32 v.1∧R32 v.2.1∧R32 v.2.2.1∧R32 v.2.2.2
theorem Qvt(v:V4)(s:ByteArray)(hv:RV32 v)(h:16≤s.size):Quy v s=Qqd v (bytesOf s)∧RV32 (Qqd v (bytesOf s)):=by
 obtain⟨h1,h2,h3,h4⟩:=hv;have n0:=Qvr s 0 (by omega);have n1:=Qvr s 4 (by omega);have n2:=Qvr s 8 (by omega);have n3:=Qvr s 12 (by omega);have d0:=Qvs s 0 (by omega);have i0:=Qvp v.1 _ h1 d0;have i1:=Qvp v.2.1 _ h2 (Qvs s 4 (by omega));have i2:=Qvp v.2.2.1 _ h3 (Qvs s 8 (by omega));have i3:=Qvp v.2.2.2 _ h4 (Qvs s 12 (by omega));rw[List.drop_zero]at i0 n0;refine⟨?_,i0.2,i1.2,i2.2,i3.2⟩;unfold Quy Qqd;rw[Nat.zero_add]at n0;rw[n0,n1,n2,n3,i0.1,i1.1,i2.1,i3.1]
theorem Qvu:∀(m:Nat) (v:V4) (s:ByteArray),16*m≤s.size→RV32 v→(run3 m v s).1=Qqe m v (bytesOf s)∧bytesOf (run3 m v s).2=(bytesOf s).drop (16*m)∧RV32 (Qqe m v (bytesOf s))
 | 0,v,s,_,hv=>⟨rfl,by simp[run3],hv⟩
 | m+1,v,s,h,hv=>by
  have hsz:(s.extract 16 s.size).size=s.size-16:=by simp
  have hb:bytesOf (s.extract 16 s.size)=(bytesOf s).drop 16:=Qph s 16;obtain⟨e1,e2⟩:=Qvt v s hv (by omega);obtain⟨h1,h2,h3⟩:=Qvu m (Quy v s) (s.extract 16 s.size) (by omega) (by rw[e1];exact e2);rw[hb,e1]at h1 h3;refine⟨?_,?_,h3⟩
  ·show(run3 m (Quy v s) (s.extract 16 s.size)).1=Qqe m (Qqd v (bytesOf s)) ((bytesOf s).drop 16);rw[e1];exact h1
  ·show bytesOf (run3 m (Quy v s) (s.extract 16 s.size)).2=_;rw[h2,hb,List.drop_drop]
   congr 1
   omega
theorem Qvv(sd:Int)(h:R32 sd):Quz sd=V0T sd∧RV32 (V0T sd):=by
 have h0:=h.1;have h1:=h.2;refine⟨?_,em32 _,em32 _,h,em32 _⟩;unfold Quz V0T;rw[IntWalk.u64_in sd (by omega),IntWalk.u64_in (sd+2654435761) (by omega),IntWalk.u64_in (sd+2654435761+2246822519) (by omega),IntWalk.u64_in (sd+2246822519) (by omega),IntWalk.u64_in (sd+4294967296) (by omega),IntWalk.u64_in (sd+4294967296-2654435761) (by omega),tm32 (by omega),tm32 (by omega),tm32 (by omega)];rw[show(sd+4294967296-2654435761)%4294967296=(sd-2654435761)%4294967296 by omega]
theorem Qvw(V:V4)(hV:RV32 V):sum3 V=sumT V∧R32 (sumT V):=by
 obtain⟨h1,h2,h3,h4⟩:=hV;obtain⟨a1,a2,a3⟩:=Qvo V.1 1 h1 (by omega) (by omega);obtain⟨b1,b2,b3⟩:=Qvo V.2.1 7 h2 (by omega) (by omega);obtain⟨c1,c2,c3⟩:=Qvo V.2.2.1 12 h3 (by omega) (by omega);obtain⟨d1,d2,d3⟩:=Qvo V.2.2.2 18 h4 (by omega) (by omega);unfold sum3 sumT;rw[a1,b1,c1,d1];rw[show((1:Nat):Int)=1 from rfl]at *;rw[show((7:Nat):Int)=7 from rfl]at *;rw[show((12:Nat):Int)=12 from rfl]at *;rw[show((18:Nat):Int)=18 from rfl]at *;generalize rotT V.1 1=a at *;generalize rotT V.2.1 7=b at *;generalize rotT V.2.2.1 12=c at *;generalize rotT V.2.2.2 18=d at *;rw[IntWalk.u64_in (a+b) (by omega),IntWalk.u64_in (a+b+c) (by omega),IntWalk.u64_in (a+b+c+d) (by omega),tm32 (by omega)];simp only[IntKind.wrap_u32];exact⟨by omega,em32 _⟩
theorem Qvx(sd:Int)(s:ByteArray)(h:R32 sd):(Qvb sd s).1=(Qqf sd (bytesOf s)).1∧bytesOf (Qvb sd s).2=(Qqf sd (bytesOf s)).2∧R32 (Qqf sd (bytesOf s)).1:=by
 unfold Qvb Qqf;rw[Qec]
 by_cases h16:16≤s.size
 ·rw[if_pos h16,if_neg (by omega)];obtain⟨i1,i2⟩:=Qvv sd h;obtain⟨r1,r2,r3⟩:=Qvu (s.size/16) (V0T sd) s (by omega) i2;obtain⟨s1,s2⟩:=Qvw _ r3;rw[i1];dsimp only;exact⟨by rw[r1,s1],r2,s2⟩
 ·rw[if_neg h16,if_pos (by omega)];have h0:=h.1;have h1:=h.2;dsimp only;refine⟨?_,rfl,em32 _⟩;rw[IntWalk.u64_in sd (by omega),IntWalk.u64_in _ (by omega),tm32 (by omega)]
theorem Qvy(h:Int)(s:ByteArray)(hh:R32 h)(hs:4≤s.size):Qvc h s=Qqj h (bytesOf s)∧R32 (Qqj h (bytesOf s)):=by
 have n0:=Qvr s 0 (by omega);have d0:=Qvs s 0 (by omega);rw[List.drop_zero]at n0 d0;rw[Nat.zero_add]at n0;unfold Qvc Qqj;rw[n0];generalize numT (bytesOf s)=x at *;have h0:=hh.1;have h1:=hh.2;have x0:=d0.1;have x1:=d0.2;rw[IntWalk.u64_in (x*3266489917) (by omega),IntWalk.u64_in (h+x*3266489917) (by omega),tm32 (x:=h+x*3266489917) (by omega)];obtain⟨e1,e2,e3⟩:=Qvo ((h+x*3266489917)%4294967296) 17 (em32 _) (by omega) (by omega);rw[e1];rw[show((17:Nat):Int)=17 from rfl]at *;generalize rotT ((h+x*3266489917)%4294967296) 17=z at *;rw[IntWalk.u64_in _ (by omega),tm32 (by omega)];exact⟨rfl,em32 _⟩
theorem Qvz:∀(m:Nat) (h:Int) (s:ByteArray),4*m≤s.size→R32 h→(Qvd m h s).1=Qqk m h (bytesOf s)∧bytesOf (Qvd m h s).2=(bytesOf s).drop (4*m)∧R32 (Qqk m h (bytesOf s))
 | 0,h,s,_,hv=>⟨rfl,by simp[Qvd],hv⟩
 | m+1,h,s,hs,hv=>by
  have hsz:(s.extract 4 s.size).size=s.size-4:=by simp
  have hb:bytesOf (s.extract 4 s.size)=(bytesOf s).drop 4:=Qph s 4;obtain⟨e1,e2⟩:=Qvy h s hv (by omega);obtain⟨h1,h2,h3⟩:=Qvz m (Qvc h s) (s.extract 4 s.size) (by omega) (by rw[e1];exact e2);rw[hb,e1]at h1 h3;refine⟨?_,?_,h3⟩
  ·show(Qvd m (Qvc h s) (s.extract 4 s.size)).1=Qqk m (Qqj h (bytesOf s)) ((bytesOf s).drop 4);rw[e1];exact h1
  ·show bytesOf (Qvd m (Qvc h s) (s.extract 4 s.size)).2=_;rw[h2,hb,List.drop_drop]
   congr 1
   omega
theorem Qwa(h x:Int)(hh:R32 h)(hx:0≤x∧x<256):one3 h x=oneT h x∧R32 (oneT h x):=by
 unfold one3 oneT;have h0:=hh.1;have h1:=hh.2;rw[IntWalk.u64_in x (by omega),IntWalk.u64_in (x*374761393) (by omega),IntWalk.u64_in (h+x*374761393) (by omega),tm32 (x:=h+x*374761393) (by omega),show x%4294967296=x by omega];obtain⟨e1,e2,e3⟩:=Qvo ((h+x*374761393)%4294967296) 11 (em32 _) (by omega) (by omega);rw[e1];rw[show((11:Nat):Int)=11 from rfl]at *;generalize rotT ((h+x*374761393)%4294967296) 11=z at *;rw[IntWalk.u64_in _ (by omega),tm32 (by omega)];exact⟨rfl,em32 _⟩
theorem Qwb:∀(l:List Int) (h:Int),Bytes l→R32 h→l.foldl one3 h=l.foldl oneT h∧R32 (l.foldl oneT h)
 | [],h,_,hh=>⟨rfl,hh⟩
 | x :: l,h,hb,hh=>by
  obtain⟨e1,e2⟩:=Qwa h x hh (hb x (by simp));have:=Qwb l (oneT h x) (fun y hy=>hb y (List.mem_cons_of_mem _ hy)) e2;rw[List.foldl_cons,List.foldl_cons,e1];exact this
theorem Qwc(x n:Nat)(hx:x<4294967296)(hn:n≤32):Quu (x:Int) n=((x ^^^ x/2^n:Nat):Int):=by
 have key:∀(d i:Nat),i+d=n→Qba.l0 (d+1) (x:Int) ((x/2^i:Nat):Int) (n:Int) (i:Int)=some ((x ^^^ x/2^n:Nat):Int):=by
  intro d
  induction d with
  | zero =>
   intro i h;unfold Qba.l0;obtain rfl:i=n:=by omega
   have:=Nat.div_le_self x (2^i);rw[if_neg (by omega),bits_xor_u64_nat _ _ (by omega) (by omega)]
  | succ d ih =>
   intro i h;unfold Qba.l0;have hq:=Nat.div_le_self x (2^i);rw[if_pos (by omega),show wrap64 ((i:Int)+1)=((i+1:Nat):Int)by unfold wrap64;omega,Int.tdiv_eq_ediv_of_nonneg (Int.natCast_nonneg _)];have e:IntKind.u64.wrap (((x/2^i:Nat):Int)/2)=((x/2^(i+1):Nat):Int):=by
    rw[Nat.pow_succ,← Nat.div_div_eq_div_mul];generalize x/2^i=y at *;rw[IntWalk.u64_in _ (by omega)];omega
   rw[e];exact ih (i+1) (by omega)
 have h:=key n 0 (by omega);unfold Quu Qba.f;rw[Nat.pow_zero,Nat.div_one,show((0:Nat):Int)=0 from rfl]at h;rw[h];rfl
theorem xor_r(x n:Nat)(hx:x<4294967296):x ^^^ x/2^n<4294967296:=by
 have:=Nat.div_le_self x (2^n);have h:=Nat.xor_lt_two_pow (x:=x) (y:=x/2^n) (n:=32) (by omega) (by omega);omega
theorem Qwd(x:Int)(n:Nat)(p q:Int)(hx:R32 x)(hn:n≤32)(hp:0≤p∧p<4294967296)(hq:q=((2^n:Nat):Int)):Int.tmod (IntKind.u64.wrap (Quu x n*p)) 4294967296=mixT x q p∧R32 (mixT x q p):=by
 obtain⟨y,rfl⟩:=Int.eq_ofNat_of_zero_le hx.1;have hy:=hx.2;have hr:=xor_r y n (by omega);have hdiv:=Nat.div_le_self y (2^n);subst hq;unfold mixT;rw[Qwc y n (by omega) hn,← Int.natCast_ediv,Qvj _ _ (by omega) (by omega)];generalize y ^^^ y/2^n=z at *;refine⟨?_,em32 _⟩;have hz:(z:Int)*p<18446744073709551616:=by
  have h1:(z:Int)*p≤(z:Int)*4294967295:=Int.mul_le_mul_of_nonneg_left (by omega) (by omega);omega
 have hz0:0≤(z:Int)*p:=Int.mul_nonneg (by omega) hp.1;rw[IntWalk.u64_in _ ⟨hz0,by omega⟩,tm32 hz0]
theorem Qwe(h:Int)(hh:R32 h):fin3 h=finT h∧R32 (finT h):=by
 unfold fin3 finT;obtain⟨a1,a2⟩:=Qwd h 15 2246822519 32768 hh (by omega) (by omega) (by decide);rw[a1];obtain⟨b1,b2⟩:=Qwd _ 13 3266489917 8192 a2 (by omega) (by omega) (by decide);rw[b1];generalize mixT (mixT h 32768 2246822519) 8192 3266489917=x at *;obtain⟨y,rfl⟩:=Int.eq_ofNat_of_zero_le b2.1;have hy:=b2.2;have hr:=xor_r y 16 (by omega);have hdiv:=Nat.div_le_self y (2^16);rw[Qwc y 16 (by omega) (by omega),show(65536:Int)=((2^16:Nat):Int)by decide,← Int.natCast_ediv,Qvj _ _ (by omega) (by omega)];exact⟨rfl,by unfold R32;omega⟩
theorem Qwf(sd:Int)(s:ByteArray)(hsd:R32 sd)(hs:s.size≤4611686018427387904):doc3 sd s=Qqm sd (bytesOf s)∧R32 (Qqm sd (bytesOf s)):=by
 obtain⟨s1,s2,s3⟩:=Qvx sd s hsd;unfold doc3 Qvf Qvg Qqm;rw[Qec];dsimp only;have hlen:(Qvb sd s).2.size/4=(Qqf sd (bytesOf s)).2.length/4:=by rw[← s2,Qec]
 have hl2:(Qqf sd (bytesOf s)).2.length=(Qvb sd s).2.size:=by rw[← s2,Qec]
 rw[s1];have e0:=s3.1;have e1:=s3.2;generalize (Qqf sd (bytesOf s)).1=h0 at *;rw[IntWalk.u64_in _ (by omega),tm32 (by omega)];have hm:=em32 (h0+(s.size:Int)%4294967296);generalize (h0+(s.size:Int)%4294967296)%4294967296=x at *;unfold Qve Qql;obtain⟨f1,f2,f3⟩:=Qvz ((Qvb sd s).2.size/4) x (Qvb sd s).2 (by omega) hm;rw[s2]at f1 f2 f3;rw[f1,f2,hl2];have hb:Bytes (Qqf sd (bytesOf s)).2:=by rw[← s2];exact Qom _
 obtain⟨o1,o2⟩:=Qwb ((Qqf sd (bytesOf s)).2.drop (4*((Qvb sd s).2.size/4))) _ (hb.drop _) f3;rw[o1];exact Qwe _ o2
theorem doc_same(sd:Int)(s:ByteArray)(hsd:R32 sd)(hs:s.size≤4611686018427387904):IntKind.u32.wrap (doc3 sd s)=Qqm sd (bytesOf s):=by
 obtain⟨h1,h2⟩:=Qwf sd s hsd hs;have a:=h2.1;have b:=h2.2;rw[h1,IntWalk.u32_in _ (by omega)]
theorem rdR(l:List Rec)(i:Nat)(h:i<l.length):Qkk l (i:Int)=l[i]:=by simp[Qkk,List.getElem?_eq_getElem h]
def chkR(r:Rec):Int:=chk r.f0 r.f2 r.f3
def chkL:List Rec→Int
 | []=>0
 | r :: t=>if chkR r=0 then chkL t else chkR r
def ordL:List Rec→Int
 | []=>0
 | [_]=>0
 | a :: b :: t=>if b.f1≤a.f1 then 8 else ordL (b :: t)
def risL(l:List Rec):Int:=if chkL l=0 then ordL l else chkL l
theorem Qyu{l:List Rec}(h:chkL l=0):∀r∈l,chkR r=0:=by
 induction l with
 | nil=>intro r hr;cases hr
 | cons a t ih =>
  unfold chkL at h
  by_cases ha:chkR a=0
  ·rw[if_pos ha]at h;intro r hr
   rcases List.mem_cons.1 hr with rfl|hr
   ·exact ha
   ·exact ih h r hr
  ·rw[if_neg ha]at h;exact absurd h ha
theorem check_k(k:Nat)(d:Bool)(s:Int)(key v:ByteArray)(hk:1≤k):Qdg.f k d s key v=some (chk d key v) :=
 Qei (g:=fun k=>Qdg.f k d s key v) (Qdg.mono d s key v) hk (Qqp d s key v)
theorem nil_ne(v:ByteArray):(v.toList != ([]:List UInt8))=decide ((v.size:Int) > 0):=by
 rw[Bool.eq_iff_iff,bne_iff_ne,decide_eq_true_iff,Ne,Qwy];omega
theorem Qyv(k:Nat)(d:Bool)(s:Int)(key v:ByteArray)(hk:1≤k):Qbj.f k d s key v=some (chk d key v):=by
 obtain⟨k,rfl⟩:∃m,k=m+1:=⟨k-1,by omega⟩;unfold Qbj.f chk
 by_cases h0:key.toList=([]:List UInt8)
 ·rw[if_pos h0,if_pos (by have:=(Qwy key).1 h0;omega)]
 ·rw[if_neg h0,if_neg (by intro h;exact h0 ((Qwy key).2 (by omega)))]
  by_cases h1:(key.size:Int) > 4096
  ·rw[if_pos h1,if_pos h1]
  ·rw[if_neg h1,if_neg h1,nil_ne]
   cases d
   ·simp only[Bool.false_eq_true,if_false,Bool.false_and,Qbj.j0];split<;>rfl
   ·simp only[if_true,Bool.true_and,Qbj.j0];split
    ·rfl
    ·split<;>rfl
theorem Qyw{l:List Rec}{i:Nat}(h:i+1<l.length):ordL (l.drop i)=if l[i+1].f1≤l[i].f1 then 8 else ordL (l.drop (i+1)):=by
 rw[List.drop_eq_getElem_cons (by omega),List.drop_eq_getElem_cons h];rfl
theorem Qyx{l:List Rec}(h:l.length≤1):ordL l=0:=by
 match l,h with
 | [],_=>rfl
 | [_],_=>rfl
theorem Qyy(l:List Rec)(hl:l.length≤4611686018427387903):∀(d i k:Nat),i+d=l.length→d+1≤k→Qdh.l1 k l ((i+1:Nat):Int)=some (ordL (l.drop i))
 | 0,i,k,h,hk=>by
  obtain⟨k,rfl⟩:∃m,k=m+1:=⟨k-1,by omega⟩;unfold Qdh.l1;rw[if_neg (by omega),Qyx qq_19]
 | d+1,i,k,h,hk=>by
  obtain⟨k,rfl⟩:∃m,k=m+1:=⟨k-1,by omega⟩;unfold Qdh.l1
  by_cases hi:i+1<l.length
  ·have w1:=Qxa (i+1) (by omega) (by omega);rw[Nat.add_sub_cancel]at w1;rw[if_pos (by omega),if_pos (by omega),w1,if_pos (by omega),if_pos (by omega),rdR l (i+1) hi,rdR l i (by omega),Qyw hi]
   by_cases ho:l[i+1].f1≤l[i].f1
   ·rw[if_pos ho,if_pos ho]
   ·rw[if_neg ho,if_neg ho,Qwz (i+1) (by omega)];exact Qyy l hl d (i+1) k (by omega) (by omega)
  ·rw[if_neg (by omega),Qyx qq_19]
theorem Qyz(l:List Rec)(hl:l.length≤4611686018427387903):∀(d i k:Nat),i+d=l.length→d+l.length+5≤k→Qdh.l0 k l l (l.length:Int) (i:Int)=some (if chkL (l.drop i)=0 then ordL l else chkL (l.drop i))
 | 0,i,k,h,hk=>by
  obtain⟨k,rfl⟩:∃m,k=m+1:=⟨k-1,by omega⟩;unfold Qdh.l0;rw[if_neg (by omega),List.drop_of_length_le (by omega)];exact Qyy l hl l.length 0 k (by omega) (by omega)
 | d+1,i,k,h,hk=>by
  obtain⟨k,rfl⟩:∃m,k=m+1:=⟨k-1,by omega⟩;have hi:i<l.length:=by omega
  unfold Qdh.l0;rw[if_pos (by omega),if_pos (by omega),if_pos (by omega),rdR l i hi,check_k k _ _ _ _ (by omega),Option.bind_some,List.drop_eq_getElem_cons hi];unfold chkL
  by_cases hc:chkR l[i]=0
  ·rw[if_pos hc,if_pos (show chk l[i].f0 l[i].f2 l[i].f3=0 from hc),Qwz i (by omega)];exact Qyz l hl d (i+1) k (by omega) (by omega)
  ·rw[if_neg hc,if_neg (show ¬chk l[i].f0 l[i].f2 l[i].f3=0 from hc),if_neg hc];rfl
theorem ris_prog(l:List Rec)(k:Nat)(hl:l.length≤4611686018427387903)(hk:2*l.length+5≤k):Qdh.f k l=some (risL l) :=
 Qyz l hl l.length 0 k (by omega) (by omega)
theorem rris_l1(l:List Rec)(hl:l.length≤4611686018427387903):∀(d i k:Nat),i+d=l.length→d+1≤k→Qbk.l1 k l l (l.length:Int) ((i+1:Nat):Int)=some (ordL (l.drop i))
 | 0,i,k,h,hk=>by
  obtain⟨k,rfl⟩:∃m,k=m+1:=⟨k-1,by omega⟩;unfold Qbk.l1;rw[if_neg (by omega),Qyx qq_19]
 | d+1,i,k,h,hk=>by
  obtain⟨k,rfl⟩:∃m,k=m+1:=⟨k-1,by omega⟩;unfold Qbk.l1
  by_cases hi:i+1<l.length
  ·have w1:=Qxa (i+1) (by omega) (by omega);rw[Nat.add_sub_cancel]at w1;rw[if_pos (by omega),if_pos (by omega),if_pos (by omega),if_pos (by omega),w1,if_pos (by omega),if_pos (by omega),rdR l (i+1) hi,rdR l i (by omega),Qyw hi]
   by_cases ho:l[i+1].f1≤l[i].f1
   ·rw[if_pos ho,if_pos ho]
   ·rw[if_neg ho,if_neg ho,Qwz (i+1) (by omega)];exact rris_l1 l hl d (i+1) k (by omega) (by omega)
  ·rw[if_neg (by omega),Qyx qq_19]
theorem rris_l1z(l:List Rec)(hl:l.length≤4611686018427387903)(k:Nat)(hk:l.length+3≤k):Qbk.l1 k l l (l.length:Int) 0=some (ordL l):=by
 obtain⟨k,rfl⟩:∃m,k=m+1:=⟨k-1,by omega⟩;unfold Qbk.l1
 by_cases h0:(0:Int)<(l.length:Int)
 ·rw[if_pos h0,if_pos (by omega),if_pos h0,if_neg (by omega),show wrap64 (0+1)=((0+1:Nat):Int)by unfold wrap64;omega];exact rris_l1 l hl l.length 0 k (by omega) (by omega)
 ·rw[if_neg h0,Qyx (by omega)]
theorem rris_l0(l:List Rec)(hl:l.length≤4611686018427387903):∀(d i k:Nat),i+d=l.length→d+l.length+5≤k→Qbk.l0 k l l (l.length:Int) (i:Int)=some (if chkL (l.drop i)=0 then ordL l else chkL (l.drop i))
 | 0,i,k,h,hk=>by
  obtain⟨k,rfl⟩:∃m,k=m+1:=⟨k-1,by omega⟩;unfold Qbk.l0;rw[if_neg (by omega),List.drop_of_length_le (by omega)];exact rris_l1z l hl k (by omega)
 | d+1,i,k,h,hk=>by
  obtain⟨k,rfl⟩:∃m,k=m+1:=⟨k-1,by omega⟩;have hi:i<l.length:=by omega
  unfold Qbk.l0;rw[if_pos (by omega),if_pos (by omega),if_pos (by omega),rdR l i hi,Qyv k _ _ _ _ (by omega),Option.bind_some,List.drop_eq_getElem_cons hi];unfold chkL
  by_cases hc:chkR l[i]=0
  ·rw[if_pos hc,if_pos (show chk l[i].f0 l[i].f2 l[i].f3=0 from hc),Qwz i (by omega)];exact rris_l0 l hl d (i+1) k (by omega) (by omega)
  ·rw[if_neg hc,if_neg (show ¬chk l[i].f0 l[i].f2 l[i].f3=0 from hc),if_neg hc];rfl
theorem ris_ref(l:List Rec)(k:Nat)(hl:l.length≤4611686018427387903)(hk:2*l.length+5≤k):Qbk.f k l=some (risL l) :=
 rris_l0 l hl l.length 0 k (by omega) (by omega)
def frameL(r:Rec):List Int:=Qqw (Qqr r.f0 r.f1 r.f2 r.f3)
def fsz(r:Rec):Int:=((frameL r).length:Int)
def Wf(l:List Rec):Prop:=∀r∈l,0≤r.f1∧r.f1<18446744073709551616
theorem bodyL_len(d:Bool)(s:Int)(key v:ByteArray):(Qqr d s key v).length≤key.size+v.size+31:=by
 have h1:=Qml 9 s;have h2:=Qml 9 (key.size:Int);have h3:=Qml 9 (v.size:Int);have h4:=Qec key;have h5:=Qec v
 cases d
 ·simp only[Qqr,List.length_append,List.length_cons,List.length_nil,Bool.false_eq_true,if_false];omega
 ·simp only[Qqr,List.length_append,List.length_cons,List.length_nil,if_true];omega
theorem sealL_len(b:List Int):0<(Qqw b).length∧(Qqw b).length≤2*b.length+18:=by
 have h:=Qqx _ (b++leb (Qnm 0 b) 8) (Nat.le_refl _);rw[List.length_append,Qld]at h;unfold Qqw;rw[List.length_append];simp;omega
theorem fsz_range(r:Rec)(hc:chkR r=0):1≤fsz r∧fsz r≤8388608:=by
 have h1:=Qqq hc;have h2:=bodyL_len r.f0 r.f1 r.f2 r.f3;have h3:=sealL_len (Qqr r.f0 r.f1 r.f2 r.f3);unfold fsz frameL;omega
theorem put_good(r:Rec)(hc:chkR r=0)(h0:0≤r.f1)(h1:r.f1<18446744073709551616):Qcq.f r.f0 r.f1 r.f2 r.f3=some (frameL r,0):=by
 have h2:=Qqq hc;have h3:=bodyL_len r.f0 r.f1 r.f2 r.f3;unfold Qcq.f Qdf.f;rw[if_pos h0,if_pos h1,if_pos (show chk r.f0 r.f2 r.f3=0 from hc),Option.bind_some,if_pos rfl];unfold Qcr.f;rw[if_pos (by dsimp only;omega),Option.bind_some];rfl
def planS(e s:Int)(l:List Rec):List Int × Int:=Qym e s (l.map fsz) [] 0 (Qxn e s 0) 0
theorem take_map{l:List Rec}{i:Nat}(h:i<l.length):(l.take (i+1)).map fsz=(l.take i).map fsz++[fsz l[i]]:=by rw[List.take_succ_eq_append_getElem h,List.map_append];rfl
theorem iplan_run{e s:Int}(h:Good e s)(l:List Rec)(hl:l.length≤1000000)(hw:Wf l)(hc:chkL l=0):∀(d i k:Nat),i+d=l.length→d+l.length+5≤k →
  Qcv.l0 k ((l.take i).map fsz) l (l.length:Int) (i:Int) e s=some ((planS e s l).1,l.map fsz,(planS e s l).2)
 | 0,i,k,hi,hk=>by
  obtain⟨k,rfl⟩:∃m,k=m+1:=⟨k-1,by omega⟩;unfold Qcv.l0;rw[if_neg (by omega),List.take_of_length_le (by omega),Qyr h (l.map fsz) k (by rw[List.length_map];exact hl) (fun x hx=>by
   obtain⟨r,hr,rfl⟩:=List.mem_map.1 hx;have:=fsz_range r (Qyu hc r hr);omega) (by rw[List.length_map];omega),Option.bind_some]
  rfl
 | d+1,i,k,hi,hk=>by
  obtain⟨k,rfl⟩:∃m,k=m+1:=⟨k-1,by omega⟩;have hil:i<l.length:=by omega
  have hr:=List.getElem_mem hil;have hln:((l.take i).map fsz).length=i:=by rw[List.length_map,List.length_take];omega
  unfold Qcv.l0;rw[if_pos (by omega),if_pos (by omega),if_pos (by omega),rdR l i hil,put_good l[i] (Qyu hc _ hr) (hw _ hr).1 (hw _ hr).2,Option.bind_some,if_pos (by omega),Qwz i (by omega)];have:=iplan_run h l hl hw hc d (i+1) k (by omega) (by omega);rw[take_map hil]at this;exact this
def planSpec(e s:Int)(l:List Rec):List Int × List Int × Int:=if 12≤e∧e≤24∧1≤s∧s≤65536 then if risL l=0 then((planS e s l).1,l.map fsz,(planS e s l).2)else([],[],risL l)else([],[],1)
theorem risL_chk{l:List Rec}(h:risL l=0):chkL l=0:=by
 unfold risL at h
 by_cases hc:chkL l=0
 ·exact hc
 ·rw[if_neg hc]at h;exact h
theorem plan_is(e s:Int)(l:List Rec)(k:Nat)(hl:l.length≤1000000)(hw:Wf l)(hk:2*l.length+10≤k):Qcv.f k e s l=some (planSpec e s l):=by
 unfold Qcv.f planSpec
 by_cases hg:12≤e∧e≤24∧1≤s∧s≤65536
 ·rw[Qxs hg,Option.bind_some,if_pos rfl,if_pos hg,ris_prog l k (by omega) (by omega),Option.bind_some]
  by_cases hr:risL l=0
  ·rw[if_pos hr,if_pos hr];exact iplan_run hg l hl hw (risL_chk hr) l.length 0 k (by omega) (by omega)
  ·rw[if_neg hr,if_neg hr]
 ·rw[Qxt hg,Option.bind_some,if_neg (by decide),if_neg hg]
theorem rplan_run{e s:Int}(h:Good e s)(l:List Rec)(hl:l.length≤1000000)(hw:Wf l)(hc:chkL l=0):∀(d i k:Nat),i+d=l.length→d+l.length+2200000≤k →
  Qck.l0 k ((l.take i).map fsz) l (l.length:Int) (i:Int) e s=some ((planS e s l).1,(planS e s l).2)
 | 0,i,k,hi,hk=>by
  obtain⟨k,rfl⟩:∃m,k=m+1:=⟨k-1,by omega⟩;unfold Qck.l0;rw[if_neg (by omega),List.take_of_length_le (by omega),Qyt h (l.map fsz) k (by rw[List.length_map];exact hl) (fun x hx=>by
   obtain⟨r,hr,rfl⟩:=List.mem_map.1 hx;have:=fsz_range r (Qyu hc r hr);omega) (by rw[List.length_map];omega),Option.bind_some]
  rfl
 | d+1,i,k,hi,hk=>by
  obtain⟨k,rfl⟩:∃m,k=m+1:=⟨k-1,by omega⟩;have hil:i<l.length:=by omega
  have hr:=List.getElem_mem hil;have hz:=Qqq (Qyu hc _ hr);have hln:((l.take i).map fsz).length=i:=by rw[List.length_map,List.length_take];omega
  obtain⟨t,ht,hb⟩:=Qxj k l[i].f0 l[i].f1 l[i].f2 l[i].f3 (hw _ hr).1 (hw _ hr).2 (by omega) (by omega) (by omega);have hts:(t.size:Int)=fsz l[i]:=by rw[Qos,hb];rfl
  unfold Qck.l0;rw[if_pos (by omega),if_pos (by omega),if_pos (by omega),rdR l i hil,ht,Option.bind_some,if_pos (by omega),Qwz i (by omega),hts];have:=rplan_run h l hl hw hc d (i+1) k (by omega) (by omega);rw[take_map hil]at this;exact this
theorem rplan_is(e s:Int)(l:List Rec)(k:Nat)(hl:l.length≤1000000)(hw:Wf l)(hk:2*l.length+2200010≤k):Qck.f k e s l=some ((planSpec e s l).1,(planSpec e s l).2.2):=by
 unfold Qck.f planSpec
 by_cases hg:12≤e∧e≤24∧1≤s∧s≤65536
 ·rw[Qxu hg,Option.bind_some,if_pos rfl,if_pos hg,ris_ref l k (by omega) (by omega),Option.bind_some]
  by_cases hr:risL l=0
  ·rw[if_pos hr,if_pos hr];exact rplan_run hg l hl hw (risL_chk hr) l.length 0 k (by omega) (by omega)
  ·rw[if_neg hr,if_neg hr]
 ·rw[may_bad hg,Option.bind_some,if_neg (by decide),if_neg hg]
theorem planP_ok(e s:Int):∀(l out:List Int) (n u c:Int),0≤n→n<s→(∀x∈out,0≤x∧x<s)→(Qym e s l out n u c).2=0 →
  (Qym e s l out n u c).1.length=out.length+l.length∧∀x∈(Qym e s l out n u c).1,0≤x∧x<s
 | [],out,n,u,c,h0,h1,ho,h=>⟨by simp[Qym],ho⟩
 | x :: t,out,n,u,c,h0,h1,ho,h=>by
  unfold Qym at h ⊢
  by_cases hf:Qyc e (Qxn e s (s-1)) 0 x=false
  ·rw[if_pos hf]at h;cases h
  ·rw [if_neg hf]at h ⊢
   by_cases hq:Qyc e u c x=true
   ·rw[if_pos hq]at h ⊢;have:=planP_ok e s t (out++[n]) n (u+x) (c+1) h0 h1 (fun y hy=>by
     rcases List.mem_append.1 hy with hy|hy
     ·exact ho y hy
     ·simp at hy;omega) h
    refine⟨?_,this.2⟩;rw[this.1,List.length_append,List.length_cons];simp;omega
   ·rw[if_neg hq]at h ⊢
    by_cases hs:n+1<s
    ·rw[if_pos hs]at h ⊢;have:=planP_ok e s t (out++[n+1]) (n+1) (Qxn e s (n+1)+x) 1 (by omega) hs (fun y hy=>by
      rcases List.mem_append.1 hy with hy|hy
      ·exact ho y hy
      ·simp at hy;omega) h
     refine⟨?_,this.2⟩;rw[this.1,List.length_append,List.length_cons];simp;omega
    ·rw[if_neg hs]at h;cases h
abbrev Plc:=S69
def placeL(e s:Int):Option Int→Int→List Int→List Int→List Plc
 | prev,at_,x :: into,z :: sizes =>
  (⟨x,(if prev=some x then at_ else Qxn e s x)%4294967296⟩:Plc) :: placeL e s (some x) ((if prev=some x then at_ else Qxn e s x)+z) into sizes
 | _,_,_,_=>[]
theorem plan_parts{e s:Int}{l:List Rec}(h:(planSpec e s l).2.2=0)(hl:l.length≤1000000) :
  Good e s∧risL l=0∧(planS e s l).2=0∧planSpec e s l=((planS e s l).1,l.map fsz,0)∧(planS e s l).1.length=l.length∧∀x∈(planS e s l).1,0≤x∧x<s:=by
 unfold planSpec at h ⊢
 by_cases hg:12≤e∧e≤24∧1≤s∧s≤65536
 ·rw[if_pos hg]at h ⊢
  by_cases hr:risL l=0
  ·rw[if_pos hr]at h ⊢;have h2:(planS e s l).2=0:=h;have:=planP_ok e s (l.map fsz) [] 0 (Qxn e s 0) 0 (by omega) (by omega) (by simp) h2;refine⟨hg,hr,h2,by rw[h2],?_,this.2⟩;have h3:(planS e s l).1.length=_:=this.1;rw[h3,List.length_map];simp
  ·rw[if_neg hr]at h;exact absurd h hr
 ·rw[if_neg hg]at h;cases h
def lastSeg(into:List Int):Int:=if into.length=0 then 0 else(rd into ((into.length:Int)-1)+1)%4294967296
end Go.Proofs.YtnnofopfbeklbaaGreat.CodecP
end
