/- Merged texts. -/
import Derived.Test.YteaocbonofboeaaGreatMA02
import Derived.Test.YteaocbonofboeaaGreatMA23
import Derived.Test.YteaocbonofboeaaGreatMA05
import Derived.Test.YteaocbonofboeaaGreatMA10
import Derived.Test.YteaocbonofboeaaGreatMA15
import Derived.Test.YteaocbonofboeaaGreatMA11
import Derived.Test.YteaocbonofboeaaGreatMA16
import Derived.Test.YteaocbonofboeaaGreatMA18
import Derived.Test.YteaocbonofboeaaGreatMA00
import Derived.SizedLaws
import Derived.Deep.Slices
import Derived.Lib.SmallJoins
import Derived.ChangeArms
import Derived.Test.YteaocbonofboeaaGreatMA24
set_option linter.unusedVariables false
set_option linter.unusedSimpArgs false
set_option maxHeartbeats 8000000
set_option maxRecDepth 100000
section
namespace Go.Proofs.YteaocbonofboeaaGreat.C
open Go.RowKit Go.Proofs.YteaocbonofboeaaGreatW.PrintWords Go.Proofs.YteaocbonofboeaaGreatW.PrintLast Go.Proofs.YteaocbonofboeaaGreatW.PrintMore
attribute [local go_sem] Qiz Qja Qjb Qjc Qjd Qje Qjf Qjg
def Qbe.f(k:Nat)  : Option (Bool):=(Qar.f k (([1,2,3]:List Int)) (([(⟨1,9⟩:S158)]:List (S158))) 2).bind fun t375=>((Qba.f).bind fun t378=>(if t378=true then(some ((strOfNums t375).toList == ([1,9]:List UInt8)))else(some false)))
theorem Qbe.calls(k:Nat) (r:Bool)(w:World)(h:Qbe.f k  = some r) :
  Calls Tryz.prog 38 #[] w fun e w'=>e=.returned (.bool r)∧Below w.heap.size w w':=by
 have hu158:=Tryz.underlying158;have hu81:=Tryz.underlying81;have HB:=QA (Below.refl w.heap.size w);have H:((Qar.f k (([1,2,3]:List Int)) (([(⟨1,9⟩:S158)]:List (S158))) 2).bind fun b=>((Qba.f).bind fun c=>(if c=true then(some ((strOfNums b).toList == ([1,9]:List UInt8)))else(some false))))=some r:=h;clear h;obtain⟨j,d⟩:∃y_:List Int,y_=(([1,2,3]:List Int)):=⟨_,rfl⟩;replace H:((Qar.f k j (([(⟨1,9⟩:S158)]:List (S158))) 2).bind fun b=>((Qba.f).bind fun c=>(if c=true then(some ((strOfNums b).toList == ([1,9]:List UInt8)))else(some false))))=some r:=by first |(rw[d];with_reducible exact H) |(have n:=(Option.bind_some _ _).symm.trans H;rw[d];with_reducible exact n) |(have n:=(Option.bind_some _ _).symm.trans H;with_reducible exact n)|with_reducible exact H |(rw[d];exact H)|exact H
 have l:=QA d;clear d;obtain⟨o,g⟩:∃y_:List (S158),y_=(([(⟨1,9⟩:S158)]:List (S158))):=⟨_,rfl⟩;replace H:((Qar.f k j o 2).bind fun b=>((Qba.f).bind fun c=>(if c=true then(some ((strOfNums b).toList == ([1,9]:List UInt8)))else(some false))))=some r:=by first |(rw[g];with_reducible exact H) |(have n:=(Option.bind_some _ _).symm.trans H;rw[g];with_reducible exact n) |(have n:=(Option.bind_some _ _).symm.trans H;with_reducible exact n)|with_reducible exact H |(rw[g];exact H)|exact H
 have m:=QA g;clear g;replace H:=Option.bind_eq_some_iff.mp H;obtain⟨b,v,H⟩:=H;have A1:=QA v;clear v;replace H:=Option.bind_eq_some_iff.mp H;obtain⟨c,x,H⟩:=H;have A2:=QA x;clear x
 by_cases c3:c=true
 ·subst c3;rw[if_pos rfl]at H;obtain rfl:=Option.some.inj H
  go_enter Tryz.func38,Tryz.ntmps38
  go_wp2_with (first |((with_reducible refine Qgj (N:=2) rfl ?_);refine Kd.R_lit (Kd.int .u8) _ 5 ?hg (N:=2) ?hd (xs:=([1,2,3]:List Int)) (inner:=[.int .u8 1,.int .u8 2,.int .u8 3]) (ok:=fun _=>True) (okp:=fun _=>True) ?hr ?hp (fun _ hk=>hk) trivial (Below.refl _ _) (Nat.le_refl _) (by simp) ?_;(case hd=>rfl);(case hg=>rfl);(case hr=>exact qq_20);(case hp=>exact(Reps.one (show Kd.M (Kd.int .u8) _ _ _ 1 [.int .u8 1] from rfl) (Reps.one (show Kd.M (Kd.int .u8) _ _ _ 2 [.int .u8 2] from rfl) (Reps.one (show Kd.M (Kd.int .u8) _ _ _ 3 [.int .u8 3] from rfl) (Reps.none _ _)))));intro y w4 t hb hg_ hnew_;clear hg_ hnew_;(first|rw[← l.out]at t |(simp only[Int.reduceToNat]at t;rw[← l.out]at t));have n_:=qn2 (Kd.R_lower t (Qfx qq_b)) (Qfy qq_b hb);clear HB;obtain⟨HO371,HB⟩:=n_;clear hb t) |((with_reducible refine Qgj (N:=4) rfl ?_);refine Kd.R_lit k158 _ 158 ?hg (N:=4) ?hd (xs:=([(⟨1,9⟩:S158)]:List (S158))) (inner:=[.int .u64 1,.int .u8 9]) (ok:=fun _=>True) (okp:=fun _=>True) ?hr ?hp (fun _ hk=>hk) trivial (Below.refl _ _) (Nat.le_refl _) (by simp) ?_;(case hd=>rfl);(case hg=>rfl);(case hr=>exact qq_20);(case hp=>exact(Reps.c2 (show Kd.M k158 _ _ _ (⟨1,9⟩:S158) [.int .u64 1,.int .u8 9] from(Qkm _ _ _ (⟨1,9⟩:S158) )) (Reps.none _ _)));intro z w6 u hb hg_ hnew_;clear hg_ hnew_;(first|rw[← m.out]at u |(simp only[Int.reduceToNat]at u;rw[← m.out]at u));have n_:=qn3 (Kd.R_below qq_22 hb) (Kd.R_lower u (Qfx qq_b)) (Qfy qq_b hb);clear HO371 HB;obtain⟨HO371,HO374,HB⟩:=n_;clear hb u;obtain⟨Ao8,co8,eo8⟩:=Kd.R_slice HO374.out;subst eo8;obtain⟨Ao9,co9,eo9⟩:=Kd.R_slice HO371.out;subst eo9) |((with_reducible refine Qjh (f:=39) rfl ?_);refine Qhf (some 6) rfl rfl Tryz.func39 qq_6 rfl #[.slice Ao9 j.length co9,.agg #[.slice Ao8 o.length co8,.int .i64 2]] rfl qq_1 ?_;(with_reducible refine(Qar.calls k _ _ j _ _ o 2 b _ ?side1 ?side2 ?side3 ?side4 A1.out).mono ?_);(case side1=>repeat(first|exact(Kd.R_reads' HO371.out).2.2 |(with_reducible refine Kd.C_alloc ?_ _) |(with_reducible refine Kd.C_drewN ?_ _) |(with_reducible refine Kd.C_drew ?_)));(case side2=>exact(Kd.R_reads' HO371.out).2.1);(case side3=>repeat(first|exact(Kd.R_reads' HO374.out).2.2 |(with_reducible refine Kd.C_alloc ?_ _) |(with_reducible refine Kd.C_drewN ?_ _) |(with_reducible refine Kd.C_drew ?_)));(case side4=>exact(Kd.R_reads' HO374.out).2.1);rintro e D ⟨A,rfl,p,hb⟩;refine⟨_,rfl,?_⟩;have n_:=qn4 (Kd.R_elder' qq_22 (Kd.R_base p) hb) (Kd.R_below qq_36 hb) (Kd.R_lower (Kd.R_new' p (Kd.R_lt qq_22)) (Qfx qq_b)) (Qfy qq_b hb);clear HO371 HO374 HB;obtain⟨HO371,HO374,a,HB⟩:=n_;(try clear hb);(try clear hb2);(try clear hk);(try clear hi);(try clear p)) |((with_reducible refine Qjh (f:=23) rfl ?_);refine Qhf (some 7) rfl rfl Tryz.func23 qq_6 rfl #[] rfl qq_1 ?_;(with_reducible refine(Qba.calls  true _ A2.out).mono ?_);rintro e E ⟨rfl,hb⟩;refine⟨_,rfl,?_⟩;have n_:=qn4 (Kd.R_below qq_22 hb) (Kd.R_below qq_36 hb) (Kd.R_below (by(with_reducible repeat(first|apply Kd.R_alloc|apply Kd.R_drewN|apply Kd.R_drew));exact a.out) hb) (Qfy qq_b hb);clear HO371 HO374 a HB;obtain⟨HO371,HO374,a,HB⟩:=n_;(try clear hb);(try clear hb2);(try clear hk);(try clear hi);have B:=Qdt (P:=Tryz.prog) Tryz.underlying40 Tryz.underlying5 Tryz.underlying9 (Kd.own_of_R a.out)))
  go_ret
  exact⟨qq_5,qq_b⟩
 ·replace c3:=Bool.eq_false_iff.mpr c3;subst c3;rw[if_neg (show ¬(false=true)by decide)]at H;obtain rfl:=Option.some.inj H
  go_enter Tryz.func38,Tryz.ntmps38
  go_wp2_with (first |((with_reducible refine Qgj (N:=2) rfl ?_);refine Kd.R_lit (Kd.int .u8) _ 5 ?hg (N:=2) ?hd (xs:=([1,2,3]:List Int)) (inner:=[.int .u8 1,.int .u8 2,.int .u8 3]) (ok:=fun _=>True) (okp:=fun _=>True) ?hr ?hp (fun _ hk=>hk) trivial (Below.refl _ _) (Nat.le_refl _) (by simp) ?_;(case hd=>rfl);(case hg=>rfl);(case hr=>exact qq_20);(case hp=>exact(Reps.one (show Kd.M (Kd.int .u8) _ _ _ 1 [.int .u8 1] from rfl) (Reps.one (show Kd.M (Kd.int .u8) _ _ _ 2 [.int .u8 2] from rfl) (Reps.one (show Kd.M (Kd.int .u8) _ _ _ 3 [.int .u8 3] from rfl) (Reps.none _ _)))));intro y G q hb hg_ hnew_;clear hg_ hnew_;(first|rw[← l.out]at q |(simp only[Int.reduceToNat]at q;rw[← l.out]at q));have n_:=qn2 (Kd.R_lower q (Qfx qq_b)) (Qfy qq_b hb);clear HB;obtain⟨HO371,HB⟩:=n_;clear hb q) |((with_reducible refine Qgj (N:=4) rfl ?_);refine Kd.R_lit k158 _ 158 ?hg (N:=4) ?hd (xs:=([(⟨1,9⟩:S158)]:List (S158))) (inner:=[.int .u64 1,.int .u8 9]) (ok:=fun _=>True) (okp:=fun _=>True) ?hr ?hp (fun _ hk=>hk) trivial (Below.refl _ _) (Nat.le_refl _) (by simp) ?_;(case hd=>rfl);(case hg=>rfl);(case hr=>exact qq_20);(case hp=>exact(Reps.c2 (show Kd.M k158 _ _ _ (⟨1,9⟩:S158) [.int .u64 1,.int .u8 9] from(Qkm _ _ _ (⟨1,9⟩:S158) )) (Reps.none _ _)));intro z I s hb hg_ hnew_;clear hg_ hnew_;(first|rw[← m.out]at s |(simp only[Int.reduceToNat]at s;rw[← m.out]at s));have n_:=qn3 (Kd.R_below qq_22 hb) (Kd.R_lower s (Qfx qq_b)) (Qfy qq_b hb);clear HO371 HB;obtain⟨HO371,HO374,HB⟩:=n_;clear hb s;obtain⟨Ao17,co17,eo17⟩:=Kd.R_slice HO374.out;subst eo17;obtain⟨Ao18,co18,eo18⟩:=Kd.R_slice HO371.out;subst eo18) |((with_reducible refine Qjh (f:=39) rfl ?_);refine Qhf (some 6) rfl rfl Tryz.func39 qq_6 rfl #[.slice Ao18 j.length co18,.agg #[.slice Ao17 o.length co17,.int .i64 2]] rfl qq_1 ?_;(with_reducible refine(Qar.calls k _ _ j _ _ o 2 b _ ?side1 ?side2 ?side3 ?side4 A1.out).mono ?_);(case side1=>repeat(first|exact(Kd.R_reads' HO371.out).2.2 |(with_reducible refine Kd.C_alloc ?_ _) |(with_reducible refine Kd.C_drewN ?_ _) |(with_reducible refine Kd.C_drew ?_)));(case side2=>exact(Kd.R_reads' HO371.out).2.1);(case side3=>repeat(first|exact(Kd.R_reads' HO374.out).2.2 |(with_reducible refine Kd.C_alloc ?_ _) |(with_reducible refine Kd.C_drewN ?_ _) |(with_reducible refine Kd.C_drew ?_)));(case side4=>exact(Kd.R_reads' HO374.out).2.1);rintro e J ⟨A,rfl,p,hb⟩;refine⟨_,rfl,?_⟩;have n_:=qn4 (Kd.R_elder' qq_22 (Kd.R_base p) hb) (Kd.R_below qq_36 hb) (Kd.R_lower (Kd.R_new' p (Kd.R_lt qq_22)) (Qfx qq_b)) (Qfy qq_b hb);clear HO371 HO374 HB;obtain⟨HO371,HO374,a,HB⟩:=n_;(try clear hb);(try clear hb2);(try clear hk);(try clear hi);(try clear p)) |((with_reducible refine Qjh (f:=23) rfl ?_);refine Qhf (some 7) rfl rfl Tryz.func23 qq_6 rfl #[] rfl qq_1 ?_;(with_reducible refine(Qba.calls  false _ A2.out).mono ?_);rintro e K ⟨rfl,hb⟩;refine⟨_,rfl,?_⟩;have n_:=qn4 (Kd.R_below qq_22 hb) (Kd.R_below qq_36 hb) (Kd.R_below (by(with_reducible repeat(first|apply Kd.R_alloc|apply Kd.R_drewN|apply Kd.R_drew));exact a.out) hb) (Qfy qq_b hb);clear HO371 HO374 a HB;obtain⟨HO371,HO374,a,HB⟩:=n_;(try clear hb);(try clear hb2);(try clear hk);(try clear hi)))
  go_ret
  exact⟨qq_5,qq_b⟩
mutual
def Qbd.j0:Nat→List (S37)→List (S37)→Int→Bool→Option (Bool)
 | 0,_,_,_,_=>none
 | k+1,x0,x1,x2,x21=>if x21=true then((Qbe.f k).bind fun t395=>(some t395))else(Qbd.l0 k x0 x1 x2 ([]:List (S37)) x1 (x1.length:Int) 0)
def Qbd.l0:Nat→List (S37)→List (S37)→Int→List (S37)→List (S37)→Int→Int→Option (Bool)
 | 0,_,_,_,_,_,_,_=>none
 | k+1,x0,x1,x2,x7,x23,x24,x25=>if x25<x24 then(if 0≤x25 then(if x25<(x23.length:Int)then(if(Go.bits .and .u32 (shr .u32 x2 x25) 1)=1 then(if x7.length<2932031007402 then(Qbd.l0 k x0 x1 x2 (x7++[(⟨(Qjw x23 x25).f0,(Qjw x23 x25).f1,(Qjw x23 x25).f2,(Qjw x23 x25).f3⟩:S37)]) x23 x24 (wrap64 (x25+1)))else(none))else(Qbd.l0 k x0 x1 x2 x7 x23 x24 (wrap64 (x25+1))))else(none))else(none))else((Qau.f k x0 x1).bind fun t401=>((Qce.f k x0 x1).bind fun t402=>(if(t401 == t402)=true then((Qau.f k x7 x1).bind fun t403=>(if t403=true then((Qau.f k ([]:List (S37)) x1).bind fun t404=>(some t404))else(some false)))else(some false))))
end
def Qbd.f(k:Nat)(l0:List (S37))(l1:List (S37))(a2:Int):Option (Bool):=(Qbe.f k).bind fun t392=>(if t392=true then((Qaw.f k l0 30 300).bind fun t393=>(if t393=true then((Qaw.f k l1 30 300).bind fun t394=>(Qbd.j0 k l0 l1 a2 (!t394)))else(Qbd.j0 k l0 l1 a2 true)))else(Qbd.j0 k l0 l1 a2 true))
theorem Qbd.calls (k:Nat) (A0:Option Addr) (c0:Nat) (l0:List (S37)) (A1:Option Addr) (c1:Nat) (l1:List (S37)) (a2:Int) (r:Bool) (w:World) (hr0:Kd.C k37 w A0 l0.length l0) (hc0:l0.length≤c0) (hr1:Kd.C k37 w A1 l1.length l1) (hc1:l1.length≤c1) (h:Qbd.f k l0 l1 a2=some r) :
  Calls Tryz.prog 7 #[.slice A0 l0.length c0,.slice A1 l1.length c1,.int .u32 a2] w fun e w'=>e=.returned (.bool r)∧Below w.heap.size w w':=by
 have hu37:=Tryz.underlying37;have D:=QA hr0;have E:=QA hc0;clear hr0 hc0;have u:=QA hr1;have y:=QA hc1;clear hr1 hc1;have HB:=QA (Below.refl w.heap.size w);have H:((Qbe.f k).bind fun O=>(if O=true then((Qaw.f k l0 30 300).bind fun P=>(if P=true then((Qaw.f k l1 30 300).bind fun L=>(Qbd.j0 k l0 l1 a2 (!L)))else(Qbd.j0 k l0 l1 a2 true)))else(Qbd.j0 k l0 l1 a2 true)))=some r:=h;clear h;have Z:=QA H;clear H
 go_enter Tryz.func7,Tryz.ntmps7
 go_upto_region 1 with(fail)
 go_cut [21] (fun aR wc=>∃(kq:Nat) (G:Bool),aR=.bool G∧Aside0 (Qbd.j0 kq l0 l1 a2 G=some r)∧Aside0 (kq≤k)∧Aside0 (Below w.heap.size w wc))
 case first =>
  have H:=Z.out;clear Z;replace H:=Option.bind_eq_some_iff.mp H;obtain⟨O,ax,H⟩:=H;have A5:=QA ax;clear ax
  by_cases c6:O=true
  ·subst c6;rw[if_pos rfl]at H;replace H:=Option.bind_eq_some_iff.mp H;obtain⟨P,ay,H⟩:=H;have A7:=QA ay;clear ay
   by_cases c8:P=true
   ·subst c8;rw[if_pos rfl]at H;replace H:=Option.bind_eq_some_iff.mp H;obtain⟨L,az,H⟩:=H;have A9:=QA az;clear az;have H':=QA H;clear H
    go_wp2_with (first |((with_reducible refine Qjh (f:=38) rfl ?_);refine Qhf (some 10) rfl rfl Tryz.func38 qq_6 rfl #[] rfl qq_1 ?_;(with_reducible refine(Qbe.calls k  true _ A5.out).mono ?_);rintro e bf ⟨rfl,hb⟩;refine⟨_,rfl,?_⟩;have n_:=qn1 (Qfy qq_b hb);clear HB;have HB:=n_;clear n_;(try clear hb);(try clear hb2);(try clear hk);(try clear hi)) |(go_at_call 15;(with_reducible refine(Qaw.calls k _ _ l0 30 300 true _ ?side1 ?side2 A7.out).mono ?_);(case side1=>repeat(first|exact(Kd.C_below D.out HB.out) |(with_reducible refine Kd.C_alloc ?_ _) |(with_reducible refine Kd.C_drewN ?_ _) |(with_reducible refine Kd.C_drew ?_)));(case side2=>exact E.out);rintro e bg ⟨rfl,hb⟩;have n_:=qn1 (Qfy qq_b hb);clear HB;have HB:=n_;clear n_;(try clear hb);(try clear hb2);(try clear hk);(try clear hi)) |(go_at_call 15;(with_reducible refine(Qaw.calls k _ _ l1 30 300 L _ ?side1 ?side2 A9.out).mono ?_);(case side1=>repeat(first|exact(Kd.C_below u.out HB.out) |(with_reducible refine Kd.C_alloc ?_ _) |(with_reducible refine Kd.C_drewN ?_ _) |(with_reducible refine Kd.C_drew ?_)));(case side2=>exact y.out);rintro e bh ⟨rfl,hb⟩;have n_:=qn1 (Qfy qq_b hb);clear HB;have HB:=n_;clear n_;(try clear hb);(try clear hb2);(try clear hk);(try clear hi)))
    go_meet
    case rel=>exact⟨_,(!L),qq_7,H',⟨by first|omega|exact Nat.le_refl _⟩,⟨qq_b⟩⟩
   ·replace c8:=Bool.eq_false_iff.mpr c8;subst c8;rw[if_neg (show ¬(false=true)by decide)]at H;have H':=QA H;clear H
    go_wp2_with (first |((with_reducible refine Qjh (f:=38) rfl ?_);refine Qhf (some 10) rfl rfl Tryz.func38 qq_6 rfl #[] rfl qq_1 ?_;(with_reducible refine(Qbe.calls k  true _ A5.out).mono ?_);rintro e bi ⟨rfl,hb⟩;refine⟨_,rfl,?_⟩;have n_:=qn1 (Qfy qq_b hb);clear HB;have HB:=n_;clear n_;(try clear hb);(try clear hb2);(try clear hk);(try clear hi)) |(go_at_call 15;(with_reducible refine(Qaw.calls k _ _ l0 30 300 false _ ?side1 ?side2 A7.out).mono ?_);(case side1=>repeat(first|exact(Kd.C_below D.out HB.out) |(with_reducible refine Kd.C_alloc ?_ _) |(with_reducible refine Kd.C_drewN ?_ _) |(with_reducible refine Kd.C_drew ?_)));(case side2=>exact E.out);rintro e bj ⟨rfl,hb⟩;have n_:=qn1 (Qfy qq_b hb);clear HB;have HB:=n_;clear n_;(try clear hb);(try clear hb2);(try clear hk);(try clear hi)))
    go_meet
    case rel=>exact⟨_,(true),qq_7,H',⟨by first|omega|exact Nat.le_refl _⟩,⟨qq_b⟩⟩
  ·replace c6:=Bool.eq_false_iff.mpr c6;subst c6;rw[if_neg (show ¬(false=true)by decide)]at H;have H':=QA H;clear H
   go_wp2_with (first |((with_reducible refine Qjh (f:=38) rfl ?_);refine Qhf (some 10) rfl rfl Tryz.func38 qq_6 rfl #[] rfl qq_1 ?_;(with_reducible refine(Qbe.calls k  false _ A5.out).mono ?_);rintro e bk ⟨rfl,hb⟩;refine⟨_,rfl,?_⟩;have n_:=qn1 (Qfy qq_b hb);clear HB;have HB:=n_;clear n_;(try clear hb);(try clear hb2);(try clear hk);(try clear hi)))
   go_meet
   case rel=>exact⟨_,(true),qq_7,H',⟨by first|omega|exact Nat.le_refl _⟩,⟨qq_b⟩⟩
 case rest =>
  clear Z
  try clear c1
  try clear c6
  try clear c8
  obtain⟨kq,G,rfl,HA,HJ3,HB⟩:=hcut
  cases kq with
  | zero=>exact absurd HA.out (by simp[Qbd.j0])
  | succ kj3 =>
   have H:=HA.out;clear HA;simp only[Qbd.j0]at H
   by_cases M:G=true
   ·subst M;rw[if_pos rfl]at H;replace H:=Option.bind_eq_some_iff.mp H;obtain⟨aC,aa,H⟩:=H;have aT:=QA aa;clear aa;obtain rfl:=Option.some.inj H
    go_wp2_with (first |((with_reducible refine Qjh (f:=38) rfl ?_);refine Qhf (some 22) rfl rfl Tryz.func38 qq_6 rfl #[] rfl qq_1 ?_;(with_reducible refine(Qbe.calls kj3  aC _ aT.out).mono ?_);rintro e bl ⟨rfl,hb⟩;refine⟨_,rfl,?_⟩;have n_:=qn1 (Qfy qq_b hb);clear HB;have HB:=n_;clear n_;(try clear hb);(try clear hb2);(try clear hk);(try clear hi)))
    go_ret
    exact⟨qq_5,qq_b⟩
   ·replace M:=Bool.eq_false_iff.mpr M;subst M;rw[if_neg (show ¬(false=true)by decide)]at H;have H':=QA H;clear H;go_wp2
    go_loopg [7,25] kj3 (fun kq v7 aU w'=>∃(d:List (S37)) (a:Int),aU=.int .i64 a∧Aside0 (Qbd.l0 kq l0 l1 a2 d l1 (l1.length:Int) a=some r)∧Aside0 (kq≤kj3)∧Aside0 (Kd.R k37 37 w' w.heap.size (fun _=>True) v7 d)∧Aside0 (Below w.heap.size w w'))
    case atStart=>exact⟨(([]:List (S37))),(0),qq_7,H',⟨Nat.le_refl _⟩,⟨by first|exact Kd.R_nil _ _ _ _ _|exact Kd.N_nil _ _ _ _ _|exact Kd.V_nil _ _ _ _ _|exact Kd.Q_nil _ _ _ _ _|exact Kd.S_nil _ _ _ _ _⟩,⟨qq_b⟩⟩
    case round =>
     clear H'
     try clear c1
     try clear c6
     try clear c8
     try clear M
     obtain⟨d,a,rfl,HA,HK2,HO_7,HB⟩:=hrel
     cases gk with
     | zero=>exact absurd HA.out (by simp[Qbd.l0])
     | succ k2 =>
      have H:=HA.out;clear HA;simp only[Qbd.l0]at H
      by_cases K:a<(l1.length:Int)
      ·rw [if_pos K]at H;have aj:=decide_eq_true K;clear K
       by_cases U:0≤a
       ·rw [if_pos U]at H;have aY:=decide_eq_true U;clear U
        by_cases W:a<(l1.length:Int)
        ·rw[if_pos W]at H;have aZ:=decide_eq_true W;clear W;have ba:=eq_true (of_decide_eq_true qq_3:0≤a);obtain⟨v,I⟩:∃j_:Int,(shr .u32 a2 a)=j_:=⟨_,rfl⟩;replace H:(if(Go.bits .and .u32 (v) 1)=1 then(if d.length<2932031007402 then(Qbd.l0 k2 l0 l1 a2 (d++[(⟨(Qjw l1 a).f0,(Qjw l1 a).f1,(Qjw l1 a).f2,(Qjw l1 a).f3⟩:S37)]) l1 (l1.length:Int) (wrap64 (a+1)))else(none))else(Qbd.l0 k2 l0 l1 a2 d l1 (l1.length:Int) (wrap64 (a+1))))=some r:=by first |(rw[I]at H;exact H) |(simp only[I]at H ⊢;exact H)
         have aV:(a2/2^min a.toNat 32)=v:=I;have aW:a≤32→(a2/2^a.toNat)=v:=Qjk I
         by_cases J:(Go.bits .and .u32 (v) 1)=1
         ·rw[if_pos J]at H;have ak:((Go.bits .and .u32 (v) 1) == 1)=true:=beq_iff_eq.mpr J;have al:((Go.bits .and .u32 (v) 1) != 1)=false:=bne_eq_false_iff_eq.mpr J;clear J
          by_cases X:d.length<2932031007402
          ·rw[if_pos X]at H;have am:=QA X;clear X;obtain⟨ab,B⟩:∃y_:List (S37),y_=(d++[(⟨(Qjw l1 a).f0,(Qjw l1 a).f1,(Qjw l1 a).f2,(Qjw l1 a).f3⟩:S37)]):=⟨_,rfl⟩;replace H:(Qbd.l0 k2 l0 l1 a2 ab l1 (l1.length:Int) (wrap64 (a+1)))=some r:=by first |(rw[B];with_reducible exact H) |(have ac:=(Option.bind_some _ _).symm.trans H;rw[B];with_reducible exact ac) |(have ac:=(Option.bind_some _ _).symm.trans H;with_reducible exact ac)|with_reducible exact H |(rw[B];exact H)|exact H
           have an:=QA B;clear B;have H':=QA H;clear H;have z:0≤(a:Int):=of_decide_eq_true qq_3;have A:a<(l1.length:Int):=of_decide_eq_true qq_3;obtain⟨ao,T,m,n,q,s⟩:=Qjx u.out a z A
           cases T
           replace m:=qq_h HB.out m;replace n:=qq_h HB.out n;replace q:=qq_h HB.out q;replace s:=qq_h HB.out s;replace z:=eq_true z;replace A:=eq_true A
           go_wp2_with (first |((with_reducible refine Qgj (N:=9) rfl ?_);refine qq_e 9 #[.bool false,.int .u64 0,.string (⟨#[]⟩:ByteArray),.string (⟨#[]⟩:ByteArray)] 37 ?_;intro c hg bn hbox hb;have n_:=qn5 (Kd.R_below (Kd.R_elderB qq_4 c (Nat.le_of_eq hg.symm)) hb) (Qfy qq_b hb) (hbox) (qq_s hg:w.heap.size≤c) (qq_s hg:w.heap.size≤c);clear HO_7 HB;obtain⟨HO_7,HB,t,ap,aq⟩:=n_;clear hb hbox hg;obtain⟨aG,aH,aI,aJ⟩:=qc4 t.out;have bb:=Qej t.out) |((with_reducible refine Qji (b:=.append) (xs:=#[.tmp 35,.tmp 37]) rfl ?_);at_builtin;refine Kd.R_append k37 (w0:=w) w.heap.size rfl (.tmp 35) (.tmp 37) 22 37 (.agg #[(.bool false),(.int .u64 0),(.string ⟨#[]⟩),(.string ⟨#[]⟩)]) 48 rfl Tryz.underlying22 Qjr rfl (by decide) (by omega) u7 d (⟨(Qjw l1 a).f0,(Qjw l1 a).f1,(Qjw l1 a).f2,(Qjw l1 a).f3⟩:S37) [.bool ((Qjw l1 a).f0),.int .u64 ((Qjw l1 a).f1),.string ((Qjw l1 a).f2),.string ((Qjw l1 a).f3)] (fun k_=>k_≠c) (fun _=>False) rfl qq_20 ?aP (fun _ hk=>hk.elim) ?aF ?aO ?aB ?aS ?aL ?_;(case aP=>exact Qjv _ _ _ (⟨(Qjw l1 a).f0,(Qjw l1 a).f1,(Qjw l1 a).f2,(Qjw l1 a).f3⟩:S37));(case aB=>exact qq_b);(case aF=>exact(fun k_ hk=>Kd.freshB (g:=c) (o:=.cells #[.bool ((Qjw l1 a).f0),.int .u64 ((Qjw l1 a).f1),.string ((Qjw l1 a).f2),.string ((Qjw l1 a).f3)] 37 (0,0)) qq_x k_ hk));(case aO=>exact(by(with_reducible repeat(first|apply Kd.R_alloc|apply Kd.R_drewN|apply Kd.R_drew));exact Kd.R_mono (Kd.R_far (p:=⟨c,3,none⟩) (Kd.R_far (p:=⟨c,2,none⟩) (Kd.R_far (p:=⟨c,1,none⟩) (Kd.R_far (p:=⟨c,0,none⟩) (Kd.R_mono HO_7.out (fun k_ hk=>(⟨hk,hk.2⟩:_∧k_≠c))) (fun _ hk=>hk.2) (.bool ((Qjw l1 a).f0))) (fun _ hk=>hk.2) (.int .u64 ((Qjw l1 a).f1))) (fun _ hk=>hk.2) (.string ((Qjw l1 a).f2))) (fun _ hk=>hk.2) (.string ((Qjw l1 a).f3))) (fun _ hk=>hk.1.2)));(case aS=>exact(Qfx qq_b));(case aL=>have:=am.out;omega);intro be bo ho hb hg hat;rw[← an.out]at ho;have n_:=qn3 (Qek (g:=c) (o:=.cells #[.bool ((Qjw l1 a).f0),.int .u64 ((Qjw l1 a).f1),.string ((Qjw l1 a).f2),.string ((Qjw l1 a).f3)] 37 (0,0)) qq_x hg (Kd.R_away HO_7.out (fun _ hk=>hk.2))) (hb) (ho);clear t HB HO_7;obtain⟨t,HB,ar⟩:=n_;clear ho hb hg hat))
           go_roundg k2
           case measure=>have:=HJ3.out;have:=HK2.out;omega
           case rel=>exact⟨(ab),(wrap64 (a+1)),qq_7,H',⟨by have:=HJ3.out;have:=HK2.out;omega⟩,⟨by(with_reducible repeat(first|apply Kd.R_alloc|apply Kd.R_drewN|apply Kd.R_drew));exact Kd.R_mono ar.out (fun _ hk=>trivial)⟩,⟨qq_b⟩⟩
          ·rw[if_neg X]at H;exact absurd H (by simp)
         ·rw[if_neg J]at H;have ak:((Go.bits .and .u32 (v) 1) == 1)=false:=beq_eq_false_iff_ne.mpr J;have al:((Go.bits .and .u32 (v) 1) != 1)=true:=bne_iff_ne.mpr J;have H':=QA H;clear H;have z:0≤(a:Int):=of_decide_eq_true qq_3;have A:a<(l1.length:Int):=of_decide_eq_true qq_3;obtain⟨ao,T,m,n,q,s⟩:=Qjx u.out a z A
          cases T
          replace m:=qq_h HB.out m;replace n:=qq_h HB.out n;replace q:=qq_h HB.out q;replace s:=qq_h HB.out s;replace z:=eq_true z;replace A:=eq_true A
          go_wp2_with (first |((with_reducible refine Qgj (N:=9) rfl ?_);refine qq_e 9 #[.bool false,.int .u64 0,.string (⟨#[]⟩:ByteArray),.string (⟨#[]⟩:ByteArray)] 37 ?_;intro c hg bp hbox hb;have n_:=qn5 (Kd.R_below (Kd.R_elderB qq_4 c (Nat.le_of_eq hg.symm)) hb) (Qfy qq_b hb) (hbox) (qq_s hg:w.heap.size≤c) (qq_s hg:w.heap.size≤c);clear HO_7 HB;obtain⟨HO_7,HB,t,ap,aq⟩:=n_;clear hb hbox hg;obtain⟨aK,aM,aN,aQ⟩:=qc4 t.out;have bc:=Qej t.out))
          go_roundg k2
          case measure=>have:=HJ3.out;have:=HK2.out;omega
          case rel=>exact⟨(d),(wrap64 (a+1)),qq_7,H',⟨by have:=HJ3.out;have:=HK2.out;omega⟩,⟨by(with_reducible repeat(first|apply Kd.R_alloc|apply Kd.R_drewN|apply Kd.R_drew));exact Kd.R_mono (Kd.R_far (p:=⟨c,3,none⟩) (Kd.R_far (p:=⟨c,2,none⟩) (Kd.R_far (p:=⟨c,1,none⟩) (Kd.R_far (p:=⟨c,0,none⟩) (Kd.R_mono HO_7.out (fun k_ hk=>(⟨hk,hk.2⟩:_∧k_≠c))) (fun _ hk=>hk.2) (.bool ((Qjw l1 a).f0))) (fun _ hk=>hk.2) (.int .u64 ((Qjw l1 a).f1))) (fun _ hk=>hk.2) (.string ((Qjw l1 a).f2))) (fun _ hk=>hk.2) (.string ((Qjw l1 a).f3))) (fun _ hk=>trivial)⟩,⟨qq_b⟩⟩
        ·rw[if_neg W]at H;exact absurd H (by simp)
       ·rw[if_neg U]at H;exact absurd H (by simp)
      ·rw[if_neg K]at H;have aj:=decide_eq_false K;clear K;replace H:=Option.bind_eq_some_iff.mp H;obtain⟨j,ad,H⟩:=H;have ae:=QA ad;clear ad;replace H:=Option.bind_eq_some_iff.mp H;obtain⟨l,af,H⟩:=H;have ag:=QA af;clear af
       by_cases x:(j == l)=true
       ·rw[if_pos x]at H;have au:(j == l)=true:=x
        (try(have av:decide (j=l)=true:=by simpa using x))
        (try(have aw:(j == l)=true:=by simpa using x))
        clear x;replace H:=Option.bind_eq_some_iff.mp H;obtain⟨aD,ah,H⟩:=H;have aA:=QA ah;clear ah
        by_cases Y:aD=true
        ·subst Y;rw[if_pos rfl]at H;replace H:=Option.bind_eq_some_iff.mp H;obtain⟨aE,ai,H⟩:=H;have aX:=QA ai;clear ai;obtain rfl:=Option.some.inj H
         go_wp2_with (first |((with_reducible refine Qjh (f:=44) rfl ?_);refine Qhf (some 42) rfl rfl Tryz.func44 qq_6 rfl #[.slice A0 l0.length c0,.slice A1 l1.length c1] rfl qq_1 ?_;(with_reducible refine(Qau.calls k2 _ _ l0 (fun k_=>k_<w.heap.size) _ _ l1 j _ ?side1 ?side2 ?side3 ae.out).mono ?_);(case side1=>repeat(first|exact(Kd.C_below D.out HB.out) |(with_reducible refine Kd.C_alloc ?_ _) |(with_reducible refine Kd.C_drewN ?_ _) |(with_reducible refine Kd.C_drew ?_)));(case side2=>exact E.out);(case side3=>exact Kd.V_mk y.out (Kd.F_below (Kd.C_F Qjt u.out) qq_b));rintro e bq ⟨rfl,hb⟩;refine⟨_,rfl,?_⟩;have n_:=qn2 (Kd.R_below qq_4 hb) (Qfy qq_b hb);clear HO_7 HB;obtain⟨HO_7,HB⟩:=n_;(try clear hb);(try clear hb2);(try clear hk);(try clear hi)) |((with_reducible refine Qjh (f:=45) rfl ?_);refine Qhf (some 45) rfl rfl Tryz.func45 qq_6 rfl #[.slice A0 l0.length c0,.slice A1 l1.length c1] rfl qq_1 ?_;(with_reducible refine(Qce.calls k2 _ _ l0 _ _ l1 l _ ?side1 ?side2 ?side3 ?side4 ag.out).mono ?_);(case side1=>repeat(first|exact(Kd.C_below D.out HB.out) |(with_reducible refine Kd.C_alloc ?_ _) |(with_reducible refine Kd.C_drewN ?_ _) |(with_reducible refine Kd.C_drew ?_)));(case side2=>exact E.out);(case side3=>repeat(first|exact(Kd.C_below u.out HB.out) |(with_reducible refine Kd.C_alloc ?_ _) |(with_reducible refine Kd.C_drewN ?_ _) |(with_reducible refine Kd.C_drew ?_)));(case side4=>exact y.out);rintro e br ⟨rfl,hb⟩;refine⟨_,rfl,?_⟩;have n_:=qn2 (Kd.R_below qq_4 hb) (Qfy qq_b hb);clear HO_7 HB;obtain⟨HO_7,HB⟩:=n_;(try clear hb);(try clear hb2);(try clear hk);(try clear hi);obtain⟨Ao39,co39,eo39⟩:=Kd.R_slice HO_7.out;subst eo39) |(go_at_call 44;(with_reducible refine(Qau.calls k2 _ _ d (fun k_=>k_<w.heap.size) _ _ l1 true _ ?side1 ?side2 ?side3 aA.out).mono ?_);(case side1=>repeat(first|exact(Kd.R_reads' HO_7.out).2.2 |(with_reducible refine Kd.C_alloc ?_ _) |(with_reducible refine Kd.C_drewN ?_ _) |(with_reducible refine Kd.C_drew ?_)));(case side2=>exact(Kd.R_reads' HO_7.out).2.1);(case side3=>exact Kd.V_mk y.out (Kd.F_below (Kd.C_F Qjt u.out) qq_b));rintro e bs ⟨rfl,hb⟩;have n_:=qn2 (Kd.R_below qq_4 hb) (Qfy qq_b hb);clear HO_7 HB;obtain⟨HO_7,HB⟩:=n_;(try clear hb);(try clear hb2);(try clear hk);(try clear hi)) |(go_at_call 44;(refine(Qau.calls k2 _ _ ([]:List (S37)) (fun k_=>k_<w.heap.size) _ _ l1 aE _ ?side1 ?side2 ?side3 aX.out).mono ?_);(case side1=>exact Kd.C_nil _ _);(case side2=>exact Nat.le_refl _);(case side3=>exact Kd.V_mk y.out (Kd.F_below (Kd.C_F Qjt u.out) qq_b));rintro e bu ⟨rfl,hb⟩;have n_:=qn2 (Kd.R_below qq_4 hb) (Qfy qq_b hb);clear HO_7 HB;obtain⟨HO_7,HB⟩:=n_;(try clear hb);(try clear hb2);(try clear hk);(try clear hi)))
         go_ret
         exact⟨qq_5,qq_b⟩
        ·replace Y:=Bool.eq_false_iff.mpr Y;subst Y;rw[if_neg (show ¬(false=true)by decide)]at H;obtain rfl:=Option.some.inj H
         go_wp2_with (first |((with_reducible refine Qjh (f:=44) rfl ?_);refine Qhf (some 42) rfl rfl Tryz.func44 qq_6 rfl #[.slice A0 l0.length c0,.slice A1 l1.length c1] rfl qq_1 ?_;(with_reducible refine(Qau.calls k2 _ _ l0 (fun k_=>k_<w.heap.size) _ _ l1 j _ ?side1 ?side2 ?side3 ae.out).mono ?_);(case side1=>repeat(first|exact(Kd.C_below D.out HB.out) |(with_reducible refine Kd.C_alloc ?_ _) |(with_reducible refine Kd.C_drewN ?_ _) |(with_reducible refine Kd.C_drew ?_)));(case side2=>exact E.out);(case side3=>exact Kd.V_mk y.out (Kd.F_below (Kd.C_F Qjt u.out) qq_b));rintro e bv ⟨rfl,hb⟩;refine⟨_,rfl,?_⟩;have n_:=qn2 (Kd.R_below qq_4 hb) (Qfy qq_b hb);clear HO_7 HB;obtain⟨HO_7,HB⟩:=n_;(try clear hb);(try clear hb2);(try clear hk);(try clear hi)) |((with_reducible refine Qjh (f:=45) rfl ?_);refine Qhf (some 45) rfl rfl Tryz.func45 qq_6 rfl #[.slice A0 l0.length c0,.slice A1 l1.length c1] rfl qq_1 ?_;(with_reducible refine(Qce.calls k2 _ _ l0 _ _ l1 l _ ?side1 ?side2 ?side3 ?side4 ag.out).mono ?_);(case side1=>repeat(first|exact(Kd.C_below D.out HB.out) |(with_reducible refine Kd.C_alloc ?_ _) |(with_reducible refine Kd.C_drewN ?_ _) |(with_reducible refine Kd.C_drew ?_)));(case side2=>exact E.out);(case side3=>repeat(first|exact(Kd.C_below u.out HB.out) |(with_reducible refine Kd.C_alloc ?_ _) |(with_reducible refine Kd.C_drewN ?_ _) |(with_reducible refine Kd.C_drew ?_)));(case side4=>exact y.out);rintro e bw ⟨rfl,hb⟩;refine⟨_,rfl,?_⟩;have n_:=qn2 (Kd.R_below qq_4 hb) (Qfy qq_b hb);clear HO_7 HB;obtain⟨HO_7,HB⟩:=n_;(try clear hb);(try clear hb2);(try clear hk);(try clear hi);obtain⟨Ao44,co44,eo44⟩:=Kd.R_slice HO_7.out;subst eo44) |(go_at_call 44;(with_reducible refine(Qau.calls k2 _ _ d (fun k_=>k_<w.heap.size) _ _ l1 false _ ?side1 ?side2 ?side3 aA.out).mono ?_);(case side1=>repeat(first|exact(Kd.R_reads' HO_7.out).2.2 |(with_reducible refine Kd.C_alloc ?_ _) |(with_reducible refine Kd.C_drewN ?_ _) |(with_reducible refine Kd.C_drew ?_)));(case side2=>exact(Kd.R_reads' HO_7.out).2.1);(case side3=>exact Kd.V_mk y.out (Kd.F_below (Kd.C_F Qjt u.out) qq_b));rintro e bx ⟨rfl,hb⟩;have n_:=qn2 (Kd.R_below qq_4 hb) (Qfy qq_b hb);clear HO_7 HB;obtain⟨HO_7,HB⟩:=n_;(try clear hb);(try clear hb2);(try clear hk);(try clear hi)))
         go_ret
         exact⟨qq_5,qq_b⟩
       ·rw[if_neg x]at H;have au:(j == l)=false:=by simpa using x
        (try(have av:decide (j=l)=false:=by simpa using x))
        (try(have aw:(j == l)=false:=by simpa using x))
        (try(have bd:¬(j=l):=by simpa using x))
        clear x;obtain rfl:=Option.some.inj H
        go_wp2_with (first |((with_reducible refine Qjh (f:=44) rfl ?_);refine Qhf (some 42) rfl rfl Tryz.func44 qq_6 rfl #[.slice A0 l0.length c0,.slice A1 l1.length c1] rfl qq_1 ?_;(with_reducible refine(Qau.calls k2 _ _ l0 (fun k_=>k_<w.heap.size) _ _ l1 j _ ?side1 ?side2 ?side3 ae.out).mono ?_);(case side1=>repeat(first|exact(Kd.C_below D.out HB.out) |(with_reducible refine Kd.C_alloc ?_ _) |(with_reducible refine Kd.C_drewN ?_ _) |(with_reducible refine Kd.C_drew ?_)));(case side2=>exact E.out);(case side3=>exact Kd.V_mk y.out (Kd.F_below (Kd.C_F Qjt u.out) qq_b));rintro e bz ⟨rfl,hb⟩;refine⟨_,rfl,?_⟩;have n_:=qn2 (Kd.R_below qq_4 hb) (Qfy qq_b hb);clear HO_7 HB;obtain⟨HO_7,HB⟩:=n_;(try clear hb);(try clear hb2);(try clear hk);(try clear hi)) |((with_reducible refine Qjh (f:=45) rfl ?_);refine Qhf (some 45) rfl rfl Tryz.func45 qq_6 rfl #[.slice A0 l0.length c0,.slice A1 l1.length c1] rfl qq_1 ?_;(with_reducible refine(Qce.calls k2 _ _ l0 _ _ l1 l _ ?side1 ?side2 ?side3 ?side4 ag.out).mono ?_);(case side1=>repeat(first|exact(Kd.C_below D.out HB.out) |(with_reducible refine Kd.C_alloc ?_ _) |(with_reducible refine Kd.C_drewN ?_ _) |(with_reducible refine Kd.C_drew ?_)));(case side2=>exact E.out);(case side3=>repeat(first|exact(Kd.C_below u.out HB.out) |(with_reducible refine Kd.C_alloc ?_ _) |(with_reducible refine Kd.C_drewN ?_ _) |(with_reducible refine Kd.C_drew ?_)));(case side4=>exact y.out);rintro e bA ⟨rfl,hb⟩;refine⟨_,rfl,?_⟩;have n_:=qn2 (Kd.R_below qq_4 hb) (Qfy qq_b hb);clear HO_7 HB;obtain⟨HO_7,HB⟩:=n_;(try clear hb);(try clear hb2);(try clear hk);(try clear hi)))
        go_ret
        exact⟨qq_5,qq_b⟩
mutual
def Qbc.j0:Nat→List (S37)→Bool→Int→Int→Option (Bool)
 | 0,_,_,_,_=>none
 | k+1,x1,x21,x512000,x512001=>if x21=true then((Qbe.f k).bind fun t515=>(some t515))else((Qcc.f k x512000 x512001 x1).bind fun bt516=>((Qav.f k x512000 x512001 x1 ([]:List (S158)) (-1)).bind fun bt520=>(if bt520.2=bt516.2 then(Qbc.l0 k x1 bt520.1 bt520.2 bt520.1 (bt520.1.length:Int) 0)else(some false))))
def Qbc.l0:Nat→List (S37)→List Bool→Int→List Bool→Int→Int→Option (Bool)
 | 0,_,_,_,_,_,_=>none
 | k+1,x1,x7,x8,x39,x40,x41=>if x41<x40 then(if 0≤x41 then(if x41<(x39.length:Int)then(if rdOf false x39 x41=true then(Qbc.l0 k x1 x7 x8 x39 x40 (wrap64 (x41+1)))else(some false))else(none))else(none))else(if x8=0 then(some ((x7.length:Int) == (x1.length:Int)))else(if(x7.length:Int)=0 then(some true)else(some false)))
end
def Qbc.f(k:Nat)(a0_0:Int)(a0_1:Int)(l1:List (S37)):Option (Bool):=(Qbe.f k).bind fun t512=>(if t512=true then((Qaw.f k l1 10 5000).bind fun t513=>(if t513=true then((Qaz.f).bind fun t514=>(Qbc.j0 k l1 (!t514) a0_0 a0_1))else(Qbc.j0 k l1 true a0_0 a0_1)))else(Qbc.j0 k l1 true a0_0 a0_1))
theorem Qbc.calls (k:Nat) (b:Int) (c:Int) (A1:Option Addr) (c1:Nat) (l1:List (S37)) (r:Bool) (w:World) (hr1:Kd.C k37 w A1 l1.length l1) (hc1:l1.length≤c1) (h:Qbc.f k b c l1=some r) :
  Calls Tryz.prog 9 #[.agg #[.int .u8 b,.int .u32 c],.slice A1 l1.length c1] w fun e w'=>e=.returned (.bool r)∧Below w.heap.size w w':=by
 have hu28:=Tryz.underlying28;have hu81:=Tryz.underlying81;have B:=QA hr1;have D:=QA hc1;clear hr1 hc1;have HB:=QA (Below.refl w.heap.size w);have H:((Qbe.f k).bind fun K=>(if K=true then((Qaw.f k l1 10 5000).bind fun L=>(if L=true then((Qaz.f).bind fun G=>(Qbc.j0 k l1 (!G) b c))else(Qbc.j0 k l1 true b c)))else(Qbc.j0 k l1 true b c)))=some r:=h;clear h;have ab:=QA H;clear H
 go_enter Tryz.func9,Tryz.ntmps9
 go_upto_region 1 with(first |((with_reducible refine Qgj (N:=2) rfl ?_);(try(refine Qiy (by rfl) ?_;dsimp only));refine qq_e 2 #[.int .u8 b,.int .u32 c] 28 ?_;intro j hg w4 hbox hb;have n_:=qn4 (Qfy qq_b hb) (hbox) (qq_s hg:w.heap.size≤j) (qq_s hg:w.heap.size≤j);clear HB;obtain⟨HB,a,aF,aG⟩:=n_;clear hb hbox hg))
 (try simp only[Act.put,List.setIfInBounds_toArray,List.set_cons_zero,List.set_cons_succ])
 go_cut [21] (fun aC wc=>∃(kq:Nat) (y:Bool),aC=.bool y∧Aside0 (Qbc.j0 kq l1 y b c=some r)∧Aside0 (kq≤k)∧Aside0 (wc.heap[j]? = some (.cells #[.int .u8 b,.int .u32 c] 28 (0,0)))∧Aside0 (Below w.heap.size w wc))
 case first =>
  have H:=ab.out;clear ab;replace H:=Option.bind_eq_some_iff.mp H;obtain⟨K,ao,H⟩:=H;have A5:=QA ao;clear ao
  by_cases c6:K=true
  ·subst c6;rw[if_pos rfl]at H;replace H:=Option.bind_eq_some_iff.mp H;obtain⟨L,ap,H⟩:=H;have A7:=QA ap;clear ap
   by_cases c8:L=true
   ·subst c8;rw[if_pos rfl]at H;replace H:=Option.bind_eq_some_iff.mp H;obtain⟨G,aq,H⟩:=H;have A9:=QA aq;clear aq;have H':=QA H;clear H
    go_wp2_with (first |((with_reducible refine Qjh (f:=38) rfl ?_);refine Qhf (some 11) rfl rfl Tryz.func38 qq_6 rfl #[] rfl qq_1 ?_;(with_reducible refine(Qbe.calls k  true _ A5.out).mono ?_);rintro e aM ⟨rfl,hb⟩;refine⟨_,rfl,?_⟩;have n_:=qn2 (Qex (g:=j) (o:=.cells #[.int .u8 b,.int .u32 c] 28 (0,0)) qq_0 hb) (Qfy qq_b hb);clear a HB;obtain⟨a,HB⟩:=n_;(try clear hb);(try clear hb2);(try clear hk);(try clear hi)) |(go_at_call 15;(with_reducible refine(Qaw.calls k _ _ l1 10 5000 true _ ?side1 ?side2 A7.out).mono ?_);(case side1=>repeat(first|exact(Kd.C_below B.out HB.out) |(with_reducible refine Kd.C_alloc ?_ _) |(with_reducible refine Kd.C_drewN ?_ _) |(with_reducible refine Kd.C_drew ?_)));(case side2=>exact D.out);rintro e aN ⟨rfl,hb⟩;have n_:=qn2 (Qex (g:=j) (o:=.cells #[.int .u8 b,.int .u32 c] 28 (0,0)) qq_0 hb) (Qfy qq_b hb);clear a HB;obtain⟨a,HB⟩:=n_;(try clear hb);(try clear hb2);(try clear hk);(try clear hi)) |(go_at_call 47;(with_reducible refine(Qaz.calls  G _ A9.out).mono ?_);rintro e aO ⟨rfl,hb⟩;have n_:=qn2 (Qex (g:=j) (o:=.cells #[.int .u8 b,.int .u32 c] 28 (0,0)) qq_0 hb) (Qfy qq_b hb);clear a HB;obtain⟨a,HB⟩:=n_;(try clear hb);(try clear hb2);(try clear hk);(try clear hi)))
    go_meet
    case rel=>exact⟨_,(!G),qq_7,H',⟨by first|omega|exact Nat.le_refl _⟩,⟨by(with_reducible repeat(first|apply Qew|apply Qev|apply Qeu));exact a.out⟩,⟨qq_b⟩⟩
   ·replace c8:=Bool.eq_false_iff.mpr c8;subst c8;rw[if_neg (show ¬(false=true)by decide)]at H;have H':=QA H;clear H
    go_wp2_with (first |((with_reducible refine Qjh (f:=38) rfl ?_);refine Qhf (some 11) rfl rfl Tryz.func38 qq_6 rfl #[] rfl qq_1 ?_;(with_reducible refine(Qbe.calls k  true _ A5.out).mono ?_);rintro e aP ⟨rfl,hb⟩;refine⟨_,rfl,?_⟩;have n_:=qn2 (Qex (g:=j) (o:=.cells #[.int .u8 b,.int .u32 c] 28 (0,0)) qq_0 hb) (Qfy qq_b hb);clear a HB;obtain⟨a,HB⟩:=n_;(try clear hb);(try clear hb2);(try clear hk);(try clear hi)) |(go_at_call 15;(with_reducible refine(Qaw.calls k _ _ l1 10 5000 false _ ?side1 ?side2 A7.out).mono ?_);(case side1=>repeat(first|exact(Kd.C_below B.out HB.out) |(with_reducible refine Kd.C_alloc ?_ _) |(with_reducible refine Kd.C_drewN ?_ _) |(with_reducible refine Kd.C_drew ?_)));(case side2=>exact D.out);rintro e aQ ⟨rfl,hb⟩;have n_:=qn2 (Qex (g:=j) (o:=.cells #[.int .u8 b,.int .u32 c] 28 (0,0)) qq_0 hb) (Qfy qq_b hb);clear a HB;obtain⟨a,HB⟩:=n_;(try clear hb);(try clear hb2);(try clear hk);(try clear hi)))
    go_meet
    case rel=>exact⟨_,(true),qq_7,H',⟨by first|omega|exact Nat.le_refl _⟩,⟨by(with_reducible repeat(first|apply Qew|apply Qev|apply Qeu));exact a.out⟩,⟨qq_b⟩⟩
  ·replace c6:=Bool.eq_false_iff.mpr c6;subst c6;rw[if_neg (show ¬(false=true)by decide)]at H;have H':=QA H;clear H
   go_wp2_with (first |((with_reducible refine Qjh (f:=38) rfl ?_);refine Qhf (some 11) rfl rfl Tryz.func38 qq_6 rfl #[] rfl qq_1 ?_;(with_reducible refine(Qbe.calls k  false _ A5.out).mono ?_);rintro e aR ⟨rfl,hb⟩;refine⟨_,rfl,?_⟩;have n_:=qn2 (Qex (g:=j) (o:=.cells #[.int .u8 b,.int .u32 c] 28 (0,0)) qq_0 hb) (Qfy qq_b hb);clear a HB;obtain⟨a,HB⟩:=n_;(try clear hb);(try clear hb2);(try clear hk);(try clear hi)))
   go_meet
   case rel=>exact⟨_,(true),qq_7,H',⟨by first|omega|exact Nat.le_refl _⟩,⟨by(with_reducible repeat(first|apply Qew|apply Qev|apply Qeu));exact a.out⟩,⟨qq_b⟩⟩
 case rest =>
  clear ab
  try clear c1
  try clear c6
  try clear c8
  obtain⟨kq,y,rfl,HA,HJ2,a,HB⟩:=hcut
  cases kq with
  | zero=>exact absurd HA.out (by simp[Qbc.j0])
  | succ kj2 =>
   have H:=HA.out;clear HA;simp only[Qbc.j0]at H
   by_cases J:y=true
   ·subst J;rw[if_pos rfl]at H;replace H:=Option.bind_eq_some_iff.mp H;obtain⟨av,ac,H⟩:=H;have aD:=QA ac;clear ac;obtain rfl:=Option.some.inj H
    go_wp2_with (first |((with_reducible refine Qjh (f:=38) rfl ?_);refine Qhf (some 22) rfl rfl Tryz.func38 qq_6 rfl #[] rfl qq_1 ?_;(with_reducible refine(Qbe.calls kj2  av _ aD.out).mono ?_);rintro e aS ⟨rfl,hb⟩;refine⟨_,rfl,?_⟩;have n_:=qn2 (Qex (g:=j) (o:=.cells #[.int .u8 b,.int .u32 c] 28 (0,0)) qq_0 hb) (Qfy qq_b hb);clear a HB;obtain⟨a,HB⟩:=n_;(try clear hb);(try clear hb2);(try clear hk);(try clear hi)))
    go_ret
    exact⟨qq_5,qq_b⟩
   ·replace J:=Bool.eq_false_iff.mpr J;subst J;rw[if_neg (show ¬(false=true)by decide)]at H;replace H:=Option.bind_eq_some_iff.mp H;obtain⟨⟨ad,n⟩,ae,H⟩:=H;replace H:((Qav.f kj2 b c l1 ([]:List (S158)) (-1)).bind fun bt520=>(if bt520.2=n then(Qbc.l0 kj2 l1 bt520.1 bt520.2 bt520.1 (bt520.1.length:Int) 0)else(some false)))=some r:=H;have ar:=QA ae;clear ae;replace H:=Option.bind_eq_some_iff.mp H;obtain⟨⟨d,m⟩,af,H⟩:=H;replace H:(if m=n then(Qbc.l0 kj2 l1 d m d (d.length:Int) 0)else(some false))=some r:=H;have au:=QA af;clear af
    by_cases v:m=n
    ·rw [if_pos v]at H;have O:(m == n)=true:=beq_iff_eq.mpr v;have P:(m != n)=false:=bne_eq_false_iff_eq.mpr v;clear v;have H':=QA H;clear H;obtain⟨X,Y⟩:=qc2 a.out;have ag:=Qej a.out
     go_wp2_with (first |((with_reducible refine Qjh (f:=48) rfl ?_);refine Qhf (some 26) rfl rfl Tryz.func48 qq_6 rfl #[.agg #[.int .u8 b,.int .u32 c],.slice A1 l1.length c1] rfl qq_1 ?_;(with_reducible refine(Qcc.calls kj2 b c _ _ l1 ad n _ ?side1 ?side2 ar.out).mono ?_);(case side1=>repeat(first|exact(Kd.C_below B.out HB.out) |(with_reducible refine Kd.C_alloc ?_ _) |(with_reducible refine Kd.C_drewN ?_ _) |(with_reducible refine Kd.C_drew ?_)));(case side2=>exact D.out);rintro e aT ⟨aw,rfl,p,hb⟩;refine⟨_,rfl,?_⟩;have n_:=qn3 (Kd.R_lower p (Qfx qq_b)) (Qex (g:=j) (o:=.cells #[.int .u8 b,.int .u32 c] 28 (0,0)) qq_0 hb) (Qfy qq_b hb);clear a HB;obtain⟨t,a,HB⟩:=n_;(try clear hb);(try clear hb2);(try clear hk);(try clear hi);(try clear p);obtain⟨Z,aa⟩:=qc2 a.out;have ah:=Qej a.out) |((with_reducible refine Qjh (f:=49) rfl ?_);refine Qhf (some 33) rfl rfl Tryz.func49 qq_6 rfl #[.agg #[.int .u8 b,.int .u32 c],.slice A1 l1.length c1,.agg #[.slice none 0 0,.int .i64 (-1)]] rfl qq_1 ?_;(refine(Qav.calls kj2 b c _ _ l1 _ _ ([]:List (S158)) (-1) d m _ ?side1 ?side2 ?side3 ?side4 au.out).mono ?_);(case side1=>repeat(first|exact(Kd.C_below B.out HB.out) |(with_reducible refine Kd.C_alloc ?_ _) |(with_reducible refine Kd.C_drewN ?_ _) |(with_reducible refine Kd.C_drew ?_)));(case side2=>exact D.out);(case side3=>exact Kd.C_nil _ _);(case side4=>exact Nat.le_refl _);rintro e aU ⟨ax,rfl,p,hb⟩;refine⟨_,rfl,?_⟩;have n_:=qn4 (Kd.R_below qq_4 hb) (Kd.R_lower p (Qfx qq_b)) (Qex (g:=j) (o:=.cells #[.int .u8 b,.int .u32 c] 28 (0,0)) qq_0 hb) (Qfy qq_b hb);clear t a HB;obtain⟨t,z,a,HB⟩:=n_;(try clear hb);(try clear hb2);(try clear hk);(try clear hi);(try clear p);obtain⟨Ao26,co26,eo26⟩:=Kd.R_slice z.out;subst eo26))
     go_loopg [41] kj2 (fun kq aE w'=>∃(l:Int),aE=.int .i64 l∧Aside0 (Qbc.l0 kq l1 d m d (d.length:Int) l=some r)∧Aside0 (kq≤kj2)∧Aside0 (Kd.R Kd.bool 4 w' w.heap.size (fun _=>True) (.slice Ao26 d.length co26) d)∧Aside0 (Kd.R Kd.bool 4 w' w.heap.size (fun _=>True) (.slice Ao26 d.length co26) d)∧Aside0 (w'.heap[j]? = some (.cells #[.int .u8 b,.int .u32 c] 28 (0,0)))∧Aside0 (Below w.heap.size w w'))
     case atStart=>exact⟨(0),qq_7,H',⟨Nat.le_refl _⟩,⟨by(with_reducible repeat(first|apply Kd.R_alloc|apply Kd.R_drewN|apply Kd.R_drew));exact z.out⟩,⟨by(with_reducible repeat(first|apply Kd.R_alloc|apply Kd.R_drewN|apply Kd.R_drew));exact z.out⟩,⟨by(with_reducible repeat(first|apply Qew|apply Qev|apply Qeu));exact a.out⟩,⟨qq_b⟩⟩
     case round =>
      clear H'
      try clear c1
      try clear c6
      try clear c8
      try clear J
      try clear v
      try clear O
      try clear P
      try clear X
      try clear Y
      try clear Z
      try clear aa
      try clear ag
      try clear ah
      obtain⟨l,rfl,HA,HK2,HO_7,I,a,HB⟩:=hrel
      cases gk with
      | zero=>exact absurd HA.out (by simp[Qbc.l0])
      | succ k2 =>
       have H:=HA.out;clear HA;simp only[Qbc.l0]at H
       by_cases E:l<(d.length:Int)
       ·rw [if_pos E]at H;have ai:=decide_eq_true E;clear E
        by_cases T:0≤l
        ·rw[if_pos T]at H;have aH:=decide_eq_true T;clear T
         by_cases U:l<(d.length:Int)
         ·rw[if_pos U]at H;have aI:=decide_eq_true U;clear U;obtain⟨bq30,hbq30⟩:∃b_:Bool,b_=(rdOf false d l):=⟨_,rfl⟩;replace H:(if bq30=true then(Qbc.l0 k2 l1 d m d (d.length:Int) (wrap64 (l+1)))else(some false))=some r:=by rw[← hbq30]at H;exact H
          have Nbq30:=QA hbq30;clear hbq30
          by_cases W:bq30=true
          ·subst W;rw[if_pos rfl]at H;have H':=QA H;clear H;have q:0≤(l:Int):=of_decide_eq_true qq_3;have s:l<(d.length:Int):=of_decide_eq_true qq_3;obtain⟨aj,M,u⟩:=Kd.at_bool (Kd.R_reads' I.out).2.2 l q s
           (try rw[← Nbq30.out]at u)
           cases M
           replace q:=eq_true q;replace s:=eq_true s;go_wp2
           go_roundg k2
           case measure=>have:=HJ2.out;have:=HK2.out;omega
           case rel=>exact⟨(wrap64 (l+1)),qq_7,H',⟨by have:=HJ2.out;have:=HK2.out;omega⟩,⟨by(with_reducible repeat(first|apply Kd.R_alloc|apply Kd.R_drewN|apply Kd.R_drew));exact HO_7.out⟩,⟨by(with_reducible repeat(first|apply Kd.R_alloc|apply Kd.R_drewN|apply Kd.R_drew));exact I.out⟩,⟨by(with_reducible repeat(first|apply Qew|apply Qev|apply Qeu));exact a.out⟩,⟨qq_b⟩⟩
          ·replace W:=Bool.eq_false_iff.mpr W;subst W;rw[if_neg (show ¬(false=true)by decide)]at H;obtain rfl:=Option.some.inj H;have q:0≤(l:Int):=of_decide_eq_true qq_3;have s:l<(d.length:Int):=of_decide_eq_true qq_3;obtain⟨aj,M,u⟩:=Kd.at_bool (Kd.R_reads' I.out).2.2 l q s
           (try rw[← Nbq30.out]at u)
           cases M
           replace q:=eq_true q;replace s:=eq_true s;go_wp2;go_ret
           exact⟨qq_5,qq_b⟩
         ·rw[if_neg U]at H;exact absurd H (by simp)
        ·rw[if_neg T]at H;exact absurd H (by simp)
       ·rw[if_neg E]at H;have ai:=decide_eq_false E;clear E
        by_cases A:m=0
        ·rw[if_pos A]at H;have ak:(m == 0)=true:=beq_iff_eq.mpr A;have al:(m != 0)=false:=bne_eq_false_iff_eq.mpr A;clear A;obtain rfl:=Option.some.inj H;go_wp2;go_ret
         exact⟨qq_5,qq_b⟩
        ·rw[if_neg A]at H;have ak:(m == 0)=false:=beq_eq_false_iff_ne.mpr A;have al:(m != 0)=true:=bne_iff_ne.mpr A
         by_cases x:(d.length:Int)=0
         ·rw[if_pos x]at H;have am:((d.length:Int) == 0)=true:=beq_iff_eq.mpr x;have an:((d.length:Int) != 0)=false:=bne_eq_false_iff_eq.mpr x;clear x;obtain rfl:=Option.some.inj H;go_wp2;go_ret
          exact⟨qq_5,qq_b⟩
         ·rw[if_neg x]at H;have am:((d.length:Int) == 0)=false:=beq_eq_false_iff_ne.mpr x;have an:((d.length:Int) != 0)=true:=bne_iff_ne.mpr x;have aJ:¬(d=[]):=fun h_=>x (by rw[h_];rfl)
          obtain rfl:=Option.some.inj H;go_wp2;go_ret
          exact⟨qq_5,qq_b⟩
    ·rw[if_neg v]at H;have O:(m == n)=false:=beq_eq_false_iff_ne.mpr v;have P:(m != n)=true:=bne_iff_ne.mpr v;obtain rfl:=Option.some.inj H;obtain⟨ay,az⟩:=qc2 a.out;have aK:=Qej a.out
     go_wp2_with (first |((with_reducible refine Qjh (f:=48) rfl ?_);refine Qhf (some 26) rfl rfl Tryz.func48 qq_6 rfl #[.agg #[.int .u8 b,.int .u32 c],.slice A1 l1.length c1] rfl qq_1 ?_;(with_reducible refine(Qcc.calls kj2 b c _ _ l1 ad n _ ?side1 ?side2 ar.out).mono ?_);(case side1=>repeat(first|exact(Kd.C_below B.out HB.out) |(with_reducible refine Kd.C_alloc ?_ _) |(with_reducible refine Kd.C_drewN ?_ _) |(with_reducible refine Kd.C_drew ?_)));(case side2=>exact D.out);rintro e aV ⟨aw,rfl,p,hb⟩;refine⟨_,rfl,?_⟩;have n_:=qn3 (Kd.R_lower p (Qfx qq_b)) (Qex (g:=j) (o:=.cells #[.int .u8 b,.int .u32 c] 28 (0,0)) qq_0 hb) (Qfy qq_b hb);clear a HB;obtain⟨t,a,HB⟩:=n_;(try clear hb);(try clear hb2);(try clear hk);(try clear hi);(try clear p);obtain⟨aA,aB⟩:=qc2 a.out;have aL:=Qej a.out) |((with_reducible refine Qjh (f:=49) rfl ?_);refine Qhf (some 33) rfl rfl Tryz.func49 qq_6 rfl #[.agg #[.int .u8 b,.int .u32 c],.slice A1 l1.length c1,.agg #[.slice none 0 0,.int .i64 (-1)]] rfl qq_1 ?_;(refine(Qav.calls kj2 b c _ _ l1 _ _ ([]:List (S158)) (-1) d m _ ?side1 ?side2 ?side3 ?side4 au.out).mono ?_);(case side1=>repeat(first|exact(Kd.C_below B.out HB.out) |(with_reducible refine Kd.C_alloc ?_ _) |(with_reducible refine Kd.C_drewN ?_ _) |(with_reducible refine Kd.C_drew ?_)));(case side2=>exact D.out);(case side3=>exact Kd.C_nil _ _);(case side4=>exact Nat.le_refl _);rintro e aW ⟨ax,rfl,p,hb⟩;refine⟨_,rfl,?_⟩;have n_:=qn4 (Kd.R_below qq_4 hb) (Kd.R_lower p (Qfx qq_b)) (Qex (g:=j) (o:=.cells #[.int .u8 b,.int .u32 c] 28 (0,0)) qq_0 hb) (Qfy qq_b hb);clear t a HB;obtain⟨t,z,a,HB⟩:=n_;(try clear hb);(try clear hb2);(try clear hk);(try clear hi);(try clear p)))
     go_ret
     exact⟨qq_5,qq_b⟩
end Go.Proofs.YteaocbonofboeaaGreat.C
end
section
namespace Go.Proofs.YteaocbonofboeaaGreat.Open
open Go.RowKit Go.Proofs.YteaocbonofboeaaGreatW.PrintWords Go.ChangeShapes Go.WideShapes Go.Deep
structure Opens (P:Program) (t:TypeId) {α:Type} (d:Kd α) (G:α→Prop):Prop where
  sz:P.cellsOf t=d.sz
  out:∀ {H:Type} {enc:TypeId × Value→H} {w:World} {base:Nat} {spare:Nat→Bool} {held:Bool} {fuel:Nat} {cs:List Value} {x:DataW H × List MemPlace},
    DataW.trod enc P w base spare held fuel t cs=some x→(∀n∈DataW.weights P t x.1,n≤reachBytes)→∃v,d.K w v cs∧G v
theorem opens_bool{P:Program}{t:TypeId}(ht:P.underlying t=some .bool)(hc:P.cellsOf t=1):Opens P t Kd.bool (fun _=>True) :=
 ⟨hc,fun h _=>by
  obtain⟨b,rfl,_⟩:=DataW.trod_bool ht h
  exact⟨b,rfl,trivial⟩⟩
theorem opens_int{P:Program}{t:TypeId}{k:IntKind}(ht:P.underlying t=some (.int k))(hc:P.cellsOf t=1):Opens P t (Kd.int k) (fun n=>(Lit.int k n).wf=true) :=
 ⟨hc,fun h _=>by
  obtain⟨b,rfl,_,hw⟩:=DataW.trod_int ht h
  exact⟨b,rfl,hw⟩⟩
theorem opens_string{P:Program}{t:TypeId}(ht:P.underlying t=some .string)(hc:P.cellsOf t=1):Opens P t Kd.string (fun s=>s.size≤140737488351232) :=
 ⟨hc,fun h hs=>by
  obtain⟨b,rfl,rfl,hw⟩:=DataW.trod_string ht h
  refine⟨b,rfl,?_⟩
  have:=hs b.data.toList.length (by simp[DataW.weights])
  simpa [reachBytes]using this⟩
theorem weightsAll_mem{H:Type}{P:Program}{e:TypeId}{n:Nat}:∀ {ds:List (DataW H)} {d:DataW H},d∈ds→n∈DataW.weights P e d→n∈DataW.weightsAll P e ds
 | [],_,h,_=>by simp at h
 | a :: r,d,h,hn=>by
  simp only[DataW.weightsAll]
  rcases List.mem_cons.1 h with rfl|h
  ·exact List.mem_append_left _ hn
  ·exact List.mem_append_right _ (weightsAll_mem h hn)
theorem opens_slice{P:Program}{t e:TypeId}{α:Type}{d:Kd α}{G:α→Prop}{B:Nat}(ht:P.underlying t=some (.slice e))(hc:P.cellsOf t=1)(hB:P.bytesOf e=B)(he:Opens P e d G) :
  Opens P t (Kd.slice e d) (fun xs=>xs.length*B≤140737488351232∧∀x∈xs,G x) :=
 ⟨hc, fun {H enc w base spare held fuel cs x} h hs=>by
  rcases open_slice ht h with⟨rfl,rfl⟩ |⟨a,len,cap,m,n,D,Pl,rfl,hb,hl,hm,hmm,rfl,hx⟩
  ·exact⟨[],⟨none,0,rfl,Nat.zero_le _,rfl,by simp,fun hp=>absurd hp (by simp)⟩,by simp,by simp⟩
  have hlm:len≤m:=by rw[hmm];split<;>omega
  have hw:∀i,i<len→∃v,(∃cs',w.cells? base (a.add (i*P.cellsOf e)) (P.cellsOf e)=some cs'∧d.K w v cs')∧G v:=by
   intro i hi
   obtain⟨cs',h1,h2⟩:=hx i (by omega)
   obtain⟨v,hv,hg⟩:=he.out h2 (fun q hq=>hs q (by
    simp only[DataW.weights,ht]
    refine List.mem_cons_of_mem _ (List.mem_append_left _ (weightsAll_mem (d:=D i) ?_ hq))
    exact List.mem_map.2 ⟨i,List.mem_range.2 hi,rfl⟩))
   exact⟨v,⟨cs',h1,hv⟩,hg⟩
  have hw':∃xs:List α,xs.length=len∧∀i p,xs[i]? = some p→(∃cs',w.cells? base (a.add (i*P.cellsOf e)) (P.cellsOf e)=some cs'∧d.K w p cs')∧G p:=by
   clear hs hx hmm hlm hm hl h
   induction len with
   | zero=>exact⟨[],rfl,by simp⟩
   | succ q ih =>
    obtain⟨xs,hxl,hxs⟩:=ih (fun i hi=>hw i (by omega))
    obtain⟨v,hv⟩:=hw q (by omega)
    refine⟨xs++[v],by simp[hxl],fun i p hp=>?_⟩
    rcases Nat.lt_or_ge i xs.length with hi|hi
    ·rw[List.getElem?_append_left hi]at hp
     exact hxs i p hp
    ·have:i=q:=by
      have:=(List.getElem?_eq_some_iff.1 hp).1
      simp at this
      omega
     subst this
     rw[← hxl]at hp
     have:v=p:=by simpa using hp
     subst this
     exact hv
  obtain⟨xs,hxl,hxs⟩:=hw'
  have hlen:len*B≤140737488351232:=by
   have:=hs ((((List.range len).map D).length+((List.range (m-len)).map fun j=>D (len+j)).length)*P.bytesOf e) (by simp[DataW.weights,ht])
   rw[hB]at this
   have h2:(((List.range len).map D).length+((List.range (m-len)).map fun j=>D (len+j)).length)=m:=by simp;omega
   rw[h2]at this
   have h3:m*B≤140737488351232:=by simpa [reachBytes]using this
   exact Nat.le_trans (Nat.mul_le_mul_right _ hlm) h3
  refine⟨xs,⟨some a,cap,by rw[hxl],by rw[hxl];exact hl,rfl,?_,fun hp=>⟨a,rfl,fun j p hj=>?_⟩⟩,by rw[hxl];exact hlen,fun x hx=>?_⟩
  ·rw[hxl]
   exact Nat.le_trans hl (by simpa [maxLen]using hm)
  ·obtain⟨⟨cs',h1,h2⟩,_⟩:=hxs j p hj
   obtain⟨_,hcl,hcc⟩:=World.cells?_some h1
   refine⟨cs',by rw[hcl,he.sz],h2,fun i u hu=>?_⟩
   have hi:i<P.cellsOf e:=by rw[← hcl];exact(List.getElem?_eq_some_iff.1 hu).1
   rw[he.sz]at hcc hi
   have:=hcc i hi
   rw[Go.Deep.add_add]at this
   rw[this,hu]
  ·obtain⟨i,hi⟩:=List.getElem?_of_mem hx
   exact(hxs i x hi).2⟩
structure OpensFs (P:Program) (ts:List TypeId) {α:Type} (d:Kd α) (G:α→Prop):Prop where
  sz:(ts.map P.cellsOf).sum=d.sz
  out:∀ {H:Type} {enc:TypeId × Value→H} {w:World} {base:Nat} {spare:Nat→Bool} {held:Bool} {fuel:Nat} {cs:List Value} {xs:List (DataW H × List MemPlace)},
    cs.length=(ts.map P.cellsOf).sum→xs.length=ts.length →
    (∀i t,ts[i]? = some t→DataW.trod enc P w base spare held fuel t ((cs.drop ((ts.take i).map P.cellsOf).sum).take (P.cellsOf t))=xs[i]?) →
    (∀n∈DataW.weightsEach P ts (xs.map (·.1)),n≤reachBytes)→∃v,d.K w v cs∧G v
theorem OpensFs.one{P:Program}{t:TypeId}{α:Type}{d:Kd α}{G:α→Prop}(h:Opens P t d G):OpensFs P [t] d G :=
 ⟨by simp[h.sz],fun {H enc w base spare held fuel cs xs} hl hx ht hs=>by
  match xs,hx with
  | [x],_ =>
   have h0:=ht 0 t rfl
   simp at hl h0
   rw[List.take_of_length_le (by omega)]at h0
   exact h.out h0 (fun n hn=>hs n (by simp[DataW.weightsEach,hn]))⟩
theorem OpensFs.cons{P:Program}{t:TypeId}{ts:List TypeId}{α β:Type}{d:Kd α}{G:α→Prop}{d':Kd β}{G':β→Prop}(h:Opens P t d G)(r:OpensFs P ts d' G'):OpensFs P (t :: ts) (Kd.pair d d') (fun x=>G x.1∧G' x.2) :=
 ⟨by simp[h.sz,r.sz,Kd.pair],fun {H enc w base spare held fuel cs xs} hl hx ht hs=>by
  match xs,hx with
  | x :: xs,hx =>
   have h0:=ht 0 t rfl
   simp at hl h0 hx
   obtain⟨a,ha,hga⟩:=h.out h0 (fun n hn=>hs n (by simp[DataW.weightsEach,hn]))
   obtain⟨b,hb,hgb⟩:=r.out (enc:=enc) (w:=w) (base:=base) (spare:=spare) (held:=held) (fuel:=fuel) (cs:=cs.drop (P.cellsOf t)) (xs:=xs) (by rw[List.length_drop];omega) hx
    (fun i t' hi=>by
     have:=ht (i+1) t' (by simpa using hi)
     simp only[List.take_succ_cons,List.map_cons,List.sum_cons,List.getElem?_cons_succ]at this
     rw[List.drop_drop]
     exact this)
    (fun n hn=>hs n (by simp only[List.map_cons,DataW.weightsEach];exact List.mem_append_right _ hn))
   exact⟨(a,b),⟨cs.take (P.cellsOf t),cs.drop (P.cellsOf t),by simp,ha,hb⟩,hga,hgb⟩⟩
def inLine(P:Program):Nat→List Field→Bool
 | _,[]=>true
 | o,f :: r=>(f.offset == o) && inLine P (o+P.cellsOf f.type) r
theorem inLine_at{P:Program}:∀ {fs:List Field} {o:Nat},inLine P o fs=true→∀i f,fs[i]? = some f→f.offset=o+(((fs.map (·.type)).take i).map P.cellsOf).sum
 | [],_,_,i,f,h=>by simp at h
 | g :: r,o,h,0,f,hf=>by
  simp[inLine]at h
  simp at hf
  subst hf
  simp[h.1]
 | g :: r,o,h,i+1,f,hf=>by
  simp[inLine]at h
  have:=inLine_at h.2 i f (by simpa using hf)
  simp[this]
  omega
theorem opens_struct{P:Program}{t:TypeId}{fs:Array Field}{α β:Type}{d:Kd α}{G:α→Prop}(ht:P.underlying t=some (.struct fs))(hl:inLine P 0 fs.toList=true)(hc:P.cellsOf t=d.sz)
  (r:OpensFs P (fs.toList.map (·.type)) d G) (f:β→α) (g:α→β) (hfg:∀a,f (g a)=a):Opens P t (Kd.iso d f) (fun x=>G (f x)) :=
 ⟨hc,fun {H enc w base spare held fuel cs x} h hs=>by
  obtain⟨xs,n,rfl,rfl,hcl,hxl,hx⟩:=DataW.trod_struct ht h
  obtain⟨v,hv,hg⟩:=r.out (enc:=enc) (w:=w) (base:=base) (spare:=spare) (held:=held) (fuel:=n) (cs:=cs) (xs:=xs) (by rw[hcl,hc,r.sz]) (by simp[hxl])
   (fun i t' hi=>by
    rw[List.getElem?_map]at hi
    cases hf:fs.toList[i]? with
    | none=>simp[hf]at hi
    | some fd =>
     simp[hf]at hi
     subst hi
     have:=hx i fd (by simpa using hf)
     rw[inLine_at hl i fd hf,Nat.zero_add]at this
     exact this)
   (fun q hq=>hs q (by simp only[DataW.weights,ht];exact hq))
  exact⟨g v,by show d.K w (f (g v)) cs;rw[hfg];exact hv,by show G (f (g v));rw[hfg];exact hg⟩⟩
theorem weights_each{H:Type}{P:Program}:∀ {ts:List TypeId} {ds:List (DataW H)} {j:Nat} {t:TypeId} {d:DataW H},(DataW.weightsEach P ts ds).all (·≤reachBytes)=true→ts[j]? = some t→ds[j]? = some d→∀n∈DataW.weights P t d,n≤reachBytes
 | [],_,_,_,_,_,h,_=>by simp at h
 | _ :: _,[],_,_,_,_,_,h=>by simp at h
 | t0 :: ts,d0 :: ds,0,t,d,hz,h1,h2=>by
  simp at h1 h2
  subst h1 h2
  intro n hn
  simp only[DataW.weightsEach]at hz
  exact of_decide_eq_true (List.all_eq_true.1 hz n (List.mem_append_left _ hn))
 | t0 :: ts,d0 :: ds,j+1,t,d,hz,h1,h2=>by
  simp only[DataW.weightsEach]at hz
  refine weights_each (ts:=ts) (ds:=ds) (j:=j) ?_ (by simpa using h1) (by simpa using h2)
  rw[List.all_append]at hz
  exact(Bool.and_eq_true _ _ ▸ hz).2
theorem arg_slice{H:Type}{enc:TypeId × Value→H}{P:Program}{w:World}{base:Nat}{spare:Nat→Bool}{held:Bool}{t e:TypeId}{α:Type}{d:Kd α}{G:List α→Prop}(op:Opens P t (Kd.slice e d) G){a:Option Addr}{len cap:Nat}{x:DataW H}{ps:List MemPlace}
  (h:DataW.Trod enc P w base spare held t (.slice a len cap) x ps) (hs:∀n∈DataW.weights P t x,n≤reachBytes):∃l:List α,len=l.length∧l.length≤cap∧d.C w a l.length l∧G l:=by
 obtain⟨fuel,hf⟩:=h
 obtain⟨l,⟨A,c,he,hc,hr⟩,hg⟩:=op.out hf hs
 have he':[Value.slice a len cap]=[.slice A l.length c]:=by simpa [Value.cells]using he
 simp only[List.cons.injEq,Value.slice.injEq,and_true]at he'
 obtain⟨rfl,rfl,rfl⟩:=he'
 exact⟨l,rfl,hc,hr,hg⟩
theorem arg_agg{H:Type}{enc:TypeId × Value→H}{P:Program}{w:World}{base:Nat}{spare:Nat→Bool}{held:Bool}{t:TypeId}{α:Type}{d:Kd α}{G:α→Prop}(op:Opens P t d G){cs:Array Value}{x:DataW H}{ps:List MemPlace}
  (h:DataW.Trod enc P w base spare held t (.agg cs) x ps) (hs:∀n∈DataW.weights P t x,n≤reachBytes):∃v,d.K w v cs.toList∧G v:=by
 obtain⟨fuel,hf⟩:=h
 have hf':DataW.trod enc P w base spare held fuel t cs.toList=some (x,ps):=by simpa [Value.cells]using hf
 exact op.out hf' hs
theorem toList_eq_agg{cs:Array Value}{l:List Value}(h:cs.toList=l):cs=l.toArray:=by rw[← h]
end Go.Proofs.YteaocbonofboeaaGreat.Open
end
section
namespace Go.Proofs.YteaocbonofboeaaGreat.C
open Go.RowKit Go.Proofs.YteaocbonofboeaaGreatW.PrintWords Go.Proofs.YteaocbonofboeaaGreatW.PrintLast Go.Proofs.YteaocbonofboeaaGreatW.PrintMore Go.Proofs.YteaocbonofboeaaGreat.Open
theorem opT5:Opens Tryz.prog 5 (Kd.int .u8) (fun x=>(Lit.int .u8 x).wf=true):=opens_int Tryz.underlying5 (by kernel_rfl)
theorem opT4:Opens Tryz.prog 4 Kd.bool (fun x=>True):=opens_bool Tryz.underlying4 (by kernel_rfl)
theorem opT35:Opens Tryz.prog 35 (Kd.int .u64) (fun x=>(Lit.int .u64 x).wf=true):=opens_int Tryz.underlying35 (by kernel_rfl)
theorem opT9:Opens Tryz.prog 9 Kd.string (fun x=>x.size≤140737488351232):=opens_string Tryz.underlying9 (by kernel_rfl)
def OG37(x:S37):Prop:=True∧(Lit.int .u64 x.f1).wf=true∧x.f2.size≤140737488351232∧x.f3.size≤140737488351232
theorem opT37:Opens Tryz.prog 37 k37 (fun x=>OG37 x):=opens_struct Tryz.underlying37 (by kernel_rfl) (by kernel_rfl) (OpensFs.cons opT4 (OpensFs.cons opT35 (OpensFs.cons opT9 (OpensFs.one opT9)))) (fun x:S37=>(x.f0,x.f1,x.f2,x.f3)) (fun p=>⟨p.1,p.2.1,p.2.2.1,p.2.2.2⟩) (fun _=>rfl)
theorem opT22:Opens Tryz.prog 22 (Kd.slice 37 k37) (fun x=>(x.length*48≤140737488351232∧∀z1∈x,OG37 z1)):=opens_slice (B:=48) Tryz.underlying22 (by kernel_rfl) (by kernel_rfl) opT37
theorem opT26:Opens Tryz.prog 26 (Kd.int .u32) (fun x=>(Lit.int .u32 x).wf=true):=opens_int Tryz.underlying26 (by kernel_rfl)
def OG28(x:S28):Prop:=(Lit.int .u8 x.f0).wf=true∧(Lit.int .u32 x.f1).wf=true
theorem opT28:Opens Tryz.prog 28 k28 (fun x=>OG28 x):=opens_struct Tryz.underlying28 (by kernel_rfl) (by kernel_rfl) (OpensFs.cons opT5 (OpensFs.one opT26)) (fun x:S28=>(x.f0,x.f1)) (fun p=>⟨p.1,p.2⟩) (fun _=>rfl)
def Qbb.Pure:Prop:=∀(x0:Int) (x1:List (S37)),(Lit.int .u8 x0).wf=true→(x1.length*48≤140737488351232∧∀z2∈x1,OG37 z2)→∃k,Qbb.f k x0 x1=some true
def Qbd.Pure:Prop:=∀(x0:List (S37)) (x1:List (S37)) (x2:Int),(x0.length*48≤140737488351232∧∀z2∈x0,OG37 z2)→(x1.length*48≤140737488351232∧∀z2∈x1,OG37 z2)→(Lit.int .u32 x2).wf=true→∃k,Qbd.f k x0 x1 x2=some true
end Go.Proofs.YteaocbonofboeaaGreat.C
end
