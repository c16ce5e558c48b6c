/- Texts of this claim's author and of the print of its functions, merged by merge.py. -/
import Derived.Test.YtnnofopfbeklbaaGreatMH02
set_option linter.unusedVariables false
set_option linter.unusedSimpArgs false
set_option maxHeartbeats 8000000
set_option maxRecDepth 100000
section
namespace Go.Proofs.YtnnofopfbeklbaaGreat.C
open Go.RowKit Go.Proofs.YtnnofopfbeklbaaGreatW.PrintWords Go.Proofs.YtnnofopfbeklbaaGreatW.PrintLast Go.Proofs.YtnnofopfbeklbaaGreatW.PrintMore
attribute [local go_sem] Qif Qig Qih Qii Qij Qik Qil Qim
def Qai.l0:Nat→Int→List Int→Int→Int→Option (Int)
 | 0,_,_,_,_=>none
 | k+1,x3,x6,x7,x8=>if x8<x7 then(if 0≤x8 then(if x8<(x6.length:Int)then(if(rd x6 x8)=x3 then(Qai.l0 k x3 x6 x7 (wrap64 (x8+1)))else(some (rd x6 x8)))else(none))else(none))else(some x3)
def Qai.f(k:Nat)(l0:List Int):Option (Int):=Qai.l0 k 0 l0 (l0.length:Int) 0
theorem Qai.mono_l:∀k,(∀y0 y1 y2 y3,LeO (Qai.l0 k y0 y1 y2 y3) (Qai.l0 (k+1) y0 y1 y2 y3))
 | 0=>fun _ _ _ _ r h=>by simp[Qai.l0]at h
 | k+1=>by
  have ih0:=Qai.mono_l k
  ·intro y0 y1 y2 y3
   unfold Qai.l0
   repeat' first
   |(with_reducible exact ih0 _ _ _ _)
   |(with_reducible exact LeO.refl _)
   |(with_reducible exact LeO.none _)
   |(with_reducible refine LeO.ite ?_ ?_)
   |(with_reducible refine LeO.bind ?_ (fun _=>?_))
   | exact ih0 _ _ _ _
   | exact LeO.none _
   | refine LeO.ite ?_ ?_
   | refine LeO.bind ?_ (fun _=>?_)
theorem Qai.mono:∀a0 k,LeO (Qai.f k a0) (Qai.f (k+1) a0):=by
 intro a0 k
 have ih0:=Qai.mono_l k
 unfold Qai.f
 repeat' first
   |(with_reducible exact ih0 _ _ _ _)
   |(with_reducible exact LeO.refl _)
   |(with_reducible exact LeO.none _)
   |(with_reducible refine LeO.ite ?_ ?_)
   |(with_reducible refine LeO.bind ?_ (fun _=>?_))
   | exact ih0 _ _ _ _
   | exact LeO.none _
   | refine LeO.ite ?_ ?_
   | refine LeO.bind ?_ (fun _=>?_)
theorem Qai.calls(k:Nat)(A0:Option Addr)(c0:Nat)(l0:List Int)(r:Int)(w:World)(hr0:Kd.C (Kd.int .i64) w A0 l0.length l0)(hc0:l0.length≤c0)(h:Qai.f k l0=some r) :
  Calls Tryz.prog 165 #[.slice A0 l0.length c0] w fun e w'=>e=.returned (.int .i64 r)∧Drawn0 w w':=by
 have HR0:=QA hr0
 have HC0:=QA hc0
 clear hr0 hc0
 have H:(Qai.l0 k 0 l0 (l0.length:Int) 0)=some r:=h
 clear h
 have H':=QA H
 clear H
 go_enter Tryz.func165,Tryz.ntmps165
 go_wp2
 go_loopg [8] k (fun kq v8 w'=>∃(x8_1:Int),v8=.int .i64 x8_1∧Aside0 (Qai.l0 kq 0 l0 (l0.length:Int) x8_1=some r)∧Aside0 (kq≤k)∧Drawn0 w w')
 case atStart=>exact⟨(0),qq_5,H',⟨Nat.le_refl _⟩,by repeat(first|exact Drawn0.refl _|apply Drawn0.step)⟩
 case round =>
  clear H'
  obtain⟨x8_1,rfl,HA,HK1,⟨m1,rfl⟩⟩:=hrel
  cases gk with
  | zero=>exact absurd HA.out (by simp[Qai.l0])
  | succ k1 =>
   have H:=HA.out
   clear HA
   simp only[Qai.l0]at H
   by_cases c2:x8_1<(l0.length:Int)
   ·rw [if_pos c2]at H
    have c2b0:decide (x8_1<(l0.length:Int))=true:=decide_eq_true c2
    clear c2
    by_cases c3:0≤x8_1
    ·rw[if_pos c3]at H
     have c3b0:decide (0≤x8_1)=true:=decide_eq_true c3
     clear c3
     by_cases c4:x8_1<(l0.length:Int)
     ·rw[if_pos c4]at H
      have c4b0:decide (x8_1<(l0.length:Int))=true:=decide_eq_true c4
      clear c4
      by_cases c5:(rd l0 x8_1)=0
      ·rw[if_pos c5]at H
       have c5b0:((rd l0 x8_1) == 0)=true:=beq_iff_eq.mpr c5
       have c5b1:((rd l0 x8_1) != 0)=false:=bne_eq_false_iff_eq.mpr c5
       clear c5
       have H':=QA H
       clear H
       have p208:0≤(x8_1:Int):=of_decide_eq_true qq_4
       have q208:x8_1<(l0.length:Int):=of_decide_eq_true qq_4
       obtain⟨ad208,e208,hx208_0⟩:=Kd.at_int HR0.out x8_1 p208 q208
       cases e208
       replace p208:=eq_true p208
       replace q208:=eq_true q208
       go_wp2
       go_roundg k1
       case measure=>have:=HK1.out;omega
       case rel=>exact⟨(wrap64 (x8_1+1)),qq_5,H',⟨by have:=HK1.out;omega⟩,by repeat(first|exact Drawn0.refl _|apply Drawn0.step)⟩
      ·rw[if_neg c5]at H
       have c5b0:((rd l0 x8_1) == 0)=false:=beq_eq_false_iff_ne.mpr c5
       have c5b1:((rd l0 x8_1) != 0)=true:=bne_iff_ne.mpr c5
       obtain rfl:=Option.some.inj H
       have p208:0≤(x8_1:Int):=of_decide_eq_true qq_4
       have q208:x8_1<(l0.length:Int):=of_decide_eq_true qq_4
       obtain⟨ad208,e208,hx208_0⟩:=Kd.at_int HR0.out x8_1 p208 q208
       cases e208
       replace p208:=eq_true p208
       replace q208:=eq_true q208
       go_wp2
       go_ret
       exact⟨by first|rfl |(simp;done) |(simp[*];done),by repeat(first|exact Drawn0.refl _|apply Drawn0.step)⟩
     ·rw[if_neg c4]at H
      exact absurd H (by simp)
    ·rw[if_neg c3]at H
     exact absurd H (by simp)
   ·rw[if_neg c2]at H
    have c2b0:decide (x8_1<(l0.length:Int))=false:=decide_eq_false c2
    clear c2
    obtain rfl:=Option.some.inj H
    go_wp2
    go_ret
    exact⟨by first|rfl |(simp;done) |(simp[*];done),by repeat(first|exact Drawn0.refl _|apply Drawn0.step)⟩
def Qaj.f(a0:Int):Option (Bool):=some (a0 != a0)
theorem Qaj.calls(a0:Int)(r:Bool)(w:World)(h:Qaj.f a0=some r) :
  Calls Tryz.prog 216 #[.int .u32 a0] w fun e w'=>e=.returned (.bool r)∧Drawn0 w w':=by
 have H:(some (a0 != a0))=some r:=h
 clear h
 obtain rfl:=Option.some.inj H
 go_enter Tryz.func216,Tryz.ntmps216
 go_wp2
 go_ret
 exact⟨by first|rfl |(simp;done) |(simp[*];done),by repeat(first|exact Drawn0.refl _|apply Drawn0.step)⟩
def Qaf.f(a0:Int)(a1:Int):Option (Int):=(Qaj.f a0).bind fun t211=>((Qaj.f a1).bind fun t212=>(if t211=true then(if t212=true then(some 0)else(some (-1)))else(if t212=true then(some 1)else(if a0<a1 then(some (-1))else(if a0 > a1 then(some 1)else(some 0))))))
theorem Qaf.calls(a0:Int)(a1:Int)(r:Int)(w:World)(h:Qaf.f a0 a1=some r) :
  Calls Tryz.prog 167 #[.int .u32 a0,.int .u32 a1] w fun e w'=>e=.returned (.int .i64 r)∧Drawn0 w w':=by
 have H:((Qaj.f a0).bind fun t211=>((Qaj.f a1).bind fun t212=>(if t211=true then(if t212=true then(some 0)else(some (-1)))else(if t212=true then(some 1)else(if a0<a1 then(some (-1))else(if a0 > a1 then(some 1)else(some 0)))))))=some r:=h
 clear h
 replace H:=Option.bind_eq_some_iff.mp H
 obtain⟨t211,A30,H⟩:=H
 replace H:((Qaj.f a1).bind fun t212=>(if t211=true then(if t212=true then(some 0)else(some (-1)))else(if t212=true then(some 1)else(if a0<a1 then(some (-1))else(if a0 > a1 then(some 1)else(some 0))))))=some r:=H
 have A3:=QA A30
 clear A30
 replace H:=Option.bind_eq_some_iff.mp H
 obtain⟨t212,A40,H⟩:=H
 replace H:(if t211=true then(if t212=true then(some 0)else(some (-1)))else(if t212=true then(some 1)else(if a0<a1 then(some (-1))else(if a0 > a1 then(some 1)else(some 0)))))=some r:=H
 have A4:=QA A40
 clear A40
 by_cases c5:t211=true
 ·subst c5
  have H1:(if t212=true then(some 0)else(some (-1)))=some r:=by rw[if_pos rfl]at H;exact H
  clear H
  have H:=H1
  clear H1
  by_cases c6:t212=true
  ·subst c6
   have H1:(some 0)=some r:=by rw[if_pos rfl]at H;exact H
   clear H
   have H:=H1
   clear H1
   obtain rfl:=Option.some.inj H
   go_enter Tryz.func167,Tryz.ntmps167
   go_wp2_with (first |((with_reducible refine Qin (f:=216) rfl ?_);refine Qgp (some 8) rfl rfl Tryz.func216 qq_6 rfl #[.int .u32 a0] rfl qq_1 ?_;(with_reducible refine(Qaj.calls a0 true _ A3.out).mono ?_);rintro e w' ⟨rfl,⟨nd,rfl⟩⟩;refine⟨_,rfl,?_⟩) |((with_reducible refine Qin (f:=216) rfl ?_);refine Qgp (some 10) rfl rfl Tryz.func216 qq_6 rfl #[.int .u32 a1] rfl qq_1 ?_;(with_reducible refine(Qaj.calls a1 true _ A4.out).mono ?_);rintro e w' ⟨rfl,⟨nd,rfl⟩⟩;refine⟨_,rfl,?_⟩))
   go_ret
   exact⟨by first|rfl |(simp;done) |(simp[*];done),by repeat(first|exact Drawn0.refl _|apply Drawn0.step)⟩
  ·replace c6:=Bool.eq_false_iff.mpr c6
   subst c6
   have H1:(some (-1))=some r:=by rw[if_neg (show ¬(false=true)by decide)]at H;exact H
   clear H
   have H:=H1
   clear H1
   obtain rfl:=Option.some.inj H
   go_enter Tryz.func167,Tryz.ntmps167
   go_wp2_with (first |((with_reducible refine Qin (f:=216) rfl ?_);refine Qgp (some 8) rfl rfl Tryz.func216 qq_6 rfl #[.int .u32 a0] rfl qq_1 ?_;(with_reducible refine(Qaj.calls a0 true _ A3.out).mono ?_);rintro e w' ⟨rfl,⟨nd,rfl⟩⟩;refine⟨_,rfl,?_⟩) |((with_reducible refine Qin (f:=216) rfl ?_);refine Qgp (some 10) rfl rfl Tryz.func216 qq_6 rfl #[.int .u32 a1] rfl qq_1 ?_;(with_reducible refine(Qaj.calls a1 false _ A4.out).mono ?_);rintro e w' ⟨rfl,⟨nd,rfl⟩⟩;refine⟨_,rfl,?_⟩))
   go_ret
   exact⟨by first|rfl |(simp;done) |(simp[*];done),by repeat(first|exact Drawn0.refl _|apply Drawn0.step)⟩
 ·replace c5:=Bool.eq_false_iff.mpr c5
  subst c5
  have H1:(if t212=true then(some 1)else(if a0<a1 then(some (-1))else(if a0 > a1 then(some 1)else(some 0))))=some r:=by rw[if_neg (show ¬(false=true)by decide)]at H;exact H
  clear H
  have H:=H1
  clear H1
  by_cases c7:t212=true
  ·subst c7
   have H1:(some 1)=some r:=by rw[if_pos rfl]at H;exact H
   clear H
   have H:=H1
   clear H1
   obtain rfl:=Option.some.inj H
   go_enter Tryz.func167,Tryz.ntmps167
   go_wp2_with (first |((with_reducible refine Qin (f:=216) rfl ?_);refine Qgp (some 8) rfl rfl Tryz.func216 qq_6 rfl #[.int .u32 a0] rfl qq_1 ?_;(with_reducible refine(Qaj.calls a0 false _ A3.out).mono ?_);rintro e w' ⟨rfl,⟨nd,rfl⟩⟩;refine⟨_,rfl,?_⟩) |((with_reducible refine Qin (f:=216) rfl ?_);refine Qgp (some 10) rfl rfl Tryz.func216 qq_6 rfl #[.int .u32 a1] rfl qq_1 ?_;(with_reducible refine(Qaj.calls a1 true _ A4.out).mono ?_);rintro e w' ⟨rfl,⟨nd,rfl⟩⟩;refine⟨_,rfl,?_⟩))
   go_ret
   exact⟨by first|rfl |(simp;done) |(simp[*];done),by repeat(first|exact Drawn0.refl _|apply Drawn0.step)⟩
  ·replace c7:=Bool.eq_false_iff.mpr c7
   subst c7
   have H1:(if a0<a1 then(some (-1))else(if a0 > a1 then(some 1)else(some 0)))=some r:=by rw[if_neg (show ¬(false=true)by decide)]at H;exact H
   clear H
   have H:=H1
   clear H1
   by_cases c8:a0<a1
   ·rw[if_pos c8]at H
    have c8b0:decide (a0<a1)=true:=decide_eq_true c8
    clear c8
    obtain rfl:=Option.some.inj H
    go_enter Tryz.func167,Tryz.ntmps167
    go_wp2_with (first |((with_reducible refine Qin (f:=216) rfl ?_);refine Qgp (some 8) rfl rfl Tryz.func216 qq_6 rfl #[.int .u32 a0] rfl qq_1 ?_;(with_reducible refine(Qaj.calls a0 false _ A3.out).mono ?_);rintro e w' ⟨rfl,⟨nd,rfl⟩⟩;refine⟨_,rfl,?_⟩) |((with_reducible refine Qin (f:=216) rfl ?_);refine Qgp (some 10) rfl rfl Tryz.func216 qq_6 rfl #[.int .u32 a1] rfl qq_1 ?_;(with_reducible refine(Qaj.calls a1 false _ A4.out).mono ?_);rintro e w' ⟨rfl,⟨nd,rfl⟩⟩;refine⟨_,rfl,?_⟩))
    go_ret
    exact⟨by first|rfl |(simp;done) |(simp[*];done),by repeat(first|exact Drawn0.refl _|apply Drawn0.step)⟩
   ·rw[if_neg c8]at H
    have c8b0:decide (a0<a1)=false:=decide_eq_false c8
    clear c8
    by_cases c9:a0 > a1
    ·rw[if_pos c9]at H
     have c9b0:decide (a1<a0)=true:=decide_eq_true c9
     clear c9
     obtain rfl:=Option.some.inj H
     go_enter Tryz.func167,Tryz.ntmps167
     go_wp2_with (first |((with_reducible refine Qin (f:=216) rfl ?_);refine Qgp (some 8) rfl rfl Tryz.func216 qq_6 rfl #[.int .u32 a0] rfl qq_1 ?_;(with_reducible refine(Qaj.calls a0 false _ A3.out).mono ?_);rintro e w' ⟨rfl,⟨nd,rfl⟩⟩;refine⟨_,rfl,?_⟩) |((with_reducible refine Qin (f:=216) rfl ?_);refine Qgp (some 10) rfl rfl Tryz.func216 qq_6 rfl #[.int .u32 a1] rfl qq_1 ?_;(with_reducible refine(Qaj.calls a1 false _ A4.out).mono ?_);rintro e w' ⟨rfl,⟨nd,rfl⟩⟩;refine⟨_,rfl,?_⟩))
     go_ret
     exact⟨by first|rfl |(simp;done) |(simp[*];done),by repeat(first|exact Drawn0.refl _|apply Drawn0.step)⟩
    ·rw[if_neg c9]at H
     have c9b0:decide (a1<a0)=false:=decide_eq_false c9
     clear c9
     obtain rfl:=Option.some.inj H
     go_enter Tryz.func167,Tryz.ntmps167
     go_wp2_with (first |((with_reducible refine Qin (f:=216) rfl ?_);refine Qgp (some 8) rfl rfl Tryz.func216 qq_6 rfl #[.int .u32 a0] rfl qq_1 ?_;(with_reducible refine(Qaj.calls a0 false _ A3.out).mono ?_);rintro e w' ⟨rfl,⟨nd,rfl⟩⟩;refine⟨_,rfl,?_⟩) |((with_reducible refine Qin (f:=216) rfl ?_);refine Qgp (some 10) rfl rfl Tryz.func216 qq_6 rfl #[.int .u32 a1] rfl qq_1 ?_;(with_reducible refine(Qaj.calls a1 false _ A4.out).mono ?_);rintro e w' ⟨rfl,⟨nd,rfl⟩⟩;refine⟨_,rfl,?_⟩))
     go_ret
     exact⟨by first|rfl |(simp;done) |(simp[*];done),by repeat(first|exact Drawn0.refl _|apply Drawn0.step)⟩
def Qak.f(a0:Int):Option (Bool):=some (a0 != a0)
theorem Qak.calls(a0:Int)(r:Bool)(w:World)(h:Qak.f a0=some r) :
  Calls Tryz.prog 215 #[.int .u64 a0] w fun e w'=>e=.returned (.bool r)∧Drawn0 w w':=by
 have H:(some (a0 != a0))=some r:=h
 clear h
 obtain rfl:=Option.some.inj H
 go_enter Tryz.func215,Tryz.ntmps215
 go_wp2
 go_ret
 exact⟨by first|rfl |(simp;done) |(simp[*];done),by repeat(first|exact Drawn0.refl _|apply Drawn0.step)⟩
def Qag.f(a0:Int)(a1:Int):Option (Int):=(Qak.f a0).bind fun t209=>((Qak.f a1).bind fun t210=>(if t209=true then(if t210=true then(some 0)else(some (-1)))else(if t210=true then(some 1)else(if a0<a1 then(some (-1))else(if a0 > a1 then(some 1)else(some 0))))))
theorem Qag.calls(a0:Int)(a1:Int)(r:Int)(w:World)(h:Qag.f a0 a1=some r) :
  Calls Tryz.prog 166 #[.int .u64 a0,.int .u64 a1] w fun e w'=>e=.returned (.int .i64 r)∧Drawn0 w w':=by
 have H:((Qak.f a0).bind fun t209=>((Qak.f a1).bind fun t210=>(if t209=true then(if t210=true then(some 0)else(some (-1)))else(if t210=true then(some 1)else(if a0<a1 then(some (-1))else(if a0 > a1 then(some 1)else(some 0)))))))=some r:=h
 clear h
 replace H:=Option.bind_eq_some_iff.mp H
 obtain⟨t209,A30,H⟩:=H
 replace H:((Qak.f a1).bind fun t210=>(if t209=true then(if t210=true then(some 0)else(some (-1)))else(if t210=true then(some 1)else(if a0<a1 then(some (-1))else(if a0 > a1 then(some 1)else(some 0))))))=some r:=H
 have A3:=QA A30
 clear A30
 replace H:=Option.bind_eq_some_iff.mp H
 obtain⟨t210,A40,H⟩:=H
 replace H:(if t209=true then(if t210=true then(some 0)else(some (-1)))else(if t210=true then(some 1)else(if a0<a1 then(some (-1))else(if a0 > a1 then(some 1)else(some 0)))))=some r:=H
 have A4:=QA A40
 clear A40
 by_cases c5:t209=true
 ·subst c5
  have H1:(if t210=true then(some 0)else(some (-1)))=some r:=by rw[if_pos rfl]at H;exact H
  clear H
  have H:=H1
  clear H1
  by_cases c6:t210=true
  ·subst c6
   have H1:(some 0)=some r:=by rw[if_pos rfl]at H;exact H
   clear H
   have H:=H1
   clear H1
   obtain rfl:=Option.some.inj H
   go_enter Tryz.func166,Tryz.ntmps166
   go_wp2_with (first |((with_reducible refine Qin (f:=215) rfl ?_);refine Qgp (some 8) rfl rfl Tryz.func215 qq_6 rfl #[.int .u64 a0] rfl qq_1 ?_;(with_reducible refine(Qak.calls a0 true _ A3.out).mono ?_);rintro e w' ⟨rfl,⟨nd,rfl⟩⟩;refine⟨_,rfl,?_⟩) |((with_reducible refine Qin (f:=215) rfl ?_);refine Qgp (some 10) rfl rfl Tryz.func215 qq_6 rfl #[.int .u64 a1] rfl qq_1 ?_;(with_reducible refine(Qak.calls a1 true _ A4.out).mono ?_);rintro e w' ⟨rfl,⟨nd,rfl⟩⟩;refine⟨_,rfl,?_⟩))
   go_ret
   exact⟨by first|rfl |(simp;done) |(simp[*];done),by repeat(first|exact Drawn0.refl _|apply Drawn0.step)⟩
  ·replace c6:=Bool.eq_false_iff.mpr c6
   subst c6
   have H1:(some (-1))=some r:=by rw[if_neg (show ¬(false=true)by decide)]at H;exact H
   clear H
   have H:=H1
   clear H1
   obtain rfl:=Option.some.inj H
   go_enter Tryz.func166,Tryz.ntmps166
   go_wp2_with (first |((with_reducible refine Qin (f:=215) rfl ?_);refine Qgp (some 8) rfl rfl Tryz.func215 qq_6 rfl #[.int .u64 a0] rfl qq_1 ?_;(with_reducible refine(Qak.calls a0 true _ A3.out).mono ?_);rintro e w' ⟨rfl,⟨nd,rfl⟩⟩;refine⟨_,rfl,?_⟩) |((with_reducible refine Qin (f:=215) rfl ?_);refine Qgp (some 10) rfl rfl Tryz.func215 qq_6 rfl #[.int .u64 a1] rfl qq_1 ?_;(with_reducible refine(Qak.calls a1 false _ A4.out).mono ?_);rintro e w' ⟨rfl,⟨nd,rfl⟩⟩;refine⟨_,rfl,?_⟩))
   go_ret
   exact⟨by first|rfl |(simp;done) |(simp[*];done),by repeat(first|exact Drawn0.refl _|apply Drawn0.step)⟩
 ·replace c5:=Bool.eq_false_iff.mpr c5
  subst c5
  have H1:(if t210=true then(some 1)else(if a0<a1 then(some (-1))else(if a0 > a1 then(some 1)else(some 0))))=some r:=by rw[if_neg (show ¬(false=true)by decide)]at H;exact H
  clear H
  have H:=H1
  clear H1
  by_cases c7:t210=true
  ·subst c7
   have H1:(some 1)=some r:=by rw[if_pos rfl]at H;exact H
   clear H
   have H:=H1
   clear H1
   obtain rfl:=Option.some.inj H
   go_enter Tryz.func166,Tryz.ntmps166
   go_wp2_with (first |((with_reducible refine Qin (f:=215) rfl ?_);refine Qgp (some 8) rfl rfl Tryz.func215 qq_6 rfl #[.int .u64 a0] rfl qq_1 ?_;(with_reducible refine(Qak.calls a0 false _ A3.out).mono ?_);rintro e w' ⟨rfl,⟨nd,rfl⟩⟩;refine⟨_,rfl,?_⟩) |((with_reducible refine Qin (f:=215) rfl ?_);refine Qgp (some 10) rfl rfl Tryz.func215 qq_6 rfl #[.int .u64 a1] rfl qq_1 ?_;(with_reducible refine(Qak.calls a1 true _ A4.out).mono ?_);rintro e w' ⟨rfl,⟨nd,rfl⟩⟩;refine⟨_,rfl,?_⟩))
   go_ret
   exact⟨by first|rfl |(simp;done) |(simp[*];done),by repeat(first|exact Drawn0.refl _|apply Drawn0.step)⟩
  ·replace c7:=Bool.eq_false_iff.mpr c7
   subst c7
   have H1:(if a0<a1 then(some (-1))else(if a0 > a1 then(some 1)else(some 0)))=some r:=by rw[if_neg (show ¬(false=true)by decide)]at H;exact H
   clear H
   have H:=H1
   clear H1
   by_cases c8:a0<a1
   ·rw[if_pos c8]at H
    have c8b0:decide (a0<a1)=true:=decide_eq_true c8
    clear c8
    obtain rfl:=Option.some.inj H
    go_enter Tryz.func166,Tryz.ntmps166
    go_wp2_with (first |((with_reducible refine Qin (f:=215) rfl ?_);refine Qgp (some 8) rfl rfl Tryz.func215 qq_6 rfl #[.int .u64 a0] rfl qq_1 ?_;(with_reducible refine(Qak.calls a0 false _ A3.out).mono ?_);rintro e w' ⟨rfl,⟨nd,rfl⟩⟩;refine⟨_,rfl,?_⟩) |((with_reducible refine Qin (f:=215) rfl ?_);refine Qgp (some 10) rfl rfl Tryz.func215 qq_6 rfl #[.int .u64 a1] rfl qq_1 ?_;(with_reducible refine(Qak.calls a1 false _ A4.out).mono ?_);rintro e w' ⟨rfl,⟨nd,rfl⟩⟩;refine⟨_,rfl,?_⟩))
    go_ret
    exact⟨by first|rfl |(simp;done) |(simp[*];done),by repeat(first|exact Drawn0.refl _|apply Drawn0.step)⟩
   ·rw[if_neg c8]at H
    have c8b0:decide (a0<a1)=false:=decide_eq_false c8
    clear c8
    by_cases c9:a0 > a1
    ·rw[if_pos c9]at H
     have c9b0:decide (a1<a0)=true:=decide_eq_true c9
     clear c9
     obtain rfl:=Option.some.inj H
     go_enter Tryz.func166,Tryz.ntmps166
     go_wp2_with (first |((with_reducible refine Qin (f:=215) rfl ?_);refine Qgp (some 8) rfl rfl Tryz.func215 qq_6 rfl #[.int .u64 a0] rfl qq_1 ?_;(with_reducible refine(Qak.calls a0 false _ A3.out).mono ?_);rintro e w' ⟨rfl,⟨nd,rfl⟩⟩;refine⟨_,rfl,?_⟩) |((with_reducible refine Qin (f:=215) rfl ?_);refine Qgp (some 10) rfl rfl Tryz.func215 qq_6 rfl #[.int .u64 a1] rfl qq_1 ?_;(with_reducible refine(Qak.calls a1 false _ A4.out).mono ?_);rintro e w' ⟨rfl,⟨nd,rfl⟩⟩;refine⟨_,rfl,?_⟩))
     go_ret
     exact⟨by first|rfl |(simp;done) |(simp[*];done),by repeat(first|exact Drawn0.refl _|apply Drawn0.step)⟩
    ·rw[if_neg c9]at H
     have c9b0:decide (a1<a0)=false:=decide_eq_false c9
     clear c9
     obtain rfl:=Option.some.inj H
     go_enter Tryz.func166,Tryz.ntmps166
     go_wp2_with (first |((with_reducible refine Qin (f:=215) rfl ?_);refine Qgp (some 8) rfl rfl Tryz.func215 qq_6 rfl #[.int .u64 a0] rfl qq_1 ?_;(with_reducible refine(Qak.calls a0 false _ A3.out).mono ?_);rintro e w' ⟨rfl,⟨nd,rfl⟩⟩;refine⟨_,rfl,?_⟩) |((with_reducible refine Qin (f:=215) rfl ?_);refine Qgp (some 10) rfl rfl Tryz.func215 qq_6 rfl #[.int .u64 a1] rfl qq_1 ?_;(with_reducible refine(Qak.calls a1 false _ A4.out).mono ?_);rintro e w' ⟨rfl,⟨nd,rfl⟩⟩;refine⟨_,rfl,?_⟩))
     go_ret
     exact⟨by first|rfl |(simp;done) |(simp[*];done),by repeat(first|exact Drawn0.refl _|apply Drawn0.step)⟩
def Qco.f(k:Nat)(a0_0:Int)(a0_1:Int)(a1_0:Int)(a1_1:Int):Option (Int):=(Qag.f a0_0 a1_0).bind fun t215=>((Qaf.f a0_1 a1_1).bind fun t216=>((Qai.f k (([t215,t216]:List Int))).bind fun t220=>(some t220)))
theorem Qco.mono:∀a0 a1 a2 a3 k,LeO (Qco.f k a0 a1 a2 a3) (Qco.f (k+1) a0 a1 a2 a3):=by
 intro a0 a1 a2 a3 k
 unfold Qco.f
 repeat' first
   |(with_reducible exact Qai.mono _ _)
   |(with_reducible exact LeO.refl _)
   |(with_reducible exact LeO.none _)
   |(with_reducible refine LeO.ite ?_ ?_)
   |(with_reducible refine LeO.bind ?_ (fun _=>?_))
   | exact Qai.mono _ _
   | exact LeO.none _
   | refine LeO.ite ?_ ?_
   | refine LeO.bind ?_ (fun _=>?_)
def Qco.T1:Bool × List (List Nat × List Nat):=(true,[([],[]),([0],[0]),([],[]),([2],[2]),([1,3],[1,3]),([],[]),([5],[5]),([],[]),([7],[7]),([6,8,4],[6,8]),([4,9],[4,9]),([10,9],[10]),([11,11,0,1,2,3,4,5,6,7,8,9,10,11],[11])])
def Qco.B1:List Nat:=[0,1,0,4,15,0,32,0,128,511,1023,2047,4095]
theorem Qco.tab1:rtab .any (Qhx Tryz.f118 1)=Qco.T1:=by kernel_rfl
theorem Qco.bits1:Qhr Qco.T1.2 Qco.B1=true:=by kernel_rfl
theorem Qco.calls(k:Nat)(a0_0:Int)(a0_1:Int)(a1_0:Int)(a1_1:Int)(r:Int)(w:World)(h:Qco.f k a0_0 a0_1 a1_0 a1_1=some r) :
  Calls Tryz.prog 118 #[.agg #[.int .u64 a0_0,.int .u32 a0_1],.agg #[.int .u64 a1_0,.int .u32 a1_1]] w fun e w'=>e=.returned (.int .i64 r)∧Below w.heap.size w w':=by
 have hu117:=Tryz.underlying117
 have HB:=QA (Below.refl w.heap.size w)
 have H:((Qag.f a0_0 a1_0).bind fun t215=>((Qaf.f a0_1 a1_1).bind fun t216=>((Qai.f k (([t215,t216]:List Int))).bind fun t220=>(some t220))))=some r:=h
 clear h
 replace H:=Option.bind_eq_some_iff.mp H
 obtain⟨t215,A30,H⟩:=H
 replace H:((Qaf.f a0_1 a1_1).bind fun t216=>((Qai.f k (([t215,t216]:List Int))).bind fun t220=>(some t220)))=some r:=H
 have A3:=QA A30
 clear A30
 replace H:=Option.bind_eq_some_iff.mp H
 obtain⟨t216,A40,H⟩:=H
 replace H:((Qai.f k (([t215,t216]:List Int))).bind fun t220=>(some t220))=some r:=H
 have A4:=QA A40
 clear A40
 obtain⟨y217,hy217⟩:∃y_:List Int,y_=(([t215,t216]:List Int)):=⟨_,rfl⟩
 replace H:((Qai.f k y217).bind fun t220=>(some t220))=some r:=by first |(rw[hy217];with_reducible exact H) |(have H2_:=(Option.bind_some _ _).symm.trans H;rw[hy217];with_reducible exact H2_) |(have H2_:=(Option.bind_some _ _).symm.trans H;with_reducible exact H2_)|with_reducible exact H |(rw[hy217];exact H)|exact H
 have Ny217:=QA hy217
 clear hy217
 replace H:=Option.bind_eq_some_iff.mp H
 obtain⟨t220,A50,H⟩:=H
 replace H:(some t220)=some r:=H
 have A5:=QA A50
 clear A50
 obtain rfl:=Option.some.inj H
 go_enter Tryz.func118,Tryz.ntmps118
 try go_wp2_with (first |((with_reducible refine Qfs (N:=2) rfl ?_);refine qq_e 2 #[.int .u64 a0_0,.int .u32 a0_1] 117 ?_;intro gb213 hg w6 hbox hb;have n0_:=QA (Qfh qq_b hb);have n1_:=QA (hbox);have n2_:=QA (qq_s hg:w.heap.size≤gb213);have n3_:=n2_;clear HB;have HB:=n0_;have BK213:=n1_;have GW213:=n2_;have GE213:=n3_;clear n0_ n1_ n2_ n3_;clear hb hbox hg) |((with_reducible refine Qfs (N:=3) rfl ?_);refine qq_e 3 #[.int .u64 a1_0,.int .u32 a1_1] 117 ?_;intro gb214 hg w7 hbox hb;have n0_:=QA (Qeh (g:=gb213) (o:=.cells #[.int .u64 a0_0,.int .u32 a0_1] 117 (0,0)) qq_0 hb);have n1_:=QA (Qfh qq_b hb);have n2_:=QA (hbox);have n3_:=QA (qq_s hg:w.heap.size≤gb214);have n4_:=n3_;have n5_:=QA ((by rw[hg];exact Nat.ne_of_lt (Qdr (g:=gb213) (o:=.cells #[.int .u64 a0_0,.int .u32 a0_1] 117 (0,0)) qq_0):gb213≠gb214));have n6_:=QA ((by rw[hg];exact Nat.ne_of_gt (Qdr (g:=gb213) (o:=.cells #[.int .u64 a0_0,.int .u32 a0_1] 117 (0,0)) qq_0):gb214≠gb213));clear BK213 HB;have BK213:=n0_;have HB:=n1_;have BK214:=n2_;have GW214:=n3_;have GE214:=n4_;have NB213_214:=n5_;have NB214_213:=n6_;clear n0_ n1_ n2_ n3_ n4_ n5_ n6_;clear hb hbox hg))
 have n0_:=QA (Qef BK213.out)
 have n1_:=QA (Qef BK214.out)
 have n2_:=QA (Qfo HB.out)
 clear BK213 BK214 HB
 have BK213:=n0_
 have BK214:=n1_
 have HB:=n2_
 clear n0_ n1_ n2_
 refine Qge (n:=13) (S:=fun w'=>w'.cell? ⟨gb213,0,none⟩=some (.int .u64 a0_0)∧w'.cell? ⟨gb213,1,none⟩=some (.int .u32 a0_1)∧w'.cell? ⟨gb214,0,none⟩=some (.int .u64 a1_0)∧w'.cell? ⟨gb214,1,none⟩=some (.int .u32 a1_1)) (ds:=[]) #[false,false,false,false,false,false,false,false,false,false,false,false,false] qq_6 rfl rfl ⟨(Qds BK213.out 0).trans rfl,(Qds BK213.out 1).trans rfl,(Qds BK214.out 0).trans rfl,(Qds BK214.out 1).trans rfl⟩ (fun hHeld=>?_);refine Qhv Qco.tab1 Qco.bits1 (fun HT_ HW_=>?_)
 generalize w7.drew=w8 at BK213 BK214 HB hHeld ⊢
 refine Qgh (i:=0) (N:=some 5) (v:=?_) (a':=?_) #[true,false,false,false,false,false,false,false,false,false,false,false,false] rfl rfl (Qhn HT_.out qq_6) (fun _ _ _ h=>h) (Or.inl ⟨by rfl,?_⟩) ?_ ?_
 rotate_left
 ·intro w'
  go_simp
  with_reducible rfl
 rotate_left
 ·exact qq_2
 refine Qgh (i:=2) (N:=some 7) (v:=?_) (a':=?_) #[true,false,true,false,false,false,false,false,false,false,false,false,false] rfl rfl (Qhn HT_.out qq_6) (fun _ _ _ h=>h) (Or.inl ⟨by rfl,?_⟩) ?_ ?_
 rotate_left
 ·intro w'
  go_simp
  with_reducible rfl
 rotate_left
 ·exact qq_2
 refine Qgh (i:=5) (N:=some 10) (v:=?_) (a':=?_) #[true,false,true,false,false,true,false,false,false,false,false,false,false] rfl rfl (Qhn HT_.out qq_6) (fun _ _ _ h=>h) (Or.inl ⟨by rfl,?_⟩) ?_ ?_
 rotate_left
 ·intro w'
  go_simp
  with_reducible rfl
 rotate_left
 ·exact qq_2
 refine Qgh (i:=7) (N:=some 12) (v:=?_) (a':=?_) #[true,false,true,false,false,true,false,true,false,false,false,false,false] rfl rfl (Qhn HT_.out qq_6) (fun _ _ _ h=>h) (Or.inl ⟨by rfl,?_⟩) ?_ ?_
 rotate_left
 ·intro w'
  go_simp
  with_reducible rfl
 rotate_left
 ·exact qq_2
 refine Qgg (i:=1) (N:=some 6) (v:=?_) (a':=?_) #[true,true,true,false,false,true,false,true,false,false,false,false,false] rfl rfl (Qhu HT_.out HW_.out qq_6) (fun _ _ _ h=>h) (Or.inl ⟨by rfl,?_⟩) hHeld ?_ ?_
 rotate_left
 ·rintro w' ⟨s0,s1,s2,s3⟩
  go_simp
  with_reducible rfl
 rotate_left
 ·exact qq_2
 refine Qgg (i:=3) (N:=some 8) (v:=?_) (a':=?_) #[true,true,true,true,false,true,false,true,false,false,false,false,false] rfl rfl (Qhu HT_.out HW_.out qq_6) (fun _ _ _ h=>h) (Or.inl ⟨by rfl,?_⟩) hHeld ?_ ?_
 rotate_left
 ·rintro w' ⟨s0,s1,s2,s3⟩
  go_simp
  with_reducible rfl
 rotate_left
 ·exact qq_2
 refine Qgg (i:=6) (N:=some 11) (v:=?_) (a':=?_) #[true,true,true,true,false,true,true,true,false,false,false,false,false] rfl rfl (Qhu HT_.out HW_.out qq_6) (fun _ _ _ h=>h) (Or.inl ⟨by rfl,?_⟩) hHeld ?_ ?_
 rotate_left
 ·rintro w' ⟨s0,s1,s2,s3⟩
  go_simp
  with_reducible rfl
 rotate_left
 ·exact qq_2
 refine Qgg (i:=8) (N:=some 13) (v:=?_) (a':=?_) #[true,true,true,true,false,true,true,true,true,false,false,false,false] rfl rfl (Qhu HT_.out HW_.out qq_6) (fun _ _ _ h=>h) (Or.inl ⟨by rfl,?_⟩) hHeld ?_ ?_
 rotate_left
 ·rintro w' ⟨s0,s1,s2,s3⟩
  go_simp
  with_reducible rfl
 rotate_left
 ·exact qq_2
 refine one_ (i:=4) (N:=some 9) #[true,true,true,true,true,true,true,true,true,false,false,false,false] rfl rfl (Qho HT_.out qq_6) (by decide) (fun K hK=>?_)
 refine Qgo Tryz.func166 qq_6 rfl #[.int .u64 a0_0,.int .u64 a1_0] (by rfl) rfl rfl qq_1 ?_
 with_reducible refine(Qag.calls a0_0 a1_0 t215 _ A3.out).mono ?_
 rintro e w' ⟨rfl,⟨nd,rfl⟩⟩
 refine⟨_,rfl,?_⟩
 refine hK.out _ _ ⟨(Qds BK213.out 0).trans rfl,(Qds BK213.out 1).trans rfl,(Qds BK214.out 0).trans rfl,(Qds BK214.out 1).trans rfl⟩ (fun hHeld=>?_)
 clear hK K
 refine Qgm (a':=?_) ?_ ?_
 rotate_left
 ·show Act.put _ (some 9) _=_
  simp only[Act.put,List.setIfInBounds_toArray,List.set_cons_zero,List.set_cons_succ,Qgr,Qgs]
  rfl
 refine one_ (i:=9) (N:=some 14) #[true,true,true,true,true,true,true,true,true,true,false,false,false] rfl rfl (Qho HT_.out qq_6) (by decide) (fun K hK=>?_)
 refine Qgo Tryz.func167 qq_6 rfl #[.int .u32 a0_1,.int .u32 a1_1] (by rfl) rfl rfl qq_1 ?_
 with_reducible refine(Qaf.calls a0_1 a1_1 t216 _ A4.out).mono ?_
 rintro e w' ⟨rfl,⟨nd,rfl⟩⟩
 refine⟨_,rfl,?_⟩
 refine hK.out _ _ ⟨(Qds BK213.out 0).trans rfl,(Qds BK213.out 1).trans rfl,(Qds BK214.out 0).trans rfl,(Qds BK214.out 1).trans rfl⟩ (fun hHeld=>?_)
 clear hK K
 refine Qgm (a':=?_) ?_ ?_
 rotate_left
 ·show Act.put _ (some 14) _=_
  simp only[Act.put,List.setIfInBounds_toArray,List.set_cons_zero,List.set_cons_succ,Qgr,Qgs]
  rfl
 refine one_ (i:=10) (N:=some 15) #[true,true,true,true,true,true,true,true,true,true,true,false,false] rfl rfl (Qho HT_.out qq_6) (by decide) (fun K hK=>?_)
 refine Kd.R_lit_step (Kd.int .i64) _ 3 ?hg (N:=15) ?hd (xs:=([t215,t216]:List Int)) (inner:=[.int .i64 t215,.int .i64 t216]) (ok:=fun _=>True) (okp:=fun _=>True) ?hr ?hp (fun _ hk=>hk) trivial (Below.refl _ _) (Nat.le_refl _) (by simp) ?_;(case hd=>rfl);(case hg=>rfl);(case hr=>exact qq_11);(case hp=>exact(Reps.one (show Kd.M (Kd.int .i64) _ _ _ t215 [.int .i64 t215] from rfl) (Reps.one (show Kd.M (Kd.int .i64) _ _ _ t216 [.int .i64 t216] from rfl) (Reps.none _ _))))
 intro v218 w9 ho10 hb hg_ hnew_
 clear hg_ hnew_
 (first|rw[← Ny217.out]at ho10 |(simp only[Int.reduceToNat]at ho10;rw[← Ny217.out]at ho10))
 have n0_:=QA (Kd.R_lower ho10 (Qfg qq_b))
 have n1_:=QA (Qeh (g:=gb213) (o:=.cells #[.int .u64 a0_0,.int .u32 a0_1] 117 (0,0)) qq_0 hb)
 have n2_:=QA (Qeh (g:=gb214) (o:=.cells #[.int .u64 a1_0,.int .u32 a1_1] 117 (0,0)) qq_0 hb)
 have n3_:=QA (Qfh qq_b hb)
 clear BK213 BK214 HB
 have HO219:=n0_
 have BK213:=n1_
 have BK214:=n2_
 have HB:=n3_
 clear n0_ n1_ n2_ n3_ hb ho10
 obtain⟨Ao11,co11,eo11⟩:=Kd.R_slice HO219.out
 (first|subst eo11 |(injection eo11 with f1_ f2_ f3_;have f4_:=f1_.symm;have f5_:=f3_.symm;clear f1_ f2_ f3_;subst f4_;subst f5_))
 refine hK.out _ _ ⟨(Qds BK213.out 0).trans rfl,(Qds BK213.out 1).trans rfl,(Qds BK214.out 0).trans rfl,(Qds BK214.out 1).trans rfl⟩ (fun hHeld=>?_)
 clear hK K
 refine Qgm (a':=?_) ?_ ?_
 rotate_left
 ·show Act.put _ (some 15) _=_
  simp only[Act.put,List.setIfInBounds_toArray,List.set_cons_zero,List.set_cons_succ,Qgr,Qgs]
  rfl
 refine one_ (i:=11) (N:=some 16) #[true,true,true,true,true,true,true,true,true,true,true,true,false] rfl rfl (Qho HT_.out qq_6) (by decide) (fun K hK=>?_)
 refine Qgo Tryz.func165 qq_6 rfl #[.slice Ao11 y217.length co11] (by rfl) rfl rfl qq_1 ?_
 with_reducible refine(Qai.calls k _ _ y217 t220 _ ?side1 ?side2 A5.out).mono ?_
 (case side1=>repeat(first|exact(Kd.R_reads' HO219.out).2.2 |(with_reducible refine Kd.C_alloc ?_ _) |(with_reducible refine Kd.C_drewN ?_ _) |(with_reducible refine Kd.C_drew ?_)))
 (case side2=>exact(Kd.R_reads' HO219.out).2.1)
 rintro e w' ⟨rfl,⟨nd,rfl⟩⟩
 refine⟨_,rfl,?_⟩
 refine hK.out _ _ ⟨(Qds BK213.out 0).trans rfl,(Qds BK213.out 1).trans rfl,(Qds BK214.out 0).trans rfl,(Qds BK214.out 1).trans rfl⟩ (fun hHeld=>?_)
 clear hK K
 refine Qgm (a':=?_) ?_ ?_
 rotate_left
 ·show Act.put _ (some 16) _=_
  simp only[Act.put,List.setIfInBounds_toArray,List.set_cons_zero,List.set_cons_succ,Qgr,Qgs]
  rfl
 refine Qgh (i:=12) (N:=some 4) (v:=?_) (a':=?_) #[true,true,true,true,true,true,true,true,true,true,true,true,true] rfl rfl (Qhn HT_.out qq_6) (fun _ _ _ h=>h) (Or.inl ⟨by rfl,?_⟩) ?_ ?_
 rotate_left
 ·intro w'
  go_simp
  with_reducible rfl
 rotate_left
 ·exact qq_2
 refine Qgj (Qhq HT_.out qq_6) ?_
 try go_wp2
 go_ret
 exact⟨by first|rfl |(simp[Qis,Qit]<;>rfl) |(simp[*,Qis,Qit]<;>rfl),qq_b⟩
end Go.Proofs.YtnnofopfbeklbaaGreat.C
end
