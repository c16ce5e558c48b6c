/- Merged texts. -/
import Derived.Test.YtnnofopfbeklbaaGreatMJ01
set_option linter.unusedVariables false
set_option linter.unusedSimpArgs false
set_option maxHeartbeats 8000000
set_option maxRecDepth 100000
section
namespace Go.Proofs.YtnnofopfbeklbaaGreat.C
open Go.RowKit Go.Proofs.YtnnofopfbeklbaaGreatW.PrintWords Go.Proofs.YtnnofopfbeklbaaGreatW.PrintLast Go.Proofs.YtnnofopfbeklbaaGreatW.PrintMore
attribute [local go_sem] Qjk Qjl Qjm Qjn Qjo Qjp Qjq Qjr
def Qdo.l0:Nat→List Int→Int→Int→Int→Option (Int)
 | 0,_,_,_,_=>none
 | k+1,x0,x5,x7,x8=>if x8<x7 then(if 0≤x8 then(if x8<(x0.length:Int)then(if 0≤(wrap64 (8*x8))then(Qdo.l0 k x0 (Go.bits .or .u64 x5 (shl .u64 (IntKind.u64.wrap (rd x0 x8)) (wrap64 (8*x8)))) x7 (wrap64 (x8+1)))else(none))else(none))else(none))else(some x5)
def Qdo.f(k:Nat)(l0:List Int)(a1:Int):Option (Int):=Qdo.l0 k l0 0 a1 0
theorem Qdo.calls(k:Nat)(A0:Option Addr)(c0:Nat)(l0:List Int)(a1:Int)(r:Int)(w:World)(hr0:Kd.C (Kd.int .u8) w A0 l0.length l0)(hc0:l0.length≤c0)(h:Qdo.f k l0 a1=some r) :
  Calls Tryz.prog 200 #[.slice A0 l0.length c0,.int .i64 a1] w fun e w'=>e=.returned (.int .u64 r)∧Drawn0 w w':=by
 have o:=QA hr0;have z:=QA hc0;clear hr0 hc0;have H:(Qdo.l0 k l0 0 a1 0)=some r:=h;clear h;have H':=QA H;clear H
 go_enter Tryz.func200,Tryz.ntmps200
 go_wp2
 go_loopg [5,8] k (fun kq v5 v8 w'=>∃(x5_1:Int) (x8_1:Int),v5=.int .u64 x5_1∧v8=.int .i64 x8_1∧Aside0 (Qdo.l0 kq l0 x5_1 a1 x8_1=some r)∧Aside0 (kq≤k)∧Drawn0 w w')
 case atStart=>exact⟨(0),(0),qq_8,qq_8,H',⟨Nat.le_refl _⟩,by repeat(first|exact Drawn0.refl _|apply Drawn0.step)⟩
 case round =>
  clear H';obtain⟨x5_1,x8_1,rfl,rfl,HA,HK1,⟨m1,rfl⟩⟩:=hrel
  cases gk with
  | zero=>exact absurd HA.out (by simp[Qdo.l0])
  | succ k1 =>
   have H:=HA.out;clear HA;simp only[Qdo.l0]at H
   by_cases c3:x8_1<a1
   ·rw [if_pos c3]at H;have l:decide (x8_1<a1)=true:=decide_eq_true c3;clear c3
    by_cases c4:0≤x8_1
    ·rw[if_pos c4]at H;have u:decide (0≤x8_1)=true:=decide_eq_true c4;clear c4
     by_cases c5:x8_1<(l0.length:Int)
     ·rw[if_pos c5]at H;have v:decide (x8_1<(l0.length:Int))=true:=decide_eq_true c5;clear c5;obtain⟨a,c⟩:∃j_:Int,(wrap64 (8*x8_1))=j_:=⟨_,rfl⟩;replace H:(if 0≤(a)then(Qdo.l0 k1 l0 (Go.bits .or .u64 x5_1 (shl .u64 (IntKind.u64.wrap (rd l0 x8_1)) (a))) a1 (wrap64 (x8_1+1)))else(none))=some r:=by first |(rw[c]at H;exact H) |(simp only[c]at H ⊢;exact H)
      have p:(IntKind.i64.wrap (8*x8_1))=a:=(Qhv _).trans c
      by_cases c7:0≤(a)
      ·rw[if_pos c7]at H;have x:=eq_true c7;have y:decide (0≤(a))=true:=decide_eq_true c7;clear c7;obtain⟨j,b⟩:∃j_:Int,(shl .u64 (IntKind.u64.wrap (rd l0 x8_1)) (a))=j_:=⟨_,rfl⟩;replace H:(Qdo.l0 k1 l0 (Go.bits .or .u64 x5_1 (j)) a1 (wrap64 (x8_1+1)))=some r:=by first |(rw[b]at H;exact H) |(simp only[b]at H ⊢;exact H)
       have q:(IntKind.u64.wrap ((IntKind.u64.wrap (rd l0 x8_1))*2^min (a).toNat 64))=j:=b;have s:(a)≤64→(IntKind.u64.wrap ((IntKind.u64.wrap (rd l0 x8_1))*2^(a).toNat))=j:=Qju b;have H':=QA H;clear H;have d:0≤(x8_1:Int):=of_decide_eq_true qq_6;have g:x8_1<(l0.length:Int):=of_decide_eq_true qq_6;obtain⟨t,m,n⟩:=Kd.at_int o.out x8_1 d g
       cases m
       replace d:=eq_true d;replace g:=eq_true g;go_wp2
       go_roundg k1
       case measure=>have:=HK1.out;omega
       case rel=>exact⟨(Go.bits .or .u64 x5_1 (j)),(wrap64 (x8_1+1)),(by first|rfl |(simp;done) |(simp only[← b]<;>(first|rfl|simp)) |(simp[*];done)),qq_8,H',⟨by have:=HK1.out;omega⟩,by repeat(first|exact Drawn0.refl _|apply Drawn0.step)⟩
      ·rw[if_neg c7]at H;exact absurd H (by simp)
     ·rw[if_neg c5]at H;exact absurd H (by simp)
    ·rw[if_neg c4]at H;exact absurd H (by simp)
   ·rw[if_neg c3]at H;have l:decide (x8_1<a1)=false:=decide_eq_false c3;clear c3;obtain rfl:=Option.some.inj H;go_wp2;go_ret
    exact⟨by first|rfl |(simp;done) |(simp[*];done),by repeat(first|exact Drawn0.refl _|apply Drawn0.step)⟩
def Qav.l0:Nat→ByteArray→Int→Int→Option (Int)
 | 0,_,_,_=>none
 | k+1,x0,x3,x4=>if x4≥0 then(if 0≤x4 then(if x4<(x0.size:Int)then(Qav.l0 k x0 (IntKind.u64.wrap ((IntKind.u64.wrap (x3*256))+(IntKind.u64.wrap (bt x0 x4)))) (wrap64 (x4-1)))else(none))else(none))else(some x3)
def Qav.f(k:Nat)(a0:ByteArray):Option (Int):=Qav.l0 k a0 0 (wrap64 ((a0.size:Int)-1))
theorem Qav.mono_l:∀k,(∀y0 y1 y2,LeO (Qav.l0 k y0 y1 y2) (Qav.l0 (k+1) y0 y1 y2))
 | 0=>fun _ _ _ r h=>by simp[Qav.l0]at h
 | k+1=>by
  have ih0:=Qav.mono_l k
  ·intro y0 y1 y2;unfold Qav.l0
   repeat' first
   |(with_reducible exact ih0 _ _ _)
   |(with_reducible exact LeO.refl _)
   |(with_reducible exact LeO.none _)
   |(with_reducible refine LeO.ite ?_ ?_)
   |(with_reducible refine LeO.bind ?_ (fun _=>?_))
   | exact ih0 _ _ _
   | exact LeO.none _
   | refine LeO.ite ?_ ?_
   | refine LeO.bind ?_ (fun _=>?_)
theorem Qav.mono:∀a0 k,LeO (Qav.f k a0) (Qav.f (k+1) a0):=by
 intro a0 k;have ih0:=Qav.mono_l k;unfold Qav.f
 repeat' first
   |(with_reducible exact ih0 _ _ _)
   |(with_reducible exact LeO.refl _)
   |(with_reducible exact LeO.none _)
   |(with_reducible refine LeO.ite ?_ ?_)
   |(with_reducible refine LeO.bind ?_ (fun _=>?_))
   | exact ih0 _ _ _
   | exact LeO.none _
   | refine LeO.ite ?_ ?_
   | refine LeO.bind ?_ (fun _=>?_)
theorem Qav.calls(k:Nat)(a0:ByteArray)(r:Int)(w:World)(h:Qav.f k a0=some r) :
  Calls Tryz.prog 107 #[.string a0] w fun e w'=>e=.returned (.int .u64 r)∧Drawn0 w w':=by
 have H:(Qav.l0 k a0 0 (wrap64 ((a0.size:Int)-1)))=some r:=h;clear h;have H':=QA H;clear H
 go_enter Tryz.func107,Tryz.ntmps107
 go_wp2
 go_loopg [3,4] k (fun kq v3 v4 w'=>∃(b:Int) (a:Int),v3=.int .u64 b∧v4=.int .i64 a∧Aside0 (Qav.l0 kq a0 b a=some r)∧Aside0 (kq≤k)∧Drawn0 w w')
 case atStart=>exact⟨(0),(wrap64 ((a0.size:Int)-1)),qq_8,qq_8,H',⟨Nat.le_refl _⟩,by repeat(first|exact Drawn0.refl _|apply Drawn0.step)⟩
 case round =>
  clear H';obtain⟨b,a,rfl,rfl,HA,HK1,⟨m1,rfl⟩⟩:=hrel
  cases gk with
  | zero=>exact absurd HA.out (by simp[Qav.l0])
  | succ k1 =>
   have H:=HA.out;clear HA;simp only[Qav.l0]at H
   by_cases c2:a≥0
   ·rw[if_pos c2]at H;have c:decide (0≤a)=true:=decide_eq_true c2;clear c2
    by_cases c3:0≤a
    ·rw[if_pos c3]at H;have d:decide (0≤a)=true:=decide_eq_true c3;clear c3
     by_cases c4:a<(a0.size:Int)
     ·rw[if_pos c4]at H;have g:decide (a<(a0.size:Int))=true:=decide_eq_true c4;clear c4;have H':=QA H;clear H;have p5:0≤(a:Int):=of_decide_eq_true qq_6;have q5:a<(a0.size:Int):=of_decide_eq_true qq_6;have j:=Qdp a0 a;replace p5:=eq_true p5;replace q5:=eq_true q5;go_wp2
      go_roundg k1
      case measure=>have:=HK1.out;omega
      case rel=>exact⟨(IntKind.u64.wrap ((IntKind.u64.wrap (b*256))+(IntKind.u64.wrap (bt a0 a)))),(wrap64 (a-1)),qq_8,qq_8,H',⟨by have:=HK1.out;omega⟩,by repeat(first|exact Drawn0.refl _|apply Drawn0.step)⟩
     ·rw[if_neg c4]at H;exact absurd H (by simp)
    ·rw[if_neg c3]at H;exact absurd H (by simp)
   ·rw[if_neg c2]at H;have c:decide (0≤a)=false:=decide_eq_false c2;clear c2;obtain rfl:=Option.some.inj H;go_wp2;go_ret
    exact⟨by first|rfl |(simp;done) |(simp[*];done),by repeat(first|exact Drawn0.refl _|apply Drawn0.step)⟩
def Qbg.l0:Nat→Int→Int→Int→Option (Int)
 | 0,_,_,_=>none
 | k+1,x0,x6,x7=>if x7<x6 then(Qbg.l0 k (IntKind.u64.wrap ((IntKind.u64.wrap (2*x0))+(IntKind.u64.wrap (Int.tdiv x0 9223372036854775808)))) x6 (wrap64 (x7+1)))else(some x0)
def Qbg.f(k:Nat)(a0:Int)(a1:Int):Option (Int):=Qbg.l0 k a0 a1 0
theorem Qbg.mono_l:∀k,(∀y0 y1 y2,LeO (Qbg.l0 k y0 y1 y2) (Qbg.l0 (k+1) y0 y1 y2))
 | 0=>fun _ _ _ r h=>by simp[Qbg.l0]at h
 | k+1=>by
  have ih0:=Qbg.mono_l k
  ·intro y0 y1 y2;unfold Qbg.l0
   repeat' first
   |(with_reducible exact ih0 _ _ _)
   |(with_reducible exact LeO.refl _)
   |(with_reducible exact LeO.none _)
   |(with_reducible refine LeO.ite ?_ ?_)
   |(with_reducible refine LeO.bind ?_ (fun _=>?_))
   | exact ih0 _ _ _
   | exact LeO.none _
   | refine LeO.ite ?_ ?_
   | refine LeO.bind ?_ (fun _=>?_)
theorem Qbg.mono:∀a0 a1 k,LeO (Qbg.f k a0 a1) (Qbg.f (k+1) a0 a1):=by
 intro a0 a1 k;have ih0:=Qbg.mono_l k;unfold Qbg.f
 repeat' first
   |(with_reducible exact ih0 _ _ _)
   |(with_reducible exact LeO.refl _)
   |(with_reducible exact LeO.none _)
   |(with_reducible refine LeO.ite ?_ ?_)
   |(with_reducible refine LeO.bind ?_ (fun _=>?_))
   | exact ih0 _ _ _
   | exact LeO.none _
   | refine LeO.ite ?_ ?_
   | refine LeO.bind ?_ (fun _=>?_)
theorem Qbg.calls(k:Nat)(a0:Int)(a1:Int)(r:Int)(w:World)(h:Qbg.f k a0 a1=some r) :
  Calls Tryz.prog 108 #[.int .u64 a0,.int .i64 a1] w fun e w'=>e=.returned (.int .u64 r)∧Drawn0 w w':=by
 have H:(Qbg.l0 k a0 a1 0)=some r:=h;clear h;have H':=QA H;clear H
 go_enter Tryz.func108,Tryz.ntmps108
 go_wp2
 go_loopg [0,7] k (fun kq v0 v7 w'=>∃(b:Int) (a:Int),v0=.int .u64 b∧v7=.int .i64 a∧Aside0 (Qbg.l0 kq b a1 a=some r)∧Aside0 (kq≤k)∧Drawn0 w w')
 case atStart=>exact⟨(a0),(0),qq_8,qq_8,H',⟨Nat.le_refl _⟩,by repeat(first|exact Drawn0.refl _|apply Drawn0.step)⟩
 case round =>
  clear H';obtain⟨b,a,rfl,rfl,HA,HK1,⟨m1,rfl⟩⟩:=hrel
  cases gk with
  | zero=>exact absurd HA.out (by simp[Qbg.l0])
  | succ k1 =>
   have H:=HA.out;clear HA;simp only[Qbg.l0]at H
   by_cases c3:a<a1
   ·rw[if_pos c3]at H;have c:decide (a<a1)=true:=decide_eq_true c3;clear c3;have H':=QA H;clear H;go_wp2
    go_roundg k1
    case measure=>have:=HK1.out;omega
    case rel=>exact⟨(IntKind.u64.wrap ((IntKind.u64.wrap (2*b))+(IntKind.u64.wrap (Int.tdiv b 9223372036854775808)))),(wrap64 (a+1)),qq_8,qq_8,H',⟨by have:=HK1.out;omega⟩,by repeat(first|exact Drawn0.refl _|apply Drawn0.step)⟩
   ·rw[if_neg c3]at H;have c:decide (a<a1)=false:=decide_eq_false c3;clear c3;obtain rfl:=Option.some.inj H;go_wp2;go_ret
    exact⟨by first|rfl |(simp;done) |(simp[*];done),by repeat(first|exact Drawn0.refl _|apply Drawn0.step)⟩
def Qbe.f(k:Nat)(a0:Int)(a1:Int):Option (Int):=(Qbg.f k (IntKind.u64.wrap (a0+(IntKind.u64.wrap (a1*14029467366897019727)))) 31).bind fun t271=>(some (IntKind.u64.wrap (t271*11400714785074694791)))
theorem Qbe.mono:∀a0 a1 k,LeO (Qbe.f k a0 a1) (Qbe.f (k+1) a0 a1):=by
 intro a0 a1 k;unfold Qbe.f
 repeat' first
   |(with_reducible exact Qbg.mono _ _ _)
   |(with_reducible exact LeO.refl _)
   |(with_reducible exact LeO.none _)
   |(with_reducible refine LeO.ite ?_ ?_)
   |(with_reducible refine LeO.bind ?_ (fun _=>?_))
   | exact Qbg.mono _ _ _
   | exact LeO.none _
   | refine LeO.ite ?_ ?_
   | refine LeO.bind ?_ (fun _=>?_)
theorem Qbe.calls(k:Nat)(a0:Int)(a1:Int)(r:Int)(w:World)(h:Qbe.f k a0 a1=some r) :
  Calls Tryz.prog 106 #[.int .u64 a0,.int .u64 a1] w fun e w'=>e=.returned (.int .u64 r)∧Drawn0 w w':=by
 have H:((Qbg.f k (IntKind.u64.wrap (a0+(IntKind.u64.wrap (a1*14029467366897019727)))) 31).bind fun t271=>(some (IntKind.u64.wrap (t271*11400714785074694791))))=some r:=h;clear h;replace H:=Option.bind_eq_some_iff.mp H;obtain⟨t271,A30,H⟩:=H;replace H:(some (IntKind.u64.wrap (t271*11400714785074694791)))=some r:=H;have A3:=QA A30;clear A30;obtain rfl:=Option.some.inj H
 go_enter Tryz.func106,Tryz.ntmps106
 go_wp2_with (first |((with_reducible refine Qjs (f:=108) rfl ?_);refine Qhs (some 9) rfl rfl Tryz.func108 qq_7 rfl #[.int .u64 (IntKind.u64.wrap (a0+(IntKind.u64.wrap (a1*14029467366897019727)))),.int .i64 31] rfl qq_1 ?_;(with_reducible refine(Qbg.calls k (IntKind.u64.wrap (a0+(IntKind.u64.wrap (a1*14029467366897019727)))) 31 t271 _ A3.out).mono ?_);rintro e w' ⟨rfl,⟨nd,rfl⟩⟩;refine⟨_,rfl,?_⟩))
 go_ret
 exact⟨by first|rfl |(simp;done) |(simp[*];done),by repeat(first|exact Drawn0.refl _|apply Drawn0.step)⟩
def Qbf.l0:Nat→Int→Int→Int→Int→Option (Int)
 | 0,_,_,_,_=>none
 | k+1,x0,x5,x7,x8=>if x8<x7 then(Qbf.l0 k x0 (IntKind.u64.wrap (Int.tdiv x5 2)) x7 (wrap64 (x8+1)))else(some (Go.bits .xor .u64 x0 x5))
def Qbf.f(k:Nat)(a0:Int)(a1:Int):Option (Int):=Qbf.l0 k a0 a0 a1 0
theorem Qbf.mono_l:∀k,(∀y0 y1 y2 y3,LeO (Qbf.l0 k y0 y1 y2 y3) (Qbf.l0 (k+1) y0 y1 y2 y3))
 | 0=>fun _ _ _ _ r h=>by simp[Qbf.l0]at h
 | k+1=>by
  have ih0:=Qbf.mono_l k
  ·intro y0 y1 y2 y3;unfold Qbf.l0
   repeat' first
   |(with_reducible exact ih0 _ _ _ _)
   |(with_reducible exact LeO.refl _)
   |(with_reducible exact LeO.none _)
   |(with_reducible refine LeO.ite ?_ ?_)
   |(with_reducible refine LeO.bind ?_ (fun _=>?_))
   | exact ih0 _ _ _ _
   | exact LeO.none _
   | refine LeO.ite ?_ ?_
   | refine LeO.bind ?_ (fun _=>?_)
theorem Qbf.mono:∀a0 a1 k,LeO (Qbf.f k a0 a1) (Qbf.f (k+1) a0 a1):=by
 intro a0 a1 k;have ih0:=Qbf.mono_l k;unfold Qbf.f
 repeat' first
   |(with_reducible exact ih0 _ _ _ _)
   |(with_reducible exact LeO.refl _)
   |(with_reducible exact LeO.none _)
   |(with_reducible refine LeO.ite ?_ ?_)
   |(with_reducible refine LeO.bind ?_ (fun _=>?_))
   | exact ih0 _ _ _ _
   | exact LeO.none _
   | refine LeO.ite ?_ ?_
   | refine LeO.bind ?_ (fun _=>?_)
theorem Qbf.calls(k:Nat)(a0:Int)(a1:Int)(r:Int)(w:World)(h:Qbf.f k a0 a1=some r) :
  Calls Tryz.prog 109 #[.int .u64 a0,.int .i64 a1] w fun e w'=>e=.returned (.int .u64 r)∧Drawn0 w w':=by
 have H:(Qbf.l0 k a0 a0 a1 0)=some r:=h;clear h;have H':=QA H;clear H
 go_enter Tryz.func109,Tryz.ntmps109
 go_wp2
 go_loopg [5,8] k (fun kq v5 v8 w'=>∃(x5_1:Int) (x8_1:Int),v5=.int .u64 x5_1∧v8=.int .i64 x8_1∧Aside0 (Qbf.l0 kq a0 x5_1 a1 x8_1=some r)∧Aside0 (kq≤k)∧Drawn0 w w')
 case atStart=>exact⟨(a0),(0),qq_8,qq_8,H',⟨Nat.le_refl _⟩,by repeat(first|exact Drawn0.refl _|apply Drawn0.step)⟩
 case round =>
  clear H';obtain⟨x5_1,x8_1,rfl,rfl,HA,HK1,⟨m1,rfl⟩⟩:=hrel
  cases gk with
  | zero=>exact absurd HA.out (by simp[Qbf.l0])
  | succ k1 =>
   have H:=HA.out;clear HA;simp only[Qbf.l0]at H
   by_cases c3:x8_1<a1
   ·rw[if_pos c3]at H;have a:decide (x8_1<a1)=true:=decide_eq_true c3;clear c3;have H':=QA H;clear H;go_wp2
    go_roundg k1
    case measure=>have:=HK1.out;omega
    case rel=>exact⟨(IntKind.u64.wrap (Int.tdiv x5_1 2)),(wrap64 (x8_1+1)),qq_8,qq_8,H',⟨by have:=HK1.out;omega⟩,by repeat(first|exact Drawn0.refl _|apply Drawn0.step)⟩
   ·rw[if_neg c3]at H;have a:decide (x8_1<a1)=false:=decide_eq_false c3;clear c3;obtain rfl:=Option.some.inj H;go_wp2;go_ret
    exact⟨by first|rfl |(simp;done) |(simp[*];done),by repeat(first|exact Drawn0.refl _|apply Drawn0.step)⟩
def Qao.f(a0:Int)(a1:Int):Option (Int):=if a0=0 then(some 4)else(if a0 > 4096 then(some 3)else(if a1 > 1048576 then(some 3)else(some 0)))
theorem Qao.calls(a0:Int)(a1:Int)(r:Int)(w:World)(h:Qao.f a0 a1=some r) :
  Calls Tryz.prog 192 #[.int .u64 a0,.int .u64 a1] w fun e w'=>e=.returned (.int .i64 r)∧Drawn0 w w':=by
 have H:(if a0=0 then(some 4)else(if a0 > 4096 then(some 3)else(if a1 > 1048576 then(some 3)else(some 0))))=some r:=h;clear h
 by_cases c3:a0=0
 ·rw[if_pos c3]at H;have a:(a0 == 0)=true:=beq_iff_eq.mpr c3;have b:(a0 != 0)=false:=bne_eq_false_iff_eq.mpr c3;clear c3;obtain rfl:=Option.some.inj H
  go_enter Tryz.func192,Tryz.ntmps192
  go_wp2;go_ret
  exact⟨by first|rfl |(simp;done) |(simp[*];done),by repeat(first|exact Drawn0.refl _|apply Drawn0.step)⟩
 ·rw[if_neg c3]at H;have a:(a0 == 0)=false:=beq_eq_false_iff_ne.mpr c3;have b:(a0 != 0)=true:=bne_iff_ne.mpr c3
  by_cases c4:a0 > 4096
  ·rw[if_pos c4]at H;have c:decide (4096<a0)=true:=decide_eq_true c4;clear c4;obtain rfl:=Option.some.inj H
   go_enter Tryz.func192,Tryz.ntmps192
   go_wp2;go_ret
   exact⟨by first|rfl |(simp;done) |(simp[*];done),by repeat(first|exact Drawn0.refl _|apply Drawn0.step)⟩
  ·rw[if_neg c4]at H;have c:decide (4096<a0)=false:=decide_eq_false c4;clear c4
   by_cases c5:a1 > 1048576
   ·rw[if_pos c5]at H;have d:decide (1048576<a1)=true:=decide_eq_true c5;clear c5;obtain rfl:=Option.some.inj H
    go_enter Tryz.func192,Tryz.ntmps192
    go_wp2;go_ret
    exact⟨by first|rfl |(simp;done) |(simp[*];done),by repeat(first|exact Drawn0.refl _|apply Drawn0.step)⟩
   ·rw[if_neg c5]at H;have d:decide (1048576<a1)=false:=decide_eq_false c5;clear c5;obtain rfl:=Option.some.inj H
    go_enter Tryz.func192,Tryz.ntmps192
    go_wp2;go_ret
    exact⟨by first|rfl |(simp;done) |(simp[*];done),by repeat(first|exact Drawn0.refl _|apply Drawn0.step)⟩
def Qac.f(a0:Int)(a1:Int):Option (Int):=if 0≤(Go.bits .and .u64 (IntKind.u64.wrap (a1)) 31)then(if 0≤(IntKind.u64.wrap (32-(Go.bits .and .u64 (IntKind.u64.wrap (a1)) 31)))then(some (Go.bits .or .u32 (shl .u32 a0 (Go.bits .and .u64 (IntKind.u64.wrap (a1)) 31)) (shr .u32 a0 (IntKind.u64.wrap (32-(Go.bits .and .u64 (IntKind.u64.wrap (a1)) 31))))))else(none))else(none)
theorem Qac.calls(a0:Int)(a1:Int)(r:Int)(w:World)(h:Qac.f a0 a1=some r) :
  Calls Tryz.prog 234 #[.int .u32 a0,.int .i64 a1] w fun e w'=>e=.returned (.int .u32 r)∧Drawn0 w w':=by
 have H:(if 0≤(Go.bits .and .u64 (IntKind.u64.wrap (a1)) 31)then(if 0≤(IntKind.u64.wrap (32-(Go.bits .and .u64 (IntKind.u64.wrap (a1)) 31)))then(some (Go.bits .or .u32 (shl .u32 a0 (Go.bits .and .u64 (IntKind.u64.wrap (a1)) 31)) (shr .u32 a0 (IntKind.u64.wrap (32-(Go.bits .and .u64 (IntKind.u64.wrap (a1)) 31))))))else(none))else(none))=some r:=h;clear h;obtain⟨a,j⟩:∃j_:Int,(Go.bits .and .u64 (IntKind.u64.wrap (a1)) 31)=j_:=⟨_,rfl⟩;replace H:(if 0≤(a)then(if 0≤(IntKind.u64.wrap (32-(a)))then(some (Go.bits .or .u32 (shl .u32 a0 (a)) (shr .u32 a0 (IntKind.u64.wrap (32-(a))))))else(none))else(none))=some r:=by first |(rw[j]at H;exact H) |(simp only[j]at H ⊢;exact H)
 by_cases c4:0≤(a)
 ·rw[if_pos c4]at H;have q:=eq_true c4;have s:decide (0≤(a))=true:=decide_eq_true c4;clear c4;obtain⟨g,c⟩:∃j_:Int,(shl .u32 a0 (a))=j_:=⟨_,rfl⟩;replace H:(if 0≤(IntKind.u64.wrap (32-(a)))then(some (Go.bits .or .u32 (g) (shr .u32 a0 (IntKind.u64.wrap (32-(a))))))else(none))=some r:=by first |(rw[c]at H;exact H) |(simp only[c]at H ⊢;exact H)
  have m:(IntKind.u32.wrap (a0*2^min (a).toNat 32))=g:=c;have n:(a)≤32→(IntKind.u32.wrap (a0*2^(a).toNat))=g:=Qju c;obtain⟨b,k⟩:∃j_:Int,(IntKind.u64.wrap (32-(a)))=j_:=⟨_,rfl⟩;replace H:(if 0≤(b)then(some (Go.bits .or .u32 (g) (shr .u32 a0 (b))))else(none))=some r:=by first |(rw[k]at H;exact H) |(simp only[k]at H ⊢;exact H)
  by_cases c7:0≤(b)
  ·rw[if_pos c7]at H;have t:=eq_true c7;have u:decide (0≤(b))=true:=decide_eq_true c7;clear c7;obtain⟨l,d⟩:∃j_:Int,(shr .u32 a0 (b))=j_:=⟨_,rfl⟩;replace H:(some (Go.bits .or .u32 (g) (l)))=some r:=by first |(rw[d]at H;exact H) |(simp only[d]at H ⊢;exact H)
   have o:(a0/2^min (b).toNat 32)=l:=d;have p:(b)≤32→(a0/2^(b).toNat)=l:=Qjv d;obtain rfl:=Option.some.inj H
   go_enter Tryz.func234,Tryz.ntmps234
   go_wp2;go_ret
   exact⟨by first|rfl |(simp;done) |(simp only[← j,← c,← k,← d]<;>(first|rfl|simp)) |(simp[*];done),by repeat(first|exact Drawn0.refl _|apply Drawn0.step)⟩
  ·rw[if_neg c7]at H;exact absurd H (by simp)
 ·rw[if_neg c4]at H;exact absurd H (by simp)
def Qdl.f(l0:List Int):Option (Int):=if 0<(l0.length:Int)then(if 1<(l0.length:Int)then(if 2<(l0.length:Int)then(if 3<(l0.length:Int)then(some (Go.bits .or .u32 (Go.bits .or .u32 (Go.bits .or .u32 ((rd l0 0)%4294967296) ((((rd l0 1)%4294967296)*256)%4294967296)) ((((rd l0 2)%4294967296)*65536)%4294967296)) ((((rd l0 3)%4294967296)*16777216)%4294967296)))else(none))else(none))else(none))else(none)
theorem Qdl.calls(A0:Option Addr)(c0:Nat)(l0:List Int)(r:Int)(w:World)(hr0:Kd.C (Kd.int .u8) w A0 l0.length l0)(hc0:l0.length≤c0)(h:Qdl.f l0=some r) :
  Calls Tryz.prog 235 #[.slice A0 l0.length c0] w fun e w'=>e=.returned (.int .u32 r)∧Drawn0 w w':=by
 have s:=QA hr0;have M:=QA hc0;clear hr0 hc0;have H:(if 0<(l0.length:Int)then(if 1<(l0.length:Int)then(if 2<(l0.length:Int)then(if 3<(l0.length:Int)then(some (Go.bits .or .u32 (Go.bits .or .u32 (Go.bits .or .u32 ((rd l0 0)%4294967296) ((((rd l0 1)%4294967296)*256)%4294967296)) ((((rd l0 2)%4294967296)*65536)%4294967296)) ((((rd l0 3)%4294967296)*16777216)%4294967296)))else(none))else(none))else(none))else(none))=some r:=h;clear h
 by_cases c2:0<(l0.length:Int)
 ·rw [if_pos c2]at H;have B:decide (0<(l0.length:Int))=true:=decide_eq_true c2;have D:decide (0<l0.length)=true:=decide_eq_true (by omega);clear c2
  by_cases c3:1<(l0.length:Int)
  ·rw[if_pos c3]at H;have E:decide (1<(l0.length:Int))=true:=decide_eq_true c3;have G:decide (1<l0.length)=true:=decide_eq_true (by omega);clear c3
   by_cases c4:2<(l0.length:Int)
   ·rw[if_pos c4]at H;have I:decide (2<(l0.length:Int))=true:=decide_eq_true c4;have J:decide (2<l0.length)=true:=decide_eq_true (by omega);clear c4
    by_cases c5:3<(l0.length:Int)
    ·rw[if_pos c5]at H;have K:decide (3<(l0.length:Int))=true:=decide_eq_true c5;have L:decide (3<l0.length)=true:=decide_eq_true (by omega);clear c5;obtain rfl:=Option.some.inj H;have j:0≤(0:Int):=(by omega);have k:0<(l0.length:Int):=of_decide_eq_true qq_6;obtain⟨g,x,a⟩:=Kd.at_int s.out 0 j k
     cases x
     have qi713:(0<l0.length)=True:=eq_true (by omega)
     (try rw[show((0:Int)).toNat=0 from rfl]at a)
     (try rw[Addr.add_zero']at a)
     replace j:=eq_true j;replace k:=eq_true k;have l:0≤(1:Int):=(by omega);have m:1<(l0.length:Int):=of_decide_eq_true qq_6;obtain⟨t,y,b⟩:=Kd.at_int s.out 1 l m;obtain rfl:g=t:=(by injection y)
     (try simp only[show(1:Int).toNat=1 from rfl,Nat.reduceMul,Nat.reduceEqDiff,Go.Addr.add,↓reduceIte]at b)
     have qi714:(1<l0.length)=True:=eq_true (by omega)
     (try rw[show((1:Int)).toNat=1 from rfl]at b)
     replace l:=eq_true l;replace m:=eq_true m;have n:0≤(2:Int):=(by omega);have o:2<(l0.length:Int):=of_decide_eq_true qq_6;obtain⟨u,z,c⟩:=Kd.at_int s.out 2 n o;obtain rfl:g=u:=(by injection z)
     (try simp only[show(2:Int).toNat=2 from rfl,Nat.reduceMul,Nat.reduceEqDiff,Go.Addr.add,↓reduceIte]at c)
     have qi715:(2<l0.length)=True:=eq_true (by omega)
     (try rw[show((2:Int)).toNat=2 from rfl]at c)
     replace n:=eq_true n;replace o:=eq_true o;have p:0≤(3:Int):=(by omega);have q:3<(l0.length:Int):=of_decide_eq_true qq_6;obtain⟨v,A,d⟩:=Kd.at_int s.out 3 p q;obtain rfl:g=v:=(by injection A)
     (try simp only[show(3:Int).toNat=3 from rfl,Nat.reduceMul,Nat.reduceEqDiff,Go.Addr.add,↓reduceIte]at d)
     have qi716:(3<l0.length)=True:=eq_true (by omega)
     (try rw[show((3:Int)).toNat=3 from rfl]at d)
     replace p:=eq_true p;replace q:=eq_true q
     go_enter Tryz.func235,Tryz.ntmps235
     go_wp2
     repeat(go_quiet (fail);try go_wp2)
     go_ret
     exact⟨by first|rfl |(simp;done) |(simp[*];done),by repeat(first|exact Drawn0.refl _|apply Drawn0.step)⟩
    ·rw[if_neg c5]at H;exact absurd H (by simp)
   ·rw[if_neg c4]at H;exact absurd H (by simp)
  ·rw[if_neg c3]at H;exact absurd H (by simp)
 ·rw[if_neg c2]at H;exact absurd H (by simp)
def Qdf.j0:Nat→Bool→Bool→Int→ByteArray→ByteArray→Option (Int)
 | 0,_,_,_,_,_=>none
 | k+1,x12,x117000,x117001,x117002,x117003=>if x12=true then(some 4)else(if(x117003.size:Int) > 1048576 then(some 3)else(some 0))
def Qdf.f(k:Nat)(a0_0:Bool)(a0_1:Int)(a0_2:ByteArray)(a0_3:ByteArray):Option (Int):=if a0_2.toList=([]:List UInt8)then(some 4)else(if(a0_2.size:Int) > 4096 then(some 3)else(if a0_0=true then(Qdf.j0 k (a0_3.toList != ([]:List UInt8)) a0_0 a0_1 a0_2 a0_3)else(Qdf.j0 k false a0_0 a0_1 a0_2 a0_3)))
theorem Qdf.mono_l:∀k,(∀y0 y1 y2 y3 y4,LeO (Qdf.j0 k y0 y1 y2 y3 y4) (Qdf.j0 (k+1) y0 y1 y2 y3 y4))
 | 0=>fun _ _ _ _ _ r h=>by simp[Qdf.j0]at h
 | k+1=>by
  have ih0:=Qdf.mono_l k
  ·intro y0 y1 y2 y3 y4;unfold Qdf.j0
   repeat' first
   |(with_reducible exact ih0 _ _ _ _ _)
   |(with_reducible exact LeO.refl _)
   |(with_reducible exact LeO.none _)
   |(with_reducible refine LeO.ite ?_ ?_)
   |(with_reducible refine LeO.bind ?_ (fun _=>?_))
   | exact ih0 _ _ _ _ _
   | exact LeO.none _
   | refine LeO.ite ?_ ?_
   | refine LeO.bind ?_ (fun _=>?_)
theorem Qdf.mono:∀a0 a1 a2 a3 k,LeO (Qdf.f k a0 a1 a2 a3) (Qdf.f (k+1) a0 a1 a2 a3):=by
 intro a0 a1 a2 a3 k;have ih0:=Qdf.mono_l k;unfold Qdf.f
 repeat' first
   |(with_reducible exact ih0 _ _ _ _ _)
   |(with_reducible exact LeO.refl _)
   |(with_reducible exact LeO.none _)
   |(with_reducible refine LeO.ite ?_ ?_)
   |(with_reducible refine LeO.bind ?_ (fun _=>?_))
   | exact ih0 _ _ _ _ _
   | exact LeO.none _
   | refine LeO.ite ?_ ?_
   | refine LeO.bind ?_ (fun _=>?_)
theorem Qdf.calls(k:Nat)(g:Bool)(j:Int)(b:ByteArray)(c:ByteArray)(r:Int)(w:World)(h:Qdf.f k g j b c=some r) :
  Calls Tryz.prog 56 #[.agg #[.bool g,.int .u64 j,.string b,.string c]] w fun e w'=>e=.returned (.int .i64 r)∧Below w.heap.size w w':=by
 have hu39:=Tryz.underlying39;have HB:=QA (Below.refl w.heap.size w);have H:(if b.toList=([]:List UInt8)then(some 4)else(if(b.size:Int) > 4096 then(some 3)else(if g=true then(Qdf.j0 k (c.toList != ([]:List UInt8)) g j b c)else(Qdf.j0 k false g j b c))))=some r:=h;clear h
 by_cases c2:b.toList=([]:List UInt8)
 ·rw[if_pos c2]at H;have I:(b.toList == ([]:List UInt8))=true:=beq_iff_eq.mpr c2;have J:(b.toList != ([]:List UInt8))=false:=bne_eq_false_iff_eq.mpr c2;clear c2;obtain rfl:=Option.some.inj H
  go_enter Tryz.func56,Tryz.ntmps56
  go_wp2_with (first |((with_reducible refine Qgt (N:=1) rfl ?_);refine qq_e 1 #[.bool g,.int .u64 j,.string b,.string c] 39 ?_;intro d hg w3 hbox hb;have n_:=qn4 (Qgi qq_b hb) (hbox) (qq_s hg:w.heap.size≤d) (qq_s hg:w.heap.size≤d);clear HB;obtain⟨HB,a,o,p⟩:=n_;clear hb hbox hg;obtain⟨K,L,M,O⟩:=qc4 a.out;have af:=Qep a.out))
  go_ret
  exact⟨by first|rfl |(simp[Qjz,Qka]<;>rfl) |(simp[*,Qjz,Qka]<;>rfl),qq_b⟩
 ·rw [if_neg c2]at H;have I:(b.toList == ([]:List UInt8))=false:=beq_eq_false_iff_ne.mpr c2;have J:(b.toList != ([]:List UInt8))=true:=bne_iff_ne.mpr c2
  by_cases c5:(b.size:Int) > 4096
  ·rw[if_pos c5]at H;have P:decide (4096<(b.size:Int))=true:=decide_eq_true c5;have T:decide (4096<b.size)=true:=decide_eq_true (by omega);clear c5;obtain rfl:=Option.some.inj H
   go_enter Tryz.func56,Tryz.ntmps56
   go_wp2_with (first |((with_reducible refine Qgt (N:=1) rfl ?_);refine qq_e 1 #[.bool g,.int .u64 j,.string b,.string c] 39 ?_;intro d hg w6 hbox hb;have n_:=qn4 (Qgi qq_b hb) (hbox) (qq_s hg:w.heap.size≤d) (qq_s hg:w.heap.size≤d);clear HB;obtain⟨HB,a,o,p⟩:=n_;clear hb hbox hg;obtain⟨U,W,X,Y⟩:=qc4 a.out;have ag:=Qep a.out))
   go_ret
   exact⟨by first|rfl |(simp[Qjz,Qka]<;>rfl) |(simp[*,Qjz,Qka]<;>rfl),qq_b⟩
  ·rw [if_neg c5]at H;have P:decide (4096<(b.size:Int))=false:=decide_eq_false c5;have T:decide (4096<b.size)=false:=decide_eq_false (by omega);clear c5;have Z:=QA H;clear H
   go_enter Tryz.func56,Tryz.ntmps56
   go_upto_region 5 with(first |((with_reducible refine Qgt (N:=1) rfl ?_);refine qq_e 1 #[.bool g,.int .u64 j,.string b,.string c] 39 ?_;intro d hg w9 hbox hb;have n_:=qn4 (Qgi qq_b hb) (hbox) (qq_s hg:w.heap.size≤d) (qq_s hg:w.heap.size≤d);clear HB;obtain⟨HB,a,o,p⟩:=n_;clear hb hbox hg;obtain⟨s,t,u,v⟩:=qc4 a.out;have aa:=Qep a.out))
   (try simp only[Act.put,List.setIfInBounds_toArray,List.set_cons_zero,List.set_cons_succ])
   go_cut [12] (fun ap wc=>∃(kq:Nat) (l:Bool),ap=.bool l∧Aside0 (Qdf.j0 kq l g j b c=some r)∧Aside0 (kq≤k)∧Aside0 (wc.heap[d]? = some (.cells #[.bool g,.int .u64 j,.string b,.string c] 39 (0,0)))∧Aside0 (Below w.heap.size w wc))
   case first =>
    have H:=Z.out;clear Z
    by_cases n:g=true
    ·subst n;have H1:(Qdf.j0 k (c.toList != ([]:List UInt8)) true j b c)=some r:=by rw[if_pos rfl]at H;exact H
     clear H;have H:=H1;clear H1;have H':=QA H;clear H;obtain⟨x,y,z,A⟩:=qc4 a.out;have ab:=Qep a.out;go_wp2
     go_meet
     case rel=>exact⟨_,((c.toList != ([]:List UInt8))),(by first|rfl |(simp;done) |(simp[*];done) |(cases c.toList<;>rfl)),H',⟨by first|omega|exact Nat.le_refl _⟩,⟨by(with_reducible repeat(first|apply Qfc|apply Qfb|apply Qfa));exact a.out⟩,⟨qq_b⟩⟩
    ·replace n:=Bool.eq_false_iff.mpr n;subst n;have H1:(Qdf.j0 k false false j b c)=some r:=by rw[if_neg (show ¬(false=true)by decide)]at H;exact H
     clear H;have H:=H1;clear H1;have H':=QA H;clear H;obtain⟨B,D,E,G⟩:=qc4 a.out;have ac:=Qep a.out;go_wp2
     go_meet
     case rel=>exact⟨_,(false),(by first|rfl |(simp;done) |(simp[*];done) |(cases c.toList<;>rfl)),H',⟨by first|omega|exact Nat.le_refl _⟩,⟨by(with_reducible repeat(first|apply Qfc|apply Qfb|apply Qfa));exact a.out⟩,⟨qq_b⟩⟩
   case rest =>
    clear Z
    try clear c2
    try clear I
    try clear J
    try clear c5
    try clear P
    try clear T
    try clear n
    try clear s
    try clear t
    try clear u
    try clear v
    try clear x
    try clear y
    try clear z
    try clear A
    try clear B
    try clear D
    try clear E
    try clear G
    try clear K
    try clear L
    try clear M
    try clear O
    try clear U
    try clear W
    try clear X
    try clear Y
    try clear aa
    try clear ab
    try clear ac
    try clear af
    try clear ag
    obtain⟨kq,l,rfl,HA,HJ7,a,HB⟩:=hcut
    cases kq with
    | zero=>exact absurd HA.out (by simp[Qdf.j0])
    | succ kj7 =>
     have H:=HA.out;clear HA;simp only[Qdf.j0]at H
     by_cases q:l=true
     ·subst q;have H1:(some 4)=some r:=by rw[if_pos rfl]at H;exact H
      clear H;have H:=H1;clear H1;obtain rfl:=Option.some.inj H;go_wp2;go_ret
      exact⟨by first|rfl |(simp[Qjz,Qka]<;>rfl) |(simp[*,Qjz,Qka]<;>rfl),qq_b⟩
     ·replace q:=Bool.eq_false_iff.mpr q;subst q;have H1:(if(c.size:Int) > 1048576 then(some 3)else(some 0))=some r:=by rw[if_neg (show ¬(false=true)by decide)]at H;exact H
      clear H;have H:=H1;clear H1
      by_cases m:(c.size:Int) > 1048576
      ·rw[if_pos m]at H;have ad:decide (1048576<(c.size:Int))=true:=decide_eq_true m;have ae:decide (1048576<c.size)=true:=decide_eq_true (by omega);clear m;obtain rfl:=Option.some.inj H;obtain⟨ah,ai,aj,ak⟩:=qc4 a.out;have aq:=Qep a.out;go_wp2;go_ret
       exact⟨by first|rfl |(simp[Qjz,Qka]<;>rfl) |(simp[*,Qjz,Qka]<;>rfl),qq_b⟩
      ·rw[if_neg m]at H;have ad:decide (1048576<(c.size:Int))=false:=decide_eq_false m;have ae:decide (1048576<c.size)=false:=decide_eq_false (by omega);clear m;obtain rfl:=Option.some.inj H;obtain⟨al,am,an,ao⟩:=qc4 a.out;have ar:=Qep a.out;go_wp2;go_ret
       exact⟨by first|rfl |(simp[Qjz,Qka]<;>rfl) |(simp[*,Qjz,Qka]<;>rfl),qq_b⟩
def Qaj.f(a0:Int):Option (Bool):=some (a0 != a0)
theorem Qaj.calls(a0:Int)(r:Bool)(w:World)(h:Qaj.f a0=some r) :
  Calls Tryz.prog 215 #[.int .u64 a0] w fun e w'=>e=.returned (.bool r)∧Drawn0 w w':=by
 have H:(some (a0 != a0))=some r:=h;clear h;obtain rfl:=Option.some.inj H
 go_enter Tryz.func215,Tryz.ntmps215
 go_wp2;go_ret
 exact⟨by first|rfl |(simp;done) |(simp[*];done),by repeat(first|exact Drawn0.refl _|apply Drawn0.step)⟩
def Qct.f(a0_0:Int)(a0_1:Int)(a1:Int):Option (Int):=(Qal.f a0_0 a0_1).bind fun t105=>(if t105=0 then(if a1≥a0_1 then(some 1)else(some 0))else(some 1))
theorem Qct.calls(c:Int)(b:Int)(a1:Int)(r:Int)(w:World)(h:Qct.f c b a1=some r) :
  Calls Tryz.prog 93 #[.agg #[.int .u8 c,.int .u32 b],.int .u32 a1] w fun e w'=>e=.returned (.int .i64 r)∧Below w.heap.size w w':=by
 have hu27:=Tryz.underlying27;have HB:=QA (Below.refl w.heap.size w);have H:((Qal.f c b).bind fun j=>(if j=0 then(if a1≥b then(some 1)else(some 0))else(some 1)))=some r:=h;clear h;replace H:=Option.bind_eq_some_iff.mp H;obtain⟨j,m,H⟩:=H;replace H:(if j=0 then(if a1≥b then(some 1)else(some 0))else(some 1))=some r:=H;have A3:=QA m;clear m
 by_cases c4:j=0
 ·rw[if_pos c4]at H;have n:(j == 0)=true:=beq_iff_eq.mpr c4;have p:(j != 0)=false:=bne_eq_false_iff_eq.mpr c4;clear c4
  by_cases c5:a1≥b
  ·rw[if_pos c5]at H;have q:decide (b≤a1)=true:=decide_eq_true c5;clear c5;obtain rfl:=Option.some.inj H
   go_enter Tryz.func93,Tryz.ntmps93
   go_wp2_with (first |((with_reducible refine Qgt (N:=2) rfl ?_);refine qq_e 2 #[.int .u8 c,.int .u32 b] 27 ?_;intro d hg w6 hbox hb;have n_:=qn4 (Qgi qq_b hb) (hbox) (qq_s hg:w.heap.size≤d) (qq_s hg:w.heap.size≤d);clear HB;obtain⟨HB,a,k,l⟩:=n_;clear hb hbox hg;obtain⟨z,A⟩:=qc2 a.out;have J:=Qep a.out) |((with_reducible refine Qjs (f:=85) rfl ?_);refine Qhs (some 6) rfl rfl Tryz.func85 qq_7 rfl #[.agg #[.int .u8 c,.int .u32 b]] rfl qq_1 ?_;(with_reducible refine(Qal.calls c b j _ A3.out).mono ?_);rintro e w8 ⟨rfl,hb⟩;refine⟨_,rfl,?_⟩;have n_:=qn2 (Qfd (g:=d) (o:=.cells #[.int .u8 c,.int .u32 b] 27 (0,0)) qq_0 hb) (Qgi qq_b hb);clear a HB;obtain⟨a,HB⟩:=n_;(try clear hb);(try clear hb2);(try clear hk);(try clear hi);obtain⟨B,D⟩:=qc2 a.out;have K:=Qep a.out))
   go_ret
   exact⟨by first|rfl |(simp[Qjz,Qka]<;>rfl) |(simp[*,Qjz,Qka]<;>rfl),qq_b⟩
  ·rw[if_neg c5]at H;have q:decide (b≤a1)=false:=decide_eq_false c5;clear c5;obtain rfl:=Option.some.inj H
   go_enter Tryz.func93,Tryz.ntmps93
   go_wp2_with (first |((with_reducible refine Qgt (N:=2) rfl ?_);refine qq_e 2 #[.int .u8 c,.int .u32 b] 27 ?_;intro d hg L hbox hb;have n_:=qn4 (Qgi qq_b hb) (hbox) (qq_s hg:w.heap.size≤d) (qq_s hg:w.heap.size≤d);clear HB;obtain⟨HB,a,k,l⟩:=n_;clear hb hbox hg;obtain⟨s,t⟩:=qc2 a.out;have E:=Qep a.out) |((with_reducible refine Qjs (f:=85) rfl ?_);refine Qhs (some 6) rfl rfl Tryz.func85 qq_7 rfl #[.agg #[.int .u8 c,.int .u32 b]] rfl qq_1 ?_;(with_reducible refine(Qal.calls c b j _ A3.out).mono ?_);rintro e M ⟨rfl,hb⟩;refine⟨_,rfl,?_⟩;have n_:=qn2 (Qfd (g:=d) (o:=.cells #[.int .u8 c,.int .u32 b] 27 (0,0)) qq_0 hb) (Qgi qq_b hb);clear a HB;obtain⟨a,HB⟩:=n_;(try clear hb);(try clear hb2);(try clear hk);(try clear hi);obtain⟨u,v⟩:=qc2 a.out;have G:=Qep a.out))
   go_ret
   exact⟨by first|rfl |(simp[Qjz,Qka]<;>rfl) |(simp[*,Qjz,Qka]<;>rfl),qq_b⟩
 ·rw[if_neg c4]at H;have n:(j == 0)=false:=beq_eq_false_iff_ne.mpr c4;have p:(j != 0)=true:=bne_iff_ne.mpr c4;obtain rfl:=Option.some.inj H
  go_enter Tryz.func93,Tryz.ntmps93
  go_wp2_with (first |((with_reducible refine Qgt (N:=2) rfl ?_);refine qq_e 2 #[.int .u8 c,.int .u32 b] 27 ?_;intro d hg O hbox hb;have n_:=qn4 (Qgi qq_b hb) (hbox) (qq_s hg:w.heap.size≤d) (qq_s hg:w.heap.size≤d);clear HB;obtain⟨HB,a,k,l⟩:=n_;clear hb hbox hg;obtain⟨x,y⟩:=qc2 a.out;have I:=Qep a.out) |((with_reducible refine Qjs (f:=85) rfl ?_);refine Qhs (some 6) rfl rfl Tryz.func85 qq_7 rfl #[.agg #[.int .u8 c,.int .u32 b]] rfl qq_1 ?_;(with_reducible refine(Qal.calls c b j _ A3.out).mono ?_);rintro e P ⟨rfl,hb⟩;refine⟨_,rfl,?_⟩;have n_:=qn2 (Qfd (g:=d) (o:=.cells #[.int .u8 c,.int .u32 b] 27 (0,0)) qq_0 hb) (Qgi qq_b hb);clear a HB;obtain⟨a,HB⟩:=n_;(try clear hb);(try clear hb2);(try clear hk);(try clear hi)))
  go_ret
  exact⟨by first|rfl |(simp[Qjz,Qka]<;>rfl) |(simp[*,Qjz,Qka]<;>rfl),qq_b⟩
def Qam.f(a0_0:Int)(a0_1:Int):Option (Int):=(Qal.f a0_0 a0_1).bind fun t113=>(if t113=0 then(if 0≤a0_0 then(some (shl .i64 1 a0_0))else(none))else(some 0))
theorem Qam.calls(a:Int)(c:Int)(r:Int)(w:World)(h:Qam.f a c=some r) :
  Calls Tryz.prog 78 #[.agg #[.int .u8 a,.int .u32 c]] w fun e w'=>e=.returned (.int .i64 r)∧Below w.heap.size w w':=by
 have hu27:=Tryz.underlying27;have HB:=QA (Below.refl w.heap.size w);have H:((Qal.f a c).bind fun d=>(if d=0 then(if 0≤a then(some (shl .i64 1 a))else(none))else(some 0)))=some r:=h;clear h;replace H:=Option.bind_eq_some_iff.mp H;obtain⟨d,s,H⟩:=H;replace H:(if d=0 then(if 0≤a then(some (shl .i64 1 a))else(none))else(some 0))=some r:=H;have A2:=QA s;clear s
 by_cases c3:d=0
 ·rw[if_pos c3]at H;have t:(d == 0)=true:=beq_iff_eq.mpr c3;have u:(d != 0)=false:=bne_eq_false_iff_eq.mpr c3;clear c3
  by_cases c4:0≤a
  ·rw[if_pos c4]at H;have K:=eq_true c4;have L:decide (0≤a)=true:=decide_eq_true c4;clear c4;obtain⟨l,k⟩:∃j_:Int,(shl .i64 1 a)=j_:=⟨_,rfl⟩;replace H:(some l)=some r:=by first |(rw[k]at H;exact H) |(simp only[k]at H ⊢;exact H)
   (try rw[k]at A2)
   have m:(IntKind.i64.wrap (1*2^min a.toNat 64))=l:=k;have n:a≤64→(IntKind.i64.wrap (1*2^a.toNat))=l:=Qju k;have D:(IntKind.i64.wrap (2^min a.toNat 64))=l:=by have h_:=m;rw[Int.one_mul]at h_;exact h_
   have E:a≤64→(IntKind.i64.wrap (2^a.toNat))=l:=fun hle_=>by have h_:=n hle_;rw[Int.one_mul]at h_;exact h_
   have G:(wrap64 (1*2^min a.toNat 64))=l:=(Qhv _).symm.trans m;have I:a≤64→(wrap64 (1*2^a.toNat))=l:=fun h_=>(Qhv _).symm.trans (n h_)
   obtain rfl:=Option.some.inj H
   go_enter Tryz.func78,Tryz.ntmps78
   go_wp2_with (first |((with_reducible refine Qgt (N:=1) rfl ?_);refine qq_e 1 #[.int .u8 a,.int .u32 c] 27 ?_;intro j hg w6 hbox hb;have n_:=qn4 (Qgi qq_b hb) (hbox) (qq_s hg:w.heap.size≤j) (qq_s hg:w.heap.size≤j);clear HB;obtain⟨HB,b,p,q⟩:=n_;clear hb hbox hg;obtain⟨y,z⟩:=qc2 b.out;have M:=Qep b.out) |((with_reducible refine Qjs (f:=85) rfl ?_);refine Qhs (some 4) rfl rfl Tryz.func85 qq_7 rfl #[.agg #[.int .u8 a,.int .u32 c]] rfl qq_1 ?_;(with_reducible refine(Qal.calls a c d _ A2.out).mono ?_);rintro e w8 ⟨rfl,hb⟩;refine⟨_,rfl,?_⟩;have n_:=qn2 (Qfd (g:=j) (o:=.cells #[.int .u8 a,.int .u32 c] 27 (0,0)) qq_0 hb) (Qgi qq_b hb);clear b HB;obtain⟨b,HB⟩:=n_;(try clear hb);(try clear hb2);(try clear hk);(try clear hi);obtain⟨A,B⟩:=qc2 b.out;have O:=Qep b.out))
   go_ret
   exact⟨by first|rfl |(simp[Qjz,Qka]<;>rfl) |(simp only[← k];first|rfl |(simp[Qjz,Qka]<;>rfl)) |(simp[*,Qjz,Qka]<;>rfl),qq_b⟩
  ·rw[if_neg c4]at H;exact absurd H (by simp)
 ·rw[if_neg c3]at H;have t:(d == 0)=false:=beq_eq_false_iff_ne.mpr c3;have u:(d != 0)=true:=bne_iff_ne.mpr c3;obtain rfl:=Option.some.inj H
  go_enter Tryz.func78,Tryz.ntmps78
  go_wp2_with (first |((with_reducible refine Qgt (N:=1) rfl ?_);refine qq_e 1 #[.int .u8 a,.int .u32 c] 27 ?_;intro j hg P hbox hb;have n_:=qn4 (Qgi qq_b hb) (hbox) (qq_s hg:w.heap.size≤j) (qq_s hg:w.heap.size≤j);clear HB;obtain⟨HB,b,p,q⟩:=n_;clear hb hbox hg;obtain⟨v,x⟩:=qc2 b.out;have J:=Qep b.out) |((with_reducible refine Qjs (f:=85) rfl ?_);refine Qhs (some 4) rfl rfl Tryz.func85 qq_7 rfl #[.agg #[.int .u8 a,.int .u32 c]] rfl qq_1 ?_;(with_reducible refine(Qal.calls a c d _ A2.out).mono ?_);rintro e T ⟨rfl,hb⟩;refine⟨_,rfl,?_⟩;have n_:=qn2 (Qfd (g:=j) (o:=.cells #[.int .u8 a,.int .u32 c] 27 (0,0)) qq_0 hb) (Qgi qq_b hb);clear b HB;obtain⟨b,HB⟩:=n_;(try clear hb);(try clear hb2);(try clear hk);(try clear hi)))
  go_ret
  exact⟨by first|rfl |(simp[Qjz,Qka]<;>rfl) |(simp[*,Qjz,Qka]<;>rfl),qq_b⟩
def Qcn.f(a0:Int):Option (Int):=some (wrap64 (Int.tdiv (wrap64 ((wrap64 ((mx 0 a0)+16))-1)) 16))
theorem Qcn.calls(a0:Int)(r:Int)(w:World)(h:Qcn.f a0=some r) :
  Calls Tryz.prog 183 #[.int .i64 a0] w fun e w'=>e=.returned (.int .i64 r)∧Below w.heap.size w w':=by
 have HB:=QA (Below.refl w.heap.size w);have H:(some (wrap64 (Int.tdiv (wrap64 ((wrap64 ((mx 0 a0)+16))-1)) 16)))=some r:=h;clear h;obtain⟨ji2,hji2⟩:∃j_:Int,(mx 0 a0)=j_:=⟨_,rfl⟩;replace H:(some (wrap64 (Int.tdiv (wrap64 ((wrap64 ((ji2)+16))-1)) 16)))=some r:=by first |(rw[hji2]at H;exact H) |(simp only[hji2]at H ⊢;exact H)
 (try(have hji2l:0≤ji2:=by(rw[← hji2];unfold mx;(repeat' split)<;>omega)))
 (try(have hji2m:0≤ji2:=by omega))
 have hji2_:(if 0<a0 then a0 else 0)=ji2:=hji2;obtain rfl:=Option.some.inj H
 go_enter Tryz.func183,Tryz.ntmps183
 go_wp2;go_ret
 exact⟨by first|rfl |(simp[Qjz,Qka]<;>rfl) |(simp only[← hji2];first|rfl |(simp[Qjz,Qka]<;>rfl)) |(simp[*,Qjz,Qka]<;>rfl),qq_b⟩
def Qcs.f(a0:Int):Option (Int):=(Qak.f (wrap64 ((mx 0 a0)+8))).bind fun t125=>(some (wrap64 (t125+1)))
theorem Qcs.calls(a0:Int)(r:Int)(w:World)(h:Qcs.f a0=some r) :
  Calls Tryz.prog 226 #[.int .i64 a0] w fun e w'=>e=.returned (.int .i64 r)∧Below w.heap.size w w':=by
 have HB:=QA (Below.refl w.heap.size w);have H:((Qak.f (wrap64 ((mx 0 a0)+8))).bind fun t125=>(some (wrap64 (t125+1))))=some r:=h;clear h;obtain⟨ji2,hji2⟩:∃j_:Int,(mx 0 a0)=j_:=⟨_,rfl⟩;replace H:((Qak.f (wrap64 ((ji2)+8))).bind fun t125=>(some (wrap64 (t125+1))))=some r:=by first |(rw[hji2]at H;exact H) |(simp only[hji2]at H ⊢;exact H)
 (try(have hji2l:0≤ji2:=by(rw[← hji2];unfold mx;(repeat' split)<;>omega)))
 (try(have hji2m:0≤ji2:=by omega))
 have hji2_:(if 0<a0 then a0 else 0)=ji2:=hji2;replace H:=Option.bind_eq_some_iff.mp H;obtain⟨t125,A30,H⟩:=H;replace H:(some (wrap64 (t125+1)))=some r:=H;have A3:=QA A30;clear A30;obtain rfl:=Option.some.inj H
 go_enter Tryz.func226,Tryz.ntmps226
 go_wp2_with (first |((with_reducible refine Qjs (f:=197) rfl ?_);refine Qhs (some 6) rfl rfl Tryz.func197 qq_7 rfl #[.int .i64 (wrap64 ((ji2)+8))] rfl qq_19 ?_;(with_reducible refine(Qak.calls (wrap64 ((ji2)+8)) t125 _ A3.out).mono ?_);rintro e w' ⟨rfl,⟨nd,rfl⟩⟩;refine⟨_,rfl,?_⟩))
 go_ret
 exact⟨by first|rfl |(simp[Qjz,Qka]<;>rfl) |(simp only[← hji2];first|rfl |(simp[Qjz,Qka]<;>rfl)) |(simp[*,Qjz,Qka]<;>rfl),qq_b⟩
def Qco.f(a0:Int):Option (Int):=(Qcn.f (mx 0 a0)).bind fun t126=>((Qcs.f (wrap64 ((wrap64 (9+(wrap64 (12*(mx 0 a0)))))+(wrap64 (8*t126))))).bind fun t127=>(some t127))
theorem Qco.calls(a0:Int)(r:Int)(w:World)(h:Qco.f a0=some r) :
  Calls Tryz.prog 198 #[.int .i64 a0] w fun e w'=>e=.returned (.int .i64 r)∧Below w.heap.size w w':=by
 have HB:=QA (Below.refl w.heap.size w);have H:((Qcn.f (mx 0 a0)).bind fun a=>((Qcs.f (wrap64 ((wrap64 (9+(wrap64 (12*(mx 0 a0)))))+(wrap64 (8*a))))).bind fun b=>(some b)))=some r:=h;clear h;obtain⟨c,hji2⟩:∃j_:Int,(mx 0 a0)=j_:=⟨_,rfl⟩;replace H:((Qcn.f (c)).bind fun a=>((Qcs.f (wrap64 ((wrap64 (9+(wrap64 (12*(c)))))+(wrap64 (8*a))))).bind fun b=>(some b)))=some r:=by first |(rw[hji2]at H;exact H) |(simp only[hji2]at H ⊢;exact H)
 (try(have j:0≤c:=by(rw[← hji2];unfold mx;(repeat' split)<;>omega)))
 (try(have k:0≤c:=by omega))
 have l:(if 0<a0 then a0 else 0)=c:=hji2;replace H:=Option.bind_eq_some_iff.mp H;obtain⟨a,d,H⟩:=H;replace H:((Qcs.f (wrap64 ((wrap64 (9+(wrap64 (12*(c)))))+(wrap64 (8*a))))).bind fun b=>(some b))=some r:=H;have A3:=QA d;clear d;replace H:=Option.bind_eq_some_iff.mp H;obtain⟨b,g,H⟩:=H;replace H:(some b)=some r:=H;have A4:=QA g;clear g;obtain rfl:=Option.some.inj H
 go_enter Tryz.func198,Tryz.ntmps198
 go_wp2_with (first |((with_reducible refine Qjs (f:=183) rfl ?_);refine Qhs (some 9) rfl rfl Tryz.func183 qq_7 rfl #[.int .i64 c] rfl qq_19 ?_;(with_reducible refine(Qcn.calls c a _ A3.out).mono ?_);rintro e w5 ⟨rfl,hb⟩;refine⟨_,rfl,?_⟩;have n_:=qn1 (Qgi qq_b hb);clear HB;have HB:=n_;clear n_;(try clear hb);(try clear hb2);(try clear hk);(try clear hi)) |((with_reducible refine Qjs (f:=226) rfl ?_);refine Qhs (some 12) rfl rfl Tryz.func226 qq_7 rfl #[.int .i64 (wrap64 ((wrap64 (9+(wrap64 (12*(c)))))+(wrap64 (8*a))))] rfl qq_19 ?_;(with_reducible refine(Qcs.calls (wrap64 ((wrap64 (9+(wrap64 (12*(c)))))+(wrap64 (8*a)))) b _ A4.out).mono ?_);rintro e w6 ⟨rfl,hb⟩;refine⟨_,rfl,?_⟩;have n_:=qn1 (Qgi qq_b hb);clear HB;have HB:=n_;clear n_;(try clear hb);(try clear hb2);(try clear hk);(try clear hi)))
 go_ret
 exact⟨by first|rfl |(simp[Qjz,Qka]<;>rfl) |(simp only[← hji2];first|rfl |(simp[Qjz,Qka]<;>rfl)) |(simp[*,Qjz,Qka]<;>rfl),qq_b⟩
def Qdb.f(a0_0:Int)(a0_1:Int)(a0_2:Int)(a0_3:Int)(a0_4:Int):Option (Int):=(Qam.f a0_0 a0_1).bind fun t129=>((Qco.f (wrap64 (a0_4+1))).bind fun t130=>(some (mx 0 (wrap64 ((wrap64 (t129-a0_3))-t130)))))
def Qdb.T1:Bool × List (List Nat × List Nat):=(true,[([],[]),([0],[0]),([1],[1]),([],[]),([3],[3]),([2,4],[2,4]),([],[]),([6],[6]),([7],[7]),([8,2],[8]),([5,9],[5,9]),([10],[10]),([11,9,0,1,2,3,4,5,6,7,8,9,10,11],[11])])
def Qdb.B1:List Nat:=[0,1,3,0,8,31,0,64,192,455,1023,2047,4095]
theorem Qdb.tab1:rtab .any (Qjb Tryz.f154 1)=Qdb.T1:=by kernel_rfl
theorem Qdb.bits1:Qiv Qdb.T1.2 Qdb.B1=true:=by kernel_rfl
theorem Qdb.calls(j:Int)(k:Int)(s:Int)(b:Int)(d:Int)(r:Int)(w:World)(h:Qdb.f j k s b d=some r) :
  Calls Tryz.prog 154 #[.agg #[.int .u8 j,.int .u32 k,.int .u32 s,.int .i64 b,.int .i64 d]] w fun e w'=>e=.returned (.int .i64 r)∧Below w.heap.size w w':=by
 have hu47:=Tryz.underlying47;have hu27:=Tryz.underlying27;have HB:=QA (Below.refl w.heap.size w);have H:((Qam.f j k).bind fun m=>((Qco.f (wrap64 (d+1))).bind fun l=>(some (mx 0 (wrap64 ((wrap64 (m-b))-l))))))=some r:=h;clear h;replace H:=Option.bind_eq_some_iff.mp H;obtain⟨m,u,H⟩:=H;replace H:((Qco.f (wrap64 (d+1))).bind fun l=>(some (mx 0 (wrap64 ((wrap64 (m-b))-l)))))=some r:=H;have A2:=QA u;clear u;replace H:=Option.bind_eq_some_iff.mp H;obtain⟨l,x,H⟩:=H;replace H:(some (mx 0 (wrap64 ((wrap64 (m-b))-l))))=some r:=H;have A3:=QA x;clear x;obtain⟨t,q⟩:∃j_:Int,(mx 0 (wrap64 ((wrap64 (m-b))-l)))=j_:=⟨_,rfl⟩;replace H:(some t)=some r:=by first |(rw[q]at H;exact H) |(simp only[q]at H ⊢;exact H)
 (try rw[q]at A2)
 (try rw[q]at A3)
 (try(have y:0≤t:=by(rw[← q];unfold mx;(repeat' split)<;>omega)))
 (try(have z:0≤t:=by omega))
 have A:(if 0<(wrap64 ((wrap64 (m-b))-l))then(wrap64 ((wrap64 (m-b))-l))else 0)=t:=q;obtain rfl:=Option.some.inj H
 go_enter Tryz.func154,Tryz.ntmps154
 try go_wp2_with (first |((with_reducible refine Qgt (N:=1) rfl ?_);refine qq_e 1 #[.int .u8 j,.int .u32 k,.int .u32 s,.int .i64 b,.int .i64 d] 47 ?_;intro c hg w5 hbox hb;have n_:=qn4 (Qgi qq_b hb) (hbox) (qq_s hg:w.heap.size≤c) (qq_s hg:w.heap.size≤c);clear HB;obtain⟨HB,a,B,D⟩:=n_;clear hb hbox hg))
 have n_:=qn2 (Qfb a.out) (Qgp HB.out);clear a HB;obtain⟨a,HB⟩:=n_;refine Qhg (n:=13) (S:=fun w'=>w'.cell? ⟨c,0,none⟩=some (.int .u8 j)∧w'.cell? ⟨c,1,none⟩=some (.int .u32 k)∧w'.cell? ⟨c,2,none⟩=some (.int .u32 s)∧w'.cell? ⟨c,3,none⟩=some (.int .i64 b)∧w'.cell? ⟨c,4,none⟩=some (.int .i64 d)) (ds:=[]) (bm 13 0) qq_7 rfl rfl ⟨(Qeo a.out 0).trans rfl,(Qeo a.out 1).trans rfl,(Qeo a.out 2).trans rfl,(Qeo a.out 3).trans rfl,(Qeo a.out 4).trans rfl⟩ (fun p=>?_);refine Qiz Qdb.tab1 Qdb.bits1 (fun HT_ HW_=>?_);generalize w5.drew=w6 at a HB p ⊢;refine Qhj (i:=0) (N:=some 3) (v:=?_) (a':=?_) (bm 13 1) rfl rfl (Qir HT_.out qq_7) (fun _ _ _ h=>h) (Or.inl ⟨by rfl,?_⟩) ?_ ?_;rotate_left
 ·intro w';go_simp;with_reducible rfl
 rotate_left
 ·exact qq_2
 refine Qhj (i:=3) (N:=some 6) (v:=?_) (a':=?_) (bm 13 9) rfl rfl (Qir HT_.out qq_7) (fun _ _ _ h=>h) (Or.inl ⟨by rfl,?_⟩) ?_ ?_;rotate_left
 ·intro w';go_simp;with_reducible rfl
 rotate_left
 ·exact qq_2
 refine Qhj (i:=6) (N:=some 9) (v:=?_) (a':=?_) (bm 13 73) rfl rfl (Qir HT_.out qq_7) (fun _ _ _ h=>h) (Or.inl ⟨by rfl,?_⟩) ?_ ?_;rotate_left
 ·intro w';go_simp;with_reducible rfl
 rotate_left
 ·exact qq_2
 refine Qhi (i:=1) (N:=some 4) (v:=?_) (a':=?_) (bm 13 75) rfl rfl (Qiy HT_.out HW_.out qq_7) (fun _ _ _ h=>h) (Or.inl ⟨by rfl,?_⟩) p ?_ ?_;rotate_left
 ·rintro w' ⟨s0,s1,s2,s3,s4⟩;go_simp;with_reducible rfl
 rotate_left
 ·exact qq_2
 refine Qhi (i:=4) (N:=some 7) (v:=?_) (a':=?_) (bm 13 91) rfl rfl (Qiy HT_.out HW_.out qq_7) (fun _ _ _ h=>h) (Or.inl ⟨by rfl,?_⟩) p ?_ ?_;rotate_left
 ·rintro w' ⟨s0,s1,s2,s3,s4⟩;go_simp;with_reducible rfl
 rotate_left
 ·exact qq_2
 refine Qhi (i:=7) (N:=some 10) (v:=?_) (a':=?_) (bm 13 219) rfl rfl (Qiy HT_.out HW_.out qq_7) (fun _ _ _ h=>h) (Or.inl ⟨by rfl,?_⟩) p ?_ ?_;rotate_left
 ·rintro w' ⟨s0,s1,s2,s3,s4⟩;go_simp;with_reducible rfl
 rotate_left
 ·exact qq_2
 refine Qhj (i:=8) (N:=some 11) (v:=?_) (a':=?_) (bm 13 475) rfl rfl (Qir HT_.out qq_7) (fun _ _ _ h=>h) (Or.inl ⟨by rfl,?_⟩) ?_ ?_;rotate_left
 ·intro w';go_simp;with_reducible rfl
 rotate_left
 ·exact qq_2
 refine one_ (i:=2) (N:=some 5) (bm 13 479) rfl rfl (Qis HT_.out qq_7) (by decide) (fun K hK=>?_);refine Qhr Tryz.func78 qq_7 rfl #[.agg #[.int .u8 j,.int .u32 k]] (by rfl) rfl rfl qq_1 ?_;with_reducible refine(Qam.calls j k m _ A2.out).mono ?_
 rintro e w7 ⟨rfl,hb⟩;refine⟨_,rfl,?_⟩;have n_:=qn2 (Qfd (g:=c) (o:=.cells #[.int .u8 j,.int .u32 k,.int .u32 s,.int .i64 b,.int .i64 d] 47 (0,0)) qq_0 hb) (Qgi qq_b hb);clear a HB;obtain⟨a,HB⟩:=n_
 (try clear hb)
 (try clear hb2)
 (try clear hk)
 (try clear hi)
 refine hK.out _ _ ⟨(Qeo a.out 0).trans rfl,(Qeo a.out 1).trans rfl,(Qeo a.out 2).trans rfl,(Qeo a.out 3).trans rfl,(Qeo a.out 4).trans rfl⟩ (fun p=>?_);clear hK K;refine nzp_ 5 ?_;refine Qhj (i:=5) (N:=some 8) (v:=?_) (a':=?_) (bm 13 511) rfl rfl (Qir HT_.out qq_7) (fun _ _ _ h=>h) (Or.inl ⟨by rfl,?_⟩) ?_ ?_;rotate_left
 ·intro w';go_simp;with_reducible rfl
 rotate_left
 ·exact qq_2
 refine one_ (i:=9) (N:=some 12) (bm 13 1023) rfl rfl (Qis HT_.out qq_7) (by decide) (fun K hK=>?_);refine Qhr Tryz.func198 qq_7 rfl #[.int .i64 (wrap64 (d+1))] (by rfl) rfl rfl qq_1 ?_;with_reducible refine(Qco.calls (wrap64 (d+1)) l _ A3.out).mono ?_
 rintro e w8 ⟨rfl,hb⟩;refine⟨_,rfl,?_⟩;have n_:=qn2 (Qfd (g:=c) (o:=.cells #[.int .u8 j,.int .u32 k,.int .u32 s,.int .i64 b,.int .i64 d] 47 (0,0)) qq_0 hb) (Qgi qq_b hb);clear a HB;obtain⟨a,HB⟩:=n_
 (try clear hb)
 (try clear hb2)
 (try clear hk)
 (try clear hi)
 refine hK.out _ _ ⟨(Qeo a.out 0).trans rfl,(Qeo a.out 1).trans rfl,(Qeo a.out 2).trans rfl,(Qeo a.out 3).trans rfl,(Qeo a.out 4).trans rfl⟩ (fun p=>?_);clear hK K;refine nzp_ 12 ?_;refine Qhj (i:=10) (N:=some 13) (v:=?_) (a':=?_) (bm 13 2047) rfl rfl (Qir HT_.out qq_7) (fun _ _ _ h=>h) (Or.inl ⟨by rfl,?_⟩) ?_ ?_;rotate_left
 ·intro w';go_simp;with_reducible rfl
 rotate_left
 ·exact qq_2
 refine Qhj (i:=11) (N:=some 14) (v:=?_) (a':=?_) (bm 13 4095) rfl rfl (Qir HT_.out qq_7) (fun _ _ _ h=>h) (Or.inl ⟨by rfl,?_⟩) ?_ ?_;rotate_left
 ·intro w';go_simp;with_reducible rfl
 rotate_left
 ·exact qq_2
 refine Qhj (i:=12) (N:=some 2) (v:=?_) (a':=?_) (bm 13 8191) rfl rfl (Qir HT_.out qq_7) (fun _ _ _ h=>h) (Or.inl ⟨by rfl,?_⟩) ?_ ?_;rotate_left
 ·intro w';go_simp;with_reducible rfl
 rotate_left
 ·exact qq_2
 refine Qhl (Qiu HT_.out qq_7) ?_
 try go_wp2
 go_ret
 exact⟨by first|rfl |(simp[Qjz,Qka]<;>rfl) |(simp only[← q];first|rfl |(simp[Qjz,Qka]<;>rfl)) |(simp[*,Qjz,Qka]<;>rfl),qq_b⟩
def Qda.f(a0_0:Int)(a0_1:Int)(a0_2:Int)(a0_3:Int)(a0_4:Int)(a1:Int):Option (Bool):=if a1≥1 then((Qdb.f a0_0 a0_1 a0_2 a0_3 a0_4).bind fun t132=>(some (decide (a1≤t132))))else(some false)
theorem Qda.calls(b:Int)(c:Int)(d:Int)(j:Int)(k:Int)(a1:Int)(r:Bool)(w:World)(h:Qda.f b c d j k a1=some r) :
  Calls Tryz.prog 100 #[.agg #[.int .u8 b,.int .u32 c,.int .u32 d,.int .i64 j,.int .i64 k],.int .i64 a1] w fun e w'=>e=.returned (.bool r)∧Below w.heap.size w w':=by
 have hu47:=Tryz.underlying47;have HB:=QA (Below.refl w.heap.size w);have H:(if a1≥1 then((Qdb.f b c d j k).bind fun m=>(some (decide (a1≤m))))else(some false))=some r:=h;clear h
 by_cases c3:a1≥1
 ·rw[if_pos c3]at H;have s:decide (1≤a1)=true:=decide_eq_true c3;clear c3;replace H:=Option.bind_eq_some_iff.mp H;obtain⟨m,q,H⟩:=H;replace H:(some (decide (a1≤m)))=some r:=H;have A4:=QA q;clear q;obtain rfl:=Option.some.inj H
  go_enter Tryz.func100,Tryz.ntmps100
  go_wp2_with (first |((with_reducible refine Qgt (N:=2) rfl ?_);refine qq_e 2 #[.int .u8 b,.int .u32 c,.int .u32 d,.int .i64 j,.int .i64 k] 47 ?_;intro a hg w5 hbox hb;have n_:=qn4 (Qgi qq_b hb) (hbox) (qq_s hg:w.heap.size≤a) (qq_s hg:w.heap.size≤a);clear HB;obtain⟨HB,l,n,p⟩:=n_;clear hb hbox hg;obtain⟨t,u,v,x,y⟩:=qc5 l.out;have z:=Qep l.out) |(go_at_call 154;(with_reducible refine(Qdb.calls b c d j k m _ A4.out).mono ?_);rintro e w7 ⟨rfl,hb⟩;have n_:=qn2 (Qfd (g:=a) (o:=.cells #[.int .u8 b,.int .u32 c,.int .u32 d,.int .i64 j,.int .i64 k] 47 (0,0)) qq_0 hb) (Qgi qq_b hb);clear l HB;obtain⟨l,HB⟩:=n_;(try clear hb);(try clear hb2);(try clear hk);(try clear hi)))
  go_ret
  exact⟨by first|rfl |(simp[Qjz,Qka]<;>rfl) |(simp[*,Qjz,Qka]<;>rfl),qq_b⟩
 ·rw[if_neg c3]at H;have s:decide (1≤a1)=false:=decide_eq_false c3;clear c3;obtain rfl:=Option.some.inj H
  go_enter Tryz.func100,Tryz.ntmps100
  go_wp2_with (first |((with_reducible refine Qgt (N:=2) rfl ?_);refine qq_e 2 #[.int .u8 b,.int .u32 c,.int .u32 d,.int .i64 j,.int .i64 k] 47 ?_;intro a hg w8 hbox hb;have n_:=qn4 (Qgi qq_b hb) (hbox) (qq_s hg:w.heap.size≤a) (qq_s hg:w.heap.size≤a);clear HB;obtain⟨HB,l,n,p⟩:=n_;clear hb hbox hg))
  go_ret
  exact⟨by first|rfl |(simp[Qjz,Qka]<;>rfl) |(simp[*,Qjz,Qka]<;>rfl),qq_b⟩
def Qdc.f(a0_0:Int)(a0_1:Int)(a0_2:Int)(a0_3:Int)(a0_4:Int)(a1:Int):Option (Int × Int × Int × Int × Int × Int):=(Qda.f a0_0 a0_1 a0_2 a0_3 a0_4 a1).bind fun t144=>(if t144=true then(some (a0_0,a0_1,a0_2,wrap64 (a0_3+a1),wrap64 (a0_4+1),0))else(some (0,0,0,0,0,7)))
theorem Qdc.calls(a:Int)(b:Int)(c:Int)(d:Int)(k:Int)(a1:Int)(r1:Int)(r2:Int)(r3:Int)(r4:Int)(r5:Int)(r6:Int)(w:World)(h:Qdc.f a b c d k a1=some (r1,r2,r3,r4,r5,r6)) :
  Calls Tryz.prog 59 #[.agg #[.int .u8 a,.int .u32 b,.int .u32 c,.int .i64 d,.int .i64 k],.int .i64 a1] w fun e w'=>e=.returned (.tuple #[.agg #[.int .u8 r1,.int .u32 r2,.int .u32 r3,.int .i64 r4,.int .i64 r5],.int .i64 r6])∧Below w.heap.size w w':=by
 have hu47:=Tryz.underlying47;have HB:=QA (Below.refl w.heap.size w);have H:((Qda.f a b c d k a1).bind fun r=>(if r=true then(some (a,b,c,wrap64 (d+a1),wrap64 (k+1),0))else(some (0,0,0,0,0,7))))=some (r1,r2,r3,r4,r5,r6):=h;clear h;replace H:=Option.bind_eq_some_iff.mp H;obtain⟨r,x,H⟩:=H;replace H:(if r=true then(some (a,b,c,wrap64 (d+a1),wrap64 (k+1),0))else(some (0,0,0,0,0,7)))=some (r1,r2,r3,r4,r5,r6):=H;have A3:=QA x;clear x
 by_cases c4:r=true
 ·subst c4;have H1:(some (a,b,c,wrap64 (d+a1),wrap64 (k+1),0))=some (r1,r2,r3,r4,r5,r6):=by rw[if_pos rfl]at H;exact H
  clear H;have H:=H1;clear H1;simp only[Option.some.injEq,Prod.mk.injEq]at H;obtain⟨rfl,rfl,rfl,rfl,rfl,rfl⟩:=H
  go_enter Tryz.func59,Tryz.ntmps59
  go_wp2_with (first |((with_reducible refine Qgt (N:=2) rfl ?_);refine qq_e 2 #[.int .u8 a,.int .u32 b,.int .u32 c,.int .i64 d,.int .i64 k] 47 ?_;intro j hg w5 hbox hb;have n_:=qn4 (Qgi qq_b hb) (hbox) (qq_s hg:w.heap.size≤j) (qq_s hg:w.heap.size≤j);clear HB;obtain⟨HB,l,s,t⟩:=n_;clear hb hbox hg) |((with_reducible refine Qgt (N:=4) rfl ?_);refine qq_e 4 #[.int .u8 0,.int .u32 0,.int .u32 0,.int .i64 0,.int .i64 0] 47 ?_;intro m hg w6 hbox hb;have n_:=qn7 (Qfd (g:=j) (o:=.cells #[.int .u8 a,.int .u32 b,.int .u32 c,.int .i64 d,.int .i64 k] 47 (0,0)) qq_0 hb) (Qgi qq_b hb) (hbox) (qq_s hg:w.heap.size≤m) (qq_s hg:w.heap.size≤m) ((by rw[hg];exact Nat.ne_of_lt (Qen (g:=j) (o:=.cells #[.int .u8 a,.int .u32 b,.int .u32 c,.int .i64 d,.int .i64 k] 47 (0,0)) qq_0):j≠m)) ((by rw[hg];exact Nat.ne_of_gt (Qen (g:=j) (o:=.cells #[.int .u8 a,.int .u32 b,.int .u32 c,.int .i64 d,.int .i64 k] 47 (0,0)) qq_0):m≠j));clear l HB;obtain⟨l,HB,n,u,v,q,p⟩:=n_;clear hb hbox hg;have al:=q.out;have am:=p.out;obtain⟨aa,ab,ac,ad,ae⟩:=qc5 l.out;have an:=Qep l.out) |((with_reducible refine Qjs (f:=100) rfl ?_);refine Qhs (some 8) rfl rfl Tryz.func100 qq_7 rfl #[.agg #[.int .u8 a,.int .u32 b,.int .u32 c,.int .i64 d,.int .i64 k],.int .i64 a1] rfl qq_1 ?_;(with_reducible refine(Qda.calls a b c d k a1 true _ A3.out).mono ?_);rintro e w9 ⟨rfl,hb⟩;refine⟨_,rfl,?_⟩;have n_:=qn3 (Qfd (g:=j) (o:=.cells #[.int .u8 a,.int .u32 b,.int .u32 c,.int .i64 d,.int .i64 k] 47 (0,0)) qq_0 hb) (Qfd (g:=m) (o:=.cells #[.int .u8 0,.int .u32 0,.int .u32 0,.int .i64 0,.int .i64 0] 47 (0,0)) qq_0 hb) (Qgi qq_b hb);clear l n HB;obtain⟨l,n,HB⟩:=n_;(try clear hb);(try clear hb2);(try clear hk);(try clear hi);obtain⟨y,z,A,B,D⟩:=qc5 l.out;have af:=Qep l.out;obtain⟨E,G,I,J,K⟩:=qc5 n.out;have ag:=Qep n.out))
  refine bodyPost_ret (Qff rfl _ _ m 47 #[.int .u8 a,.int .u32 b,.int .u32 c,.int .i64 (wrap64 (d+a1)),.int .i64 (wrap64 (k+1))] (0,0) _ rfl (by(with_reducible repeat(first|apply Qfc|apply Qfb|apply Qfa));refine Qgo (cs:=#[.int .u8 a,.int .u32 b,.int .u32 c,.int .i64 (wrap64 (d+a1)),.int .i64 0]) ?_ 4 _ rfl;(with_reducible repeat(first|apply Qfc|apply Qfb|apply Qfa));refine Qgo (cs:=#[.int .u8 a,.int .u32 b,.int .u32 c,.int .i64 0,.int .i64 0]) ?_ 3 _ rfl;(with_reducible repeat(first|apply Qfc|apply Qfb|apply Qfa));refine Qgo (cs:=#[.int .u8 a,.int .u32 b,.int .u32 0,.int .i64 0,.int .i64 0]) ?_ 2 _ rfl;(with_reducible repeat(first|apply Qfc|apply Qfb|apply Qfa));refine Qgo (cs:=#[.int .u8 a,.int .u32 0,.int .u32 0,.int .i64 0,.int .i64 0]) ?_ 1 _ rfl;(with_reducible repeat(first|apply Qfc|apply Qfb|apply Qfa));refine Qgo (cs:=#[.int .u8 0,.int .u32 0,.int .u32 0,.int .i64 0,.int .i64 0]) ?_ 0 _ rfl;(with_reducible repeat(first|apply Qfc|apply Qfb|apply Qfa));refine Qem ?_ p.out _;(with_reducible repeat(first|apply Qfc|apply Qfb|apply Qfa));refine Qem ?_ p.out _;(with_reducible repeat(first|apply Qfc|apply Qfb|apply Qfa));exact n.out) Tryz.underlying47 rfl qq_7) rfl ?_;exact⟨by first|rfl |(simp[Qjz,Qka]<;>rfl) |(simp[*,Qjz,Qka]<;>rfl),qq_b⟩
 ·replace c4:=Bool.eq_false_iff.mpr c4;subst c4;have H1:(some (0,0,0,0,0,7))=some (r1,r2,r3,r4,r5,r6):=by rw[if_neg (show ¬(false=true)by decide)]at H;exact H
  clear H;have H:=H1;clear H1;simp only[Option.some.injEq,Prod.mk.injEq]at H;obtain⟨rfl,rfl,rfl,rfl,rfl,rfl⟩:=H
  go_enter Tryz.func59,Tryz.ntmps59
  go_wp2_with (first |((with_reducible refine Qgt (N:=2) rfl ?_);refine qq_e 2 #[.int .u8 a,.int .u32 b,.int .u32 c,.int .i64 d,.int .i64 k] 47 ?_;intro j hg ao hbox hb;have n_:=qn4 (Qgi qq_b hb) (hbox) (qq_s hg:w.heap.size≤j) (qq_s hg:w.heap.size≤j);clear HB;obtain⟨HB,l,s,t⟩:=n_;clear hb hbox hg) |((with_reducible refine Qgt (N:=4) rfl ?_);refine qq_e 4 #[.int .u8 0,.int .u32 0,.int .u32 0,.int .i64 0,.int .i64 0] 47 ?_;intro m hg ap hbox hb;have n_:=qn7 (Qfd (g:=j) (o:=.cells #[.int .u8 a,.int .u32 b,.int .u32 c,.int .i64 d,.int .i64 k] 47 (0,0)) qq_0 hb) (Qgi qq_b hb) (hbox) (qq_s hg:w.heap.size≤m) (qq_s hg:w.heap.size≤m) ((by rw[hg];exact Nat.ne_of_lt (Qen (g:=j) (o:=.cells #[.int .u8 a,.int .u32 b,.int .u32 c,.int .i64 d,.int .i64 k] 47 (0,0)) qq_0):j≠m)) ((by rw[hg];exact Nat.ne_of_gt (Qen (g:=j) (o:=.cells #[.int .u8 a,.int .u32 b,.int .u32 c,.int .i64 d,.int .i64 k] 47 (0,0)) qq_0):m≠j));clear l HB;obtain⟨l,HB,n,u,v,q,p⟩:=n_;clear hb hbox hg;have ah:=q.out;have ai:=p.out;obtain⟨L,M,O,P,T⟩:=qc5 l.out;have aj:=Qep l.out) |((with_reducible refine Qjs (f:=100) rfl ?_);refine Qhs (some 8) rfl rfl Tryz.func100 qq_7 rfl #[.agg #[.int .u8 a,.int .u32 b,.int .u32 c,.int .i64 d,.int .i64 k],.int .i64 a1] rfl qq_1 ?_;(with_reducible refine(Qda.calls a b c d k a1 false _ A3.out).mono ?_);rintro e aq ⟨rfl,hb⟩;refine⟨_,rfl,?_⟩;have n_:=qn3 (Qfd (g:=j) (o:=.cells #[.int .u8 a,.int .u32 b,.int .u32 c,.int .i64 d,.int .i64 k] 47 (0,0)) qq_0 hb) (Qfd (g:=m) (o:=.cells #[.int .u8 0,.int .u32 0,.int .u32 0,.int .i64 0,.int .i64 0] 47 (0,0)) qq_0 hb) (Qgi qq_b hb);clear l n HB;obtain⟨l,n,HB⟩:=n_;(try clear hb);(try clear hb2);(try clear hk);(try clear hi);obtain⟨U,W,X,Y,Z⟩:=qc5 n.out;have ak:=Qep n.out))
  refine bodyPost_ret (Qff rfl _ _ m 47 #[.int .u8 0,.int .u32 0,.int .u32 0,.int .i64 0,.int .i64 0] (0,0) _ rfl qq_x Tryz.underlying47 rfl qq_7) rfl ?_;exact⟨by first|rfl |(simp[Qjz,Qka]<;>rfl) |(simp[*,Qjz,Qka]<;>rfl),qq_b⟩
def Qab.f(a0:Int)(a1:Int):Option (Int × Int):=some (IntKind.u64.wrap ((IntKind.u64.wrap ((IntKind.u64.wrap ((a0/4294967296)*(a1/4294967296)))+((IntKind.u64.wrap ((IntKind.u64.wrap ((a0/4294967296)*(Go.bits .and .u64 a1 4294967295)))+((IntKind.u64.wrap ((Go.bits .and .u64 a0 4294967295)*(Go.bits .and .u64 a1 4294967295)))/4294967296)))/4294967296)))+((IntKind.u64.wrap ((Go.bits .and .u64 (IntKind.u64.wrap ((IntKind.u64.wrap ((a0/4294967296)*(Go.bits .and .u64 a1 4294967295)))+((IntKind.u64.wrap ((Go.bits .and .u64 a0 4294967295)*(Go.bits .and .u64 a1 4294967295)))/4294967296))) 4294967295)+(IntKind.u64.wrap ((Go.bits .and .u64 a0 4294967295)*(a1/4294967296)))))/4294967296)),IntKind.u64.wrap (a0*a1))
theorem Qab.calls(a0:Int)(a1:Int)(r1:Int)(r2:Int)(w:World)(h:Qab.f a0 a1=some (r1,r2)) :
  Calls Tryz.prog 218 #[.int .u64 a0,.int .u64 a1] w fun e w'=>e=.returned (.tuple #[.int .u64 r1,.int .u64 r2])∧Drawn0 w w':=by
 have H:(some (IntKind.u64.wrap ((IntKind.u64.wrap ((IntKind.u64.wrap ((a0/4294967296)*(a1/4294967296)))+((IntKind.u64.wrap ((IntKind.u64.wrap ((a0/4294967296)*(Go.bits .and .u64 a1 4294967295)))+((IntKind.u64.wrap ((Go.bits .and .u64 a0 4294967295)*(Go.bits .and .u64 a1 4294967295)))/4294967296)))/4294967296)))+((IntKind.u64.wrap ((Go.bits .and .u64 (IntKind.u64.wrap ((IntKind.u64.wrap ((a0/4294967296)*(Go.bits .and .u64 a1 4294967295)))+((IntKind.u64.wrap ((Go.bits .and .u64 a0 4294967295)*(Go.bits .and .u64 a1 4294967295)))/4294967296))) 4294967295)+(IntKind.u64.wrap ((Go.bits .and .u64 a0 4294967295)*(a1/4294967296)))))/4294967296)),IntKind.u64.wrap (a0*a1)))=some (r1,r2):=h;clear h;simp only[Option.some.injEq,Prod.mk.injEq]at H;obtain⟨rfl,rfl⟩:=H
 go_enter Tryz.func218,Tryz.ntmps218
 go_wp2
 go_ret2
 exact⟨by first|rfl |(simp;done) |(simp[*];done),by repeat(first|exact Drawn0.refl _|apply Drawn0.step)⟩
def Qaa.f(a0:Int)(a1:Int):Option (Int × Int):=(Qab.f a0 a1).bind fun bt114=>(some (bt114.1,bt114.2))
theorem Qaa.calls(a0:Int)(a1:Int)(r1:Int)(r2:Int)(w:World)(h:Qaa.f a0 a1=some (r1,r2)) :
  Calls Tryz.prog 168 #[.int .u64 a0,.int .u64 a1] w fun e w'=>e=.returned (.tuple #[.int .u64 r1,.int .u64 r2])∧Drawn0 w w':=by
 have H:((Qab.f a0 a1).bind fun bt114=>(some (bt114.1,bt114.2)))=some (r1,r2):=h;clear h;replace H:=Option.bind_eq_some_iff.mp H;obtain⟨⟨t114,t115⟩,A30,H⟩:=H;replace H:(some (t114,t115))=some (r1,r2):=H;have A3:=QA A30;clear A30;simp only[Option.some.injEq,Prod.mk.injEq]at H;obtain⟨rfl,rfl⟩:=H
 go_enter Tryz.func168,Tryz.ntmps168
 go_wp2_with (first |((with_reducible refine Qjs (f:=218) rfl ?_);refine Qhs (some 25) rfl rfl Tryz.func218 qq_7 rfl #[.int .u64 a0,.int .u64 a1] rfl qq_1 ?_;(with_reducible refine(Qab.calls a0 a1 t114 t115 _ A3.out).mono ?_);rintro e w' ⟨rfl,⟨nd,rfl⟩⟩;refine⟨_,rfl,?_⟩))
 go_ret2
 exact⟨by first|rfl |(simp;done) |(simp[*];done),by repeat(first|exact Drawn0.refl _|apply Drawn0.step)⟩
def Qai.f(a0:Int):Option (Bool):=some (a0 != a0)
theorem Qai.calls(a0:Int)(r:Bool)(w:World)(h:Qai.f a0=some r) :
  Calls Tryz.prog 216 #[.int .u32 a0] w fun e w'=>e=.returned (.bool r)∧Drawn0 w w':=by
 have H:(some (a0 != a0))=some r:=h;clear h;obtain rfl:=Option.some.inj H
 go_enter Tryz.func216,Tryz.ntmps216
 go_wp2;go_ret
 exact⟨by first|rfl |(simp;done) |(simp[*];done),by repeat(first|exact Drawn0.refl _|apply Drawn0.step)⟩
def Qaf.f(a0:Int)(a1:Int):Option (Int):=(Qai.f a0).bind fun t211=>((Qai.f a1).bind fun t212=>(if t211=true then(if t212=true then(some 0)else(some (-1)))else(if t212=true then(some 1)else(if a0<a1 then(some (-1))else(if a0 > a1 then(some 1)else(some 0))))))
theorem Qaf.calls(a0:Int)(a1:Int)(r:Int)(w:World)(h:Qaf.f a0 a1=some r) :
  Calls Tryz.prog 167 #[.int .u32 a0,.int .u32 a1] w fun e w'=>e=.returned (.int .i64 r)∧Drawn0 w w':=by
 have H:((Qai.f a0).bind fun b=>((Qai.f a1).bind fun a=>(if b=true then(if a=true then(some 0)else(some (-1)))else(if a=true then(some 1)else(if a0<a1 then(some (-1))else(if a0 > a1 then(some 1)else(some 0)))))))=some r:=h;clear h;replace H:=Option.bind_eq_some_iff.mp H;obtain⟨b,c,H⟩:=H;replace H:((Qai.f a1).bind fun a=>(if b=true then(if a=true then(some 0)else(some (-1)))else(if a=true then(some 1)else(if a0<a1 then(some (-1))else(if a0 > a1 then(some 1)else(some 0))))))=some r:=H;have A3:=QA c;clear c;replace H:=Option.bind_eq_some_iff.mp H;obtain⟨a,d,H⟩:=H;replace H:(if b=true then(if a=true then(some 0)else(some (-1)))else(if a=true then(some 1)else(if a0<a1 then(some (-1))else(if a0 > a1 then(some 1)else(some 0)))))=some r:=H;have A4:=QA d;clear d
 by_cases c5:b=true
 ·subst c5;have H1:(if a=true then(some 0)else(some (-1)))=some r:=by rw[if_pos rfl]at H;exact H
  clear H;have H:=H1;clear H1
  by_cases c6:a=true
  ·subst c6;have H1:(some 0)=some r:=by rw[if_pos rfl]at H;exact H
   clear H;have H:=H1;clear H1;obtain rfl:=Option.some.inj H
   go_enter Tryz.func167,Tryz.ntmps167
   go_wp2_with (first |((with_reducible refine Qjs (f:=216) rfl ?_);refine Qhs (some 8) rfl rfl Tryz.func216 qq_7 rfl #[.int .u32 a0] rfl qq_1 ?_;(with_reducible refine(Qai.calls a0 true _ A3.out).mono ?_);rintro e w' ⟨rfl,⟨nd,rfl⟩⟩;refine⟨_,rfl,?_⟩) |((with_reducible refine Qjs (f:=216) rfl ?_);refine Qhs (some 10) rfl rfl Tryz.func216 qq_7 rfl #[.int .u32 a1] rfl qq_1 ?_;(with_reducible refine(Qai.calls a1 true _ A4.out).mono ?_);rintro e w' ⟨rfl,⟨nd,rfl⟩⟩;refine⟨_,rfl,?_⟩))
   go_ret
   exact⟨by first|rfl |(simp;done) |(simp[*];done),by repeat(first|exact Drawn0.refl _|apply Drawn0.step)⟩
  ·replace c6:=Bool.eq_false_iff.mpr c6;subst c6;have H1:(some (-1))=some r:=by rw[if_neg (show ¬(false=true)by decide)]at H;exact H
   clear H;have H:=H1;clear H1;obtain rfl:=Option.some.inj H
   go_enter Tryz.func167,Tryz.ntmps167
   go_wp2_with (first |((with_reducible refine Qjs (f:=216) rfl ?_);refine Qhs (some 8) rfl rfl Tryz.func216 qq_7 rfl #[.int .u32 a0] rfl qq_1 ?_;(with_reducible refine(Qai.calls a0 true _ A3.out).mono ?_);rintro e w' ⟨rfl,⟨nd,rfl⟩⟩;refine⟨_,rfl,?_⟩) |((with_reducible refine Qjs (f:=216) rfl ?_);refine Qhs (some 10) rfl rfl Tryz.func216 qq_7 rfl #[.int .u32 a1] rfl qq_1 ?_;(with_reducible refine(Qai.calls a1 false _ A4.out).mono ?_);rintro e w' ⟨rfl,⟨nd,rfl⟩⟩;refine⟨_,rfl,?_⟩))
   go_ret
   exact⟨by first|rfl |(simp;done) |(simp[*];done),by repeat(first|exact Drawn0.refl _|apply Drawn0.step)⟩
 ·replace c5:=Bool.eq_false_iff.mpr c5;subst c5;have H1:(if a=true then(some 1)else(if a0<a1 then(some (-1))else(if a0 > a1 then(some 1)else(some 0))))=some r:=by rw[if_neg (show ¬(false=true)by decide)]at H;exact H
  clear H;have H:=H1;clear H1
  by_cases c7:a=true
  ·subst c7;have H1:(some 1)=some r:=by rw[if_pos rfl]at H;exact H
   clear H;have H:=H1;clear H1;obtain rfl:=Option.some.inj H
   go_enter Tryz.func167,Tryz.ntmps167
   go_wp2_with (first |((with_reducible refine Qjs (f:=216) rfl ?_);refine Qhs (some 8) rfl rfl Tryz.func216 qq_7 rfl #[.int .u32 a0] rfl qq_1 ?_;(with_reducible refine(Qai.calls a0 false _ A3.out).mono ?_);rintro e w' ⟨rfl,⟨nd,rfl⟩⟩;refine⟨_,rfl,?_⟩) |((with_reducible refine Qjs (f:=216) rfl ?_);refine Qhs (some 10) rfl rfl Tryz.func216 qq_7 rfl #[.int .u32 a1] rfl qq_1 ?_;(with_reducible refine(Qai.calls a1 true _ A4.out).mono ?_);rintro e w' ⟨rfl,⟨nd,rfl⟩⟩;refine⟨_,rfl,?_⟩))
   go_ret
   exact⟨by first|rfl |(simp;done) |(simp[*];done),by repeat(first|exact Drawn0.refl _|apply Drawn0.step)⟩
  ·replace c7:=Bool.eq_false_iff.mpr c7;subst c7;have H1:(if a0<a1 then(some (-1))else(if a0 > a1 then(some 1)else(some 0)))=some r:=by rw[if_neg (show ¬(false=true)by decide)]at H;exact H
   clear H;have H:=H1;clear H1
   by_cases c8:a0<a1
   ·rw[if_pos c8]at H;have g:decide (a0<a1)=true:=decide_eq_true c8;clear c8;obtain rfl:=Option.some.inj H
    go_enter Tryz.func167,Tryz.ntmps167
    go_wp2_with (first |((with_reducible refine Qjs (f:=216) rfl ?_);refine Qhs (some 8) rfl rfl Tryz.func216 qq_7 rfl #[.int .u32 a0] rfl qq_1 ?_;(with_reducible refine(Qai.calls a0 false _ A3.out).mono ?_);rintro e w' ⟨rfl,⟨nd,rfl⟩⟩;refine⟨_,rfl,?_⟩) |((with_reducible refine Qjs (f:=216) rfl ?_);refine Qhs (some 10) rfl rfl Tryz.func216 qq_7 rfl #[.int .u32 a1] rfl qq_1 ?_;(with_reducible refine(Qai.calls a1 false _ A4.out).mono ?_);rintro e w' ⟨rfl,⟨nd,rfl⟩⟩;refine⟨_,rfl,?_⟩))
    go_ret
    exact⟨by first|rfl |(simp;done) |(simp[*];done),by repeat(first|exact Drawn0.refl _|apply Drawn0.step)⟩
   ·rw[if_neg c8]at H;have g:decide (a0<a1)=false:=decide_eq_false c8;clear c8
    by_cases c9:a0 > a1
    ·rw[if_pos c9]at H;have j:decide (a1<a0)=true:=decide_eq_true c9;clear c9;obtain rfl:=Option.some.inj H
     go_enter Tryz.func167,Tryz.ntmps167
     go_wp2_with (first |((with_reducible refine Qjs (f:=216) rfl ?_);refine Qhs (some 8) rfl rfl Tryz.func216 qq_7 rfl #[.int .u32 a0] rfl qq_1 ?_;(with_reducible refine(Qai.calls a0 false _ A3.out).mono ?_);rintro e w' ⟨rfl,⟨nd,rfl⟩⟩;refine⟨_,rfl,?_⟩) |((with_reducible refine Qjs (f:=216) rfl ?_);refine Qhs (some 10) rfl rfl Tryz.func216 qq_7 rfl #[.int .u32 a1] rfl qq_1 ?_;(with_reducible refine(Qai.calls a1 false _ A4.out).mono ?_);rintro e w' ⟨rfl,⟨nd,rfl⟩⟩;refine⟨_,rfl,?_⟩))
     go_ret
     exact⟨by first|rfl |(simp;done) |(simp[*];done),by repeat(first|exact Drawn0.refl _|apply Drawn0.step)⟩
    ·rw[if_neg c9]at H;have j:decide (a1<a0)=false:=decide_eq_false c9;clear c9;obtain rfl:=Option.some.inj H
     go_enter Tryz.func167,Tryz.ntmps167
     go_wp2_with (first |((with_reducible refine Qjs (f:=216) rfl ?_);refine Qhs (some 8) rfl rfl Tryz.func216 qq_7 rfl #[.int .u32 a0] rfl qq_1 ?_;(with_reducible refine(Qai.calls a0 false _ A3.out).mono ?_);rintro e w' ⟨rfl,⟨nd,rfl⟩⟩;refine⟨_,rfl,?_⟩) |((with_reducible refine Qjs (f:=216) rfl ?_);refine Qhs (some 10) rfl rfl Tryz.func216 qq_7 rfl #[.int .u32 a1] rfl qq_1 ?_;(with_reducible refine(Qai.calls a1 false _ A4.out).mono ?_);rintro e w' ⟨rfl,⟨nd,rfl⟩⟩;refine⟨_,rfl,?_⟩))
     go_ret
     exact⟨by first|rfl |(simp;done) |(simp[*];done),by repeat(first|exact Drawn0.refl _|apply Drawn0.step)⟩
def Qag.f(a0:Int)(a1:Int):Option (Int):=(Qaj.f a0).bind fun t209=>((Qaj.f a1).bind fun t210=>(if t209=true then(if t210=true then(some 0)else(some (-1)))else(if t210=true then(some 1)else(if a0<a1 then(some (-1))else(if a0 > a1 then(some 1)else(some 0))))))
theorem Qag.calls(a0:Int)(a1:Int)(r:Int)(w:World)(h:Qag.f a0 a1=some r) :
  Calls Tryz.prog 166 #[.int .u64 a0,.int .u64 a1] w fun e w'=>e=.returned (.int .i64 r)∧Drawn0 w w':=by
 have H:((Qaj.f a0).bind fun b=>((Qaj.f a1).bind fun a=>(if b=true then(if a=true then(some 0)else(some (-1)))else(if a=true then(some 1)else(if a0<a1 then(some (-1))else(if a0 > a1 then(some 1)else(some 0)))))))=some r:=h;clear h;replace H:=Option.bind_eq_some_iff.mp H;obtain⟨b,c,H⟩:=H;replace H:((Qaj.f a1).bind fun a=>(if b=true then(if a=true then(some 0)else(some (-1)))else(if a=true then(some 1)else(if a0<a1 then(some (-1))else(if a0 > a1 then(some 1)else(some 0))))))=some r:=H;have A3:=QA c;clear c;replace H:=Option.bind_eq_some_iff.mp H;obtain⟨a,d,H⟩:=H;replace H:(if b=true then(if a=true then(some 0)else(some (-1)))else(if a=true then(some 1)else(if a0<a1 then(some (-1))else(if a0 > a1 then(some 1)else(some 0)))))=some r:=H;have A4:=QA d;clear d
 by_cases c5:b=true
 ·subst c5;have H1:(if a=true then(some 0)else(some (-1)))=some r:=by rw[if_pos rfl]at H;exact H
  clear H;have H:=H1;clear H1
  by_cases c6:a=true
  ·subst c6;have H1:(some 0)=some r:=by rw[if_pos rfl]at H;exact H
   clear H;have H:=H1;clear H1;obtain rfl:=Option.some.inj H
   go_enter Tryz.func166,Tryz.ntmps166
   go_wp2_with (first |((with_reducible refine Qjs (f:=215) rfl ?_);refine Qhs (some 8) rfl rfl Tryz.func215 qq_7 rfl #[.int .u64 a0] rfl qq_1 ?_;(with_reducible refine(Qaj.calls a0 true _ A3.out).mono ?_);rintro e w' ⟨rfl,⟨nd,rfl⟩⟩;refine⟨_,rfl,?_⟩) |((with_reducible refine Qjs (f:=215) rfl ?_);refine Qhs (some 10) rfl rfl Tryz.func215 qq_7 rfl #[.int .u64 a1] rfl qq_1 ?_;(with_reducible refine(Qaj.calls a1 true _ A4.out).mono ?_);rintro e w' ⟨rfl,⟨nd,rfl⟩⟩;refine⟨_,rfl,?_⟩))
   go_ret
   exact⟨by first|rfl |(simp;done) |(simp[*];done),by repeat(first|exact Drawn0.refl _|apply Drawn0.step)⟩
  ·replace c6:=Bool.eq_false_iff.mpr c6;subst c6;have H1:(some (-1))=some r:=by rw[if_neg (show ¬(false=true)by decide)]at H;exact H
   clear H;have H:=H1;clear H1;obtain rfl:=Option.some.inj H
   go_enter Tryz.func166,Tryz.ntmps166
   go_wp2_with (first |((with_reducible refine Qjs (f:=215) rfl ?_);refine Qhs (some 8) rfl rfl Tryz.func215 qq_7 rfl #[.int .u64 a0] rfl qq_1 ?_;(with_reducible refine(Qaj.calls a0 true _ A3.out).mono ?_);rintro e w' ⟨rfl,⟨nd,rfl⟩⟩;refine⟨_,rfl,?_⟩) |((with_reducible refine Qjs (f:=215) rfl ?_);refine Qhs (some 10) rfl rfl Tryz.func215 qq_7 rfl #[.int .u64 a1] rfl qq_1 ?_;(with_reducible refine(Qaj.calls a1 false _ A4.out).mono ?_);rintro e w' ⟨rfl,⟨nd,rfl⟩⟩;refine⟨_,rfl,?_⟩))
   go_ret
   exact⟨by first|rfl |(simp;done) |(simp[*];done),by repeat(first|exact Drawn0.refl _|apply Drawn0.step)⟩
 ·replace c5:=Bool.eq_false_iff.mpr c5;subst c5;have H1:(if a=true then(some 1)else(if a0<a1 then(some (-1))else(if a0 > a1 then(some 1)else(some 0))))=some r:=by rw[if_neg (show ¬(false=true)by decide)]at H;exact H
  clear H;have H:=H1;clear H1
  by_cases c7:a=true
  ·subst c7;have H1:(some 1)=some r:=by rw[if_pos rfl]at H;exact H
   clear H;have H:=H1;clear H1;obtain rfl:=Option.some.inj H
   go_enter Tryz.func166,Tryz.ntmps166
   go_wp2_with (first |((with_reducible refine Qjs (f:=215) rfl ?_);refine Qhs (some 8) rfl rfl Tryz.func215 qq_7 rfl #[.int .u64 a0] rfl qq_1 ?_;(with_reducible refine(Qaj.calls a0 false _ A3.out).mono ?_);rintro e w' ⟨rfl,⟨nd,rfl⟩⟩;refine⟨_,rfl,?_⟩) |((with_reducible refine Qjs (f:=215) rfl ?_);refine Qhs (some 10) rfl rfl Tryz.func215 qq_7 rfl #[.int .u64 a1] rfl qq_1 ?_;(with_reducible refine(Qaj.calls a1 true _ A4.out).mono ?_);rintro e w' ⟨rfl,⟨nd,rfl⟩⟩;refine⟨_,rfl,?_⟩))
   go_ret
   exact⟨by first|rfl |(simp;done) |(simp[*];done),by repeat(first|exact Drawn0.refl _|apply Drawn0.step)⟩
  ·replace c7:=Bool.eq_false_iff.mpr c7;subst c7;have H1:(if a0<a1 then(some (-1))else(if a0 > a1 then(some 1)else(some 0)))=some r:=by rw[if_neg (show ¬(false=true)by decide)]at H;exact H
   clear H;have H:=H1;clear H1
   by_cases c8:a0<a1
   ·rw[if_pos c8]at H;have g:decide (a0<a1)=true:=decide_eq_true c8;clear c8;obtain rfl:=Option.some.inj H
    go_enter Tryz.func166,Tryz.ntmps166
    go_wp2_with (first |((with_reducible refine Qjs (f:=215) rfl ?_);refine Qhs (some 8) rfl rfl Tryz.func215 qq_7 rfl #[.int .u64 a0] rfl qq_1 ?_;(with_reducible refine(Qaj.calls a0 false _ A3.out).mono ?_);rintro e w' ⟨rfl,⟨nd,rfl⟩⟩;refine⟨_,rfl,?_⟩) |((with_reducible refine Qjs (f:=215) rfl ?_);refine Qhs (some 10) rfl rfl Tryz.func215 qq_7 rfl #[.int .u64 a1] rfl qq_1 ?_;(with_reducible refine(Qaj.calls a1 false _ A4.out).mono ?_);rintro e w' ⟨rfl,⟨nd,rfl⟩⟩;refine⟨_,rfl,?_⟩))
    go_ret
    exact⟨by first|rfl |(simp;done) |(simp[*];done),by repeat(first|exact Drawn0.refl _|apply Drawn0.step)⟩
   ·rw[if_neg c8]at H;have g:decide (a0<a1)=false:=decide_eq_false c8;clear c8
    by_cases c9:a0 > a1
    ·rw[if_pos c9]at H;have j:decide (a1<a0)=true:=decide_eq_true c9;clear c9;obtain rfl:=Option.some.inj H
     go_enter Tryz.func166,Tryz.ntmps166
     go_wp2_with (first |((with_reducible refine Qjs (f:=215) rfl ?_);refine Qhs (some 8) rfl rfl Tryz.func215 qq_7 rfl #[.int .u64 a0] rfl qq_1 ?_;(with_reducible refine(Qaj.calls a0 false _ A3.out).mono ?_);rintro e w' ⟨rfl,⟨nd,rfl⟩⟩;refine⟨_,rfl,?_⟩) |((with_reducible refine Qjs (f:=215) rfl ?_);refine Qhs (some 10) rfl rfl Tryz.func215 qq_7 rfl #[.int .u64 a1] rfl qq_1 ?_;(with_reducible refine(Qaj.calls a1 false _ A4.out).mono ?_);rintro e w' ⟨rfl,⟨nd,rfl⟩⟩;refine⟨_,rfl,?_⟩))
     go_ret
     exact⟨by first|rfl |(simp;done) |(simp[*];done),by repeat(first|exact Drawn0.refl _|apply Drawn0.step)⟩
    ·rw[if_neg c9]at H;have j:decide (a1<a0)=false:=decide_eq_false c9;clear c9;obtain rfl:=Option.some.inj H
     go_enter Tryz.func166,Tryz.ntmps166
     go_wp2_with (first |((with_reducible refine Qjs (f:=215) rfl ?_);refine Qhs (some 8) rfl rfl Tryz.func215 qq_7 rfl #[.int .u64 a0] rfl qq_1 ?_;(with_reducible refine(Qaj.calls a0 false _ A3.out).mono ?_);rintro e w' ⟨rfl,⟨nd,rfl⟩⟩;refine⟨_,rfl,?_⟩) |((with_reducible refine Qjs (f:=215) rfl ?_);refine Qhs (some 10) rfl rfl Tryz.func215 qq_7 rfl #[.int .u64 a1] rfl qq_1 ?_;(with_reducible refine(Qaj.calls a1 false _ A4.out).mono ?_);rintro e w' ⟨rfl,⟨nd,rfl⟩⟩;refine⟨_,rfl,?_⟩))
     go_ret
     exact⟨by first|rfl |(simp;done) |(simp[*];done),by repeat(first|exact Drawn0.refl _|apply Drawn0.step)⟩
def Qah.l0:Nat→Int→List Int→Int→Int→Option (Int)
 | 0,_,_,_,_=>none
 | k+1,x3,x6,x7,x8=>if x8<x7 then(if 0≤x8 then(if x8<(x6.length:Int)then(if(rd x6 x8)=x3 then(Qah.l0 k x3 x6 x7 (wrap64 (x8+1)))else(some (rd x6 x8)))else(none))else(none))else(some x3)
def Qah.f(k:Nat)(l0:List Int):Option (Int):=Qah.l0 k 0 l0 (l0.length:Int) 0
theorem Qah.mono_l:∀k,(∀y0 y1 y2 y3,LeO (Qah.l0 k y0 y1 y2 y3) (Qah.l0 (k+1) y0 y1 y2 y3))
 | 0=>fun _ _ _ _ r h=>by simp[Qah.l0]at h
 | k+1=>by
  have ih0:=Qah.mono_l k
  ·intro y0 y1 y2 y3;unfold Qah.l0
   repeat' first
   |(with_reducible exact ih0 _ _ _ _)
   |(with_reducible exact LeO.refl _)
   |(with_reducible exact LeO.none _)
   |(with_reducible refine LeO.ite ?_ ?_)
   |(with_reducible refine LeO.bind ?_ (fun _=>?_))
   | exact ih0 _ _ _ _
   | exact LeO.none _
   | refine LeO.ite ?_ ?_
   | refine LeO.bind ?_ (fun _=>?_)
theorem Qah.mono:∀a0 k,LeO (Qah.f k a0) (Qah.f (k+1) a0):=by
 intro a0 k;have ih0:=Qah.mono_l k;unfold Qah.f
 repeat' first
   |(with_reducible exact ih0 _ _ _ _)
   |(with_reducible exact LeO.refl _)
   |(with_reducible exact LeO.none _)
   |(with_reducible refine LeO.ite ?_ ?_)
   |(with_reducible refine LeO.bind ?_ (fun _=>?_))
   | exact ih0 _ _ _ _
   | exact LeO.none _
   | refine LeO.ite ?_ ?_
   | refine LeO.bind ?_ (fun _=>?_)
theorem Qah.calls(k:Nat)(A0:Option Addr)(c0:Nat)(l0:List Int)(r:Int)(w:World)(hr0:Kd.C (Kd.int .i64) w A0 l0.length l0)(hc0:l0.length≤c0)(h:Qah.f k l0=some r) :
  Calls Tryz.prog 165 #[.slice A0 l0.length c0] w fun e w'=>e=.returned (.int .i64 r)∧Drawn0 w w':=by
 have j:=QA hr0;have q:=QA hc0;clear hr0 hc0;have H:(Qah.l0 k 0 l0 (l0.length:Int) 0)=some r:=h;clear h;have H':=QA H;clear H
 go_enter Tryz.func165,Tryz.ntmps165
 go_wp2
 go_loopg [8] k (fun kq v8 w'=>∃(x8_1:Int),v8=.int .i64 x8_1∧Aside0 (Qah.l0 kq 0 l0 (l0.length:Int) x8_1=some r)∧Aside0 (kq≤k)∧Drawn0 w w')
 case atStart=>exact⟨(0),qq_8,H',⟨Nat.le_refl _⟩,by repeat(first|exact Drawn0.refl _|apply Drawn0.step)⟩
 case round =>
  clear H';obtain⟨x8_1,rfl,HA,HK1,⟨m1,rfl⟩⟩:=hrel
  cases gk with
  | zero=>exact absurd HA.out (by simp[Qah.l0])
  | succ k1 =>
   have H:=HA.out;clear HA;simp only[Qah.l0]at H
   by_cases c2:x8_1<(l0.length:Int)
   ·rw [if_pos c2]at H;have l:decide (x8_1<(l0.length:Int))=true:=decide_eq_true c2;clear c2
    by_cases c3:0≤x8_1
    ·rw[if_pos c3]at H;have o:decide (0≤x8_1)=true:=decide_eq_true c3;clear c3
     by_cases c4:x8_1<(l0.length:Int)
     ·rw[if_pos c4]at H;have p:decide (x8_1<(l0.length:Int))=true:=decide_eq_true c4;clear c4
      by_cases c5:(rd l0 x8_1)=0
      ·rw[if_pos c5]at H;have m:((rd l0 x8_1) == 0)=true:=beq_iff_eq.mpr c5;have n:((rd l0 x8_1) != 0)=false:=bne_eq_false_iff_eq.mpr c5;clear c5;have H':=QA H;clear H;have a:0≤(x8_1:Int):=of_decide_eq_true qq_6;have b:x8_1<(l0.length:Int):=of_decide_eq_true qq_6;obtain⟨g,c,d⟩:=Kd.at_int j.out x8_1 a b
       cases c
       replace a:=eq_true a;replace b:=eq_true b;go_wp2
       go_roundg k1
       case measure=>have:=HK1.out;omega
       case rel=>exact⟨(wrap64 (x8_1+1)),qq_8,H',⟨by have:=HK1.out;omega⟩,by repeat(first|exact Drawn0.refl _|apply Drawn0.step)⟩
      ·rw[if_neg c5]at H;have m:((rd l0 x8_1) == 0)=false:=beq_eq_false_iff_ne.mpr c5;have n:((rd l0 x8_1) != 0)=true:=bne_iff_ne.mpr c5;obtain rfl:=Option.some.inj H;have a:0≤(x8_1:Int):=of_decide_eq_true qq_6;have b:x8_1<(l0.length:Int):=of_decide_eq_true qq_6;obtain⟨g,c,d⟩:=Kd.at_int j.out x8_1 a b
       cases c
       replace a:=eq_true a;replace b:=eq_true b;go_wp2;go_ret
       exact⟨by first|rfl |(simp;done) |(simp[*];done),by repeat(first|exact Drawn0.refl _|apply Drawn0.step)⟩
     ·rw[if_neg c4]at H;exact absurd H (by simp)
    ·rw[if_neg c3]at H;exact absurd H (by simp)
   ·rw[if_neg c2]at H;have l:decide (x8_1<(l0.length:Int))=false:=decide_eq_false c2;clear c2;obtain rfl:=Option.some.inj H;go_wp2;go_ret
    exact⟨by first|rfl |(simp;done) |(simp[*];done),by repeat(first|exact Drawn0.refl _|apply Drawn0.step)⟩
mutual
def Qdg.l0:Nat→List (S39)→List (S39)→Int→Int→Option (Int)
 | 0,_,_,_,_=>none
 | k+1,x0,x7,x8,x9=>if x9<x8 then(if 0≤x9 then(if x9<(x7.length:Int)then((Qdf.f k ((Qki x7 x9).f0) ((Qki x7 x9).f1) ((Qki x7 x9).f2) ((Qki x7 x9).f3)).bind fun t147=>(if t147=0 then(Qdg.l0 k x0 x7 x8 (wrap64 (x9+1)))else(some t147)))else(none))else(none))else(Qdg.l1 k x0 1)
def Qdg.l1:Nat→List (S39)→Int→Option (Int)
 | 0,_,_=>none
 | k+1,x0,x6=>if x6<(x0.length:Int)then(if 0≤x6 then(if 0≤(wrap64 (x6-1))then(if(wrap64 (x6-1))<(x0.length:Int)then(if((Qki x0 x6).f1)≤((Qki x0 (wrap64 (x6-1))).f1)then(some 8)else(Qdg.l1 k x0 (wrap64 (x6+1))))else(none))else(none))else(none))else(some 0)
end
def Qdg.f(k:Nat)(l0:List (S39)):Option (Int):=Qdg.l0 k l0 l0 (l0.length:Int) 0
theorem Qdg.calls (k:Nat) (A0:Option Addr) (c0:Nat) (l0:List (S39)) (r:Int) (w:World) (hr0:Kd.C k39 w A0 l0.length l0) (hc0:l0.length≤c0) (h:Qdg.f k l0=some r) :
  Calls Tryz.prog 124 #[.slice A0 l0.length c0] w fun e w'=>e=.returned (.int .i64 r)∧Below w.heap.size w w':=by
 have hu39:=Tryz.underlying39;have L:=QA hr0;have aC:=QA hc0;clear hr0 hc0;have HB:=QA (Below.refl w.heap.size w);have H:(Qdg.l0 k l0 l0 (l0.length:Int) 0)=some r:=h;clear h;have H':=QA H;clear H
 go_enter Tryz.func124,Tryz.ntmps124
 go_wp2
 repeat(go_quiet (fail);try go_wp2)
 go_loopg [9] k (fun kq v9 w'=>∃(a:Int),v9=.int .i64 a∧Aside0 (Qdg.l0 kq l0 l0 (l0.length:Int) a=some r)∧Aside0 (kq≤k)∧Aside0 (Below w.heap.size w w'))
 case atStart=>exact⟨(0),qq_8,H',⟨Nat.le_refl _⟩,⟨qq_b⟩⟩
 case round =>
  clear H';obtain⟨a,rfl,HA,HK1,HB⟩:=hrel
  cases gk with
  | zero=>exact absurd HA.out (by simp[Qdg.l0])
  | succ k1 =>
   have H:=HA.out;clear HA;simp only[Qdg.l0]at H
   by_cases c2:a<(l0.length:Int)
   ·rw [if_pos c2]at H;have af:decide (a<(l0.length:Int))=true:=decide_eq_true c2;clear c2
    by_cases c3:0≤a
    ·rw[if_pos c3]at H;have av:decide (0≤a)=true:=decide_eq_true c3;clear c3
     by_cases c4:a<(l0.length:Int)
     ·rw[if_pos c4]at H;have aw:decide (a<(l0.length:Int))=true:=decide_eq_true c4;clear c4;replace H:=Option.bind_eq_some_iff.mp H;obtain⟨z,au,H⟩:=H;replace H:(if z=0 then(Qdg.l0 k1 l0 l0 (l0.length:Int) (wrap64 (a+1)))else(some z))=some r:=H;have A5:=QA au;clear au
      by_cases c6:z=0
      ·rw[if_pos c6]at H;have ag:(z == 0)=true:=beq_iff_eq.mpr c6;have ah:(z != 0)=false:=bne_eq_false_iff_eq.mpr c6;clear c6;have H':=QA H;clear H;have B:0≤(a:Int):=of_decide_eq_true qq_6;have D:a<(l0.length:Int):=of_decide_eq_true qq_6;obtain⟨am,U,j,l,m,n⟩:=Qkj L.out a B D
       cases U
       replace j:=qq_h HB.out j;replace l:=qq_h HB.out l;replace m:=qq_h HB.out m;replace n:=qq_h HB.out n;replace B:=eq_true B;replace D:=eq_true D
       go_wp2_with (first |((with_reducible refine Qgt (N:=4) rfl ?_);refine qq_e 4 #[.bool false,.int .u64 0,.string (⟨#[]⟩:ByteArray),.string (⟨#[]⟩:ByteArray)] 39 ?_;intro A hg w7 hbox hb;have n_:=qn4 (Qgi qq_b hb) (hbox) (qq_s hg:w.heap.size≤A) (qq_s hg:w.heap.size≤A);clear HB;obtain⟨HB,d,an,ao⟩:=n_;clear hb hbox hg;obtain⟨ai,aj,ak,al⟩:=qc4 d.out;have ax:=Qep d.out) |(go_at_call 56;(with_reducible refine(Qdf.calls k1 ((Qki l0 a).f0) ((Qki l0 a).f1) ((Qki l0 a).f2) ((Qki l0 a).f3) z _ A5.out).mono ?_);rintro e w9 ⟨rfl,hb⟩;have n_:=qn2 (Qfd (g:=A) (o:=.cells #[.bool ((Qki l0 a).f0),.int .u64 ((Qki l0 a).f1),.string ((Qki l0 a).f2),.string ((Qki l0 a).f3)] 39 (0,0)) qq_x hb) (Qgi qq_b hb);clear d HB;obtain⟨d,HB⟩:=n_;(try clear hb);(try clear hb2);(try clear hk);(try clear hi)))
       go_roundg k1
       case measure=>have:=HK1.out;omega
       case rel=>exact⟨(wrap64 (a+1)),qq_8,H',⟨by have:=HK1.out;omega⟩,⟨qq_b⟩⟩
      ·rw[if_neg c6]at H;have ag:(z == 0)=false:=beq_eq_false_iff_ne.mpr c6;have ah:(z != 0)=true:=bne_iff_ne.mpr c6;obtain rfl:=Option.some.inj H;have B:0≤(a:Int):=of_decide_eq_true qq_6;have D:a<(l0.length:Int):=of_decide_eq_true qq_6;obtain⟨am,U,j,l,m,n⟩:=Qkj L.out a B D
       cases U
       replace j:=qq_h HB.out j;replace l:=qq_h HB.out l;replace m:=qq_h HB.out m;replace n:=qq_h HB.out n;replace B:=eq_true B;replace D:=eq_true D
       go_wp2_with (first |((with_reducible refine Qgt (N:=4) rfl ?_);refine qq_e 4 #[.bool false,.int .u64 0,.string (⟨#[]⟩:ByteArray),.string (⟨#[]⟩:ByteArray)] 39 ?_;intro A hg aD hbox hb;have n_:=qn4 (Qgi qq_b hb) (hbox) (qq_s hg:w.heap.size≤A) (qq_s hg:w.heap.size≤A);clear HB;obtain⟨HB,d,an,ao⟩:=n_;clear hb hbox hg;obtain⟨ab,ac,ad,ae⟩:=qc4 d.out;have ap:=Qep d.out) |(go_at_call 56;(with_reducible refine(Qdf.calls k1 ((Qki l0 a).f0) ((Qki l0 a).f1) ((Qki l0 a).f2) ((Qki l0 a).f3) z _ A5.out).mono ?_);rintro e aE ⟨rfl,hb⟩;have n_:=qn2 (Qfd (g:=A) (o:=.cells #[.bool ((Qki l0 a).f0),.int .u64 ((Qki l0 a).f1),.string ((Qki l0 a).f2),.string ((Qki l0 a).f3)] 39 (0,0)) qq_x hb) (Qgi qq_b hb);clear d HB;obtain⟨d,HB⟩:=n_;(try clear hb);(try clear hb2);(try clear hk);(try clear hi)))
       go_ret
       exact⟨by first|rfl |(simp[Qjz,Qka]<;>rfl) |(simp[*,Qjz,Qka]<;>rfl),qq_b⟩
     ·rw[if_neg c4]at H;exact absurd H (by simp)
    ·rw[if_neg c3]at H;exact absurd H (by simp)
   ·rw [if_neg c2]at H;have af:decide (a<(l0.length:Int))=false:=decide_eq_false c2;clear c2;have H':=QA H;clear H;go_wp2
    repeat(go_quiet (fail);try go_wp2)
    go_loopg [6] k1 (fun kq v6 w'=>∃(b:Int),v6=.int .i64 b∧Aside0 (Qdg.l1 kq l0 b=some r)∧Aside0 (kq≤k1)∧Aside0 (Below w.heap.size w w'))
    case atStart=>exact⟨(1),qq_8,H',⟨Nat.le_refl _⟩,⟨qq_b⟩⟩
    case round =>
     clear H'
     try clear c2
     try clear af
     try clear c3
     try clear av
     try clear c4
     try clear aw
     try clear c6
     try clear ag
     try clear ah
     try clear ab
     try clear ac
     try clear ad
     try clear ae
     try clear ai
     try clear aj
     try clear ak
     try clear al
     try clear ap
     try clear ax
     try clear j
     try clear l
     try clear m
     try clear n
     try clear B
     try clear D
     obtain⟨b,rfl,HA,HK2,HB⟩:=hrel
     cases gk with
     | zero=>exact absurd HA.out (by simp[Qdg.l1])
     | succ k2 =>
      have H:=HA.out;clear HA;simp only[Qdg.l1]at H
      by_cases M:b<(l0.length:Int)
      ·rw [if_pos M]at H;have aq:decide (b<(l0.length:Int))=true:=decide_eq_true M;clear M
       by_cases Y:0≤b
       ·rw [if_pos Y]at H;have az:decide (0≤b)=true:=decide_eq_true Y;clear Y;obtain⟨c,K⟩:∃j_:Int,(wrap64 (b-1))=j_:=⟨_,rfl⟩;replace H:(if 0≤(c)then(if(c)<(l0.length:Int)then(if((Qki l0 b).f1)≤((Qki l0 (c)).f1)then(some 8)else(Qdg.l1 k2 l0 (wrap64 (b+1))))else(none))else(none))=some r:=by first |(rw[K]at H;exact H) |(simp only[K]at H ⊢;exact H)
        have ay:(IntKind.i64.wrap (b-1))=c:=(Qhv _).trans K
        by_cases Z:0≤(c)
        ·rw[if_pos Z]at H;have aA:decide (0≤(c))=true:=decide_eq_true Z;clear Z
         by_cases aa:(c)<(l0.length:Int)
         ·rw[if_pos aa]at H;have aB:decide ((c)<(l0.length:Int))=true:=decide_eq_true aa;clear aa
          by_cases O:((Qki l0 b).f1)≤((Qki l0 (c)).f1)
          ·rw[if_pos O]at H;have ar:decide (((Qki l0 b).f1)≤((Qki l0 (c)).f1))=true:=decide_eq_true O;clear O;obtain rfl:=Option.some.inj H;have E:0≤(b:Int):=of_decide_eq_true qq_6;have G:b<(l0.length:Int):=of_decide_eq_true qq_6;obtain⟨P,W,p,q,s,t⟩:=Qkj L.out b E G
           cases W
           replace p:=qq_h HB.out p;replace q:=qq_h HB.out q;replace s:=qq_h HB.out s;replace t:=qq_h HB.out t;replace E:=eq_true E;replace G:=eq_true G;have I:0≤((c):Int):=of_decide_eq_true qq_6;have J:(c)<(l0.length:Int):=of_decide_eq_true qq_6;obtain⟨T,X,u,v,x,y⟩:=Qkj L.out (c) I J;obtain rfl:P=T:=(by injection X);replace u:=qq_h HB.out u;replace v:=qq_h HB.out v;replace x:=qq_h HB.out x;replace y:=qq_h HB.out y;replace I:=eq_true I;replace J:=eq_true J;go_wp2
           repeat(go_quiet (fail);try go_wp2)
           go_ret
           exact⟨by first|rfl |(simp[Qjz,Qka]<;>rfl) |(simp only[← K];first|rfl |(simp[Qjz,Qka]<;>rfl)) |(simp[*,Qjz,Qka]<;>rfl),qq_b⟩
          ·rw[if_neg O]at H;have ar:decide (((Qki l0 b).f1)≤((Qki l0 (c)).f1))=false:=decide_eq_false O;clear O;have H':=QA H;clear H;have E:0≤(b:Int):=of_decide_eq_true qq_6;have G:b<(l0.length:Int):=of_decide_eq_true qq_6;obtain⟨P,W,p,q,s,t⟩:=Qkj L.out b E G
           cases W
           replace p:=qq_h HB.out p;replace q:=qq_h HB.out q;replace s:=qq_h HB.out s;replace t:=qq_h HB.out t;replace E:=eq_true E;replace G:=eq_true G;have I:0≤((c):Int):=of_decide_eq_true qq_6;have J:(c)<(l0.length:Int):=of_decide_eq_true qq_6;obtain⟨T,X,u,v,x,y⟩:=Qkj L.out (c) I J;obtain rfl:P=T:=(by injection X);replace u:=qq_h HB.out u;replace v:=qq_h HB.out v;replace x:=qq_h HB.out x;replace y:=qq_h HB.out y;replace I:=eq_true I;replace J:=eq_true J;go_wp2
           repeat(go_quiet (fail);try go_wp2)
           go_roundg k2
           case measure=>have:=HK1.out;have:=HK2.out;omega
           case rel=>exact⟨(wrap64 (b+1)),qq_8,H',⟨by have:=HK1.out;have:=HK2.out;omega⟩,⟨qq_b⟩⟩
         ·rw[if_neg aa]at H;exact absurd H (by simp)
        ·rw[if_neg Z]at H;exact absurd H (by simp)
       ·rw[if_neg Y]at H;exact absurd H (by simp)
      ·rw[if_neg M]at H;have aq:decide (b<(l0.length:Int))=false:=decide_eq_false M;clear M;obtain rfl:=Option.some.inj H;go_wp2
       repeat(go_quiet (fail);try go_wp2)
       go_ret
       exact⟨by first|rfl |(simp[Qjz,Qka]<;>rfl) |(simp[*,Qjz,Qka]<;>rfl),qq_b⟩
end Go.Proofs.YtnnofopfbeklbaaGreat.C
end
