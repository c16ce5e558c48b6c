/- Merged texts. -/
import Derived.Test.YteaocbonofboeaaGreatMC02
set_option linter.unusedVariables false
set_option linter.unusedSimpArgs false
set_option maxHeartbeats 8000000
set_option maxRecDepth 100000
section
namespace Go.Proofs.YteaocbonofboeaaGreat.C
open Go.RowKit Go.Proofs.YteaocbonofboeaaGreatW.PrintWords Go.Proofs.YteaocbonofboeaaGreatW.PrintLast Go.Proofs.YteaocbonofboeaaGreatW.PrintMore
attribute [local go_sem] Qhx Qhy Qhz Qia Qib Qic Qid Qie
def Qac.f(a0:Int)(a1:Int):Option (Int):=if 0≤(Go.bits .and .u64 (IntKind.u64.wrap (a1)) 63)then(if 0≤(IntKind.u64.wrap (64-(Go.bits .and .u64 (IntKind.u64.wrap (a1)) 63)))then(some (Go.bits .or .u64 (shl .u64 a0 (Go.bits .and .u64 (IntKind.u64.wrap (a1)) 63)) (shr .u64 a0 (IntKind.u64.wrap (64-(Go.bits .and .u64 (IntKind.u64.wrap (a1)) 63))))))else(none))else(none)
theorem Qac.calls(a0:Int)(a1:Int)(r:Int)(w:World)(h:Qac.f a0 a1=some r) :
  Calls Tryz.prog 201 #[.int .u64 a0,.int .i64 a1] w fun e w'=>e=.returned (.int .u64 r)∧Drawn0 w w':=by
 have H:(if 0≤(Go.bits .and .u64 (IntKind.u64.wrap (a1)) 63)then(if 0≤(IntKind.u64.wrap (64-(Go.bits .and .u64 (IntKind.u64.wrap (a1)) 63)))then(some (Go.bits .or .u64 (shl .u64 a0 (Go.bits .and .u64 (IntKind.u64.wrap (a1)) 63)) (shr .u64 a0 (IntKind.u64.wrap (64-(Go.bits .and .u64 (IntKind.u64.wrap (a1)) 63))))))else(none))else(none))=some r:=h;clear h;obtain⟨a,j⟩:∃j_:Int,(Go.bits .and .u64 (IntKind.u64.wrap (a1)) 63)=j_:=⟨_,rfl⟩;replace H:(if 0≤(a)then(if 0≤(IntKind.u64.wrap (64-(a)))then(some (Go.bits .or .u64 (shl .u64 a0 (a)) (shr .u64 a0 (IntKind.u64.wrap (64-(a))))))else(none))else(none))=some r:=by first |(rw[j]at H;exact H) |(simp only[j]at H ⊢;exact H)
 by_cases c4:0≤(a)
 ·rw[if_pos c4]at H;have q:=eq_true c4;have s:=decide_eq_true c4;clear c4;obtain⟨g,b⟩:∃j_:Int,(shl .u64 a0 (a))=j_:=⟨_,rfl⟩;replace H:(if 0≤(IntKind.u64.wrap (64-(a)))then(some (Go.bits .or .u64 (g) (shr .u64 a0 (IntKind.u64.wrap (64-(a))))))else(none))=some r:=by first |(rw[b]at H;exact H) |(simp only[b]at H ⊢;exact H)
  have m:(IntKind.u64.wrap (a0*2^min (a).toNat 64))=g:=b;have n:(a)≤64→(IntKind.u64.wrap (a0*2^(a).toNat))=g:=Qih b;obtain⟨c,k⟩:∃j_:Int,(IntKind.u64.wrap (64-(a)))=j_:=⟨_,rfl⟩;replace H:(if 0≤(c)then(some (Go.bits .or .u64 (g) (shr .u64 a0 (c))))else(none))=some r:=by first |(rw[k]at H;exact H) |(simp only[k]at H ⊢;exact H)
  by_cases c7:0≤(c)
  ·rw[if_pos c7]at H;have t:=eq_true c7;have u:=decide_eq_true c7;clear c7;obtain⟨l,d⟩:∃j_:Int,(shr .u64 a0 (c))=j_:=⟨_,rfl⟩;replace H:(some (Go.bits .or .u64 (g) (l)))=some r:=by first |(rw[d]at H;exact H) |(simp only[d]at H ⊢;exact H)
   have o:(a0/2^min (c).toNat 64)=l:=d;have p:(c)≤64→(a0/2^(c).toNat)=l:=Qii d;obtain rfl:=Option.some.inj H
   go_enter Tryz.func201,Tryz.ntmps201
   go_wp2;go_ret
   exact⟨by first|rfl |(simp;done) |(simp only[← j,← b,← k,← d]<;>(first|rfl|simp)) |(simp[*];done),by repeat(first|exact Drawn0.refl _|apply Drawn0.step)⟩
  ·rw[if_neg c7]at H;exact absurd H (by simp)
 ·rw[if_neg c4]at H;exact absurd H (by simp)
def Qcm.f(a0:Int)(a1:Int):Option (Int):=(Qac.f (IntKind.u64.wrap (a0+(IntKind.u64.wrap (a1*14029467366897019727)))) 31).bind fun t103=>(some (IntKind.u64.wrap (t103*11400714785074694791)))
theorem Qcm.calls(a0:Int)(a1:Int)(r:Int)(w:World)(h:Qcm.f a0 a1=some r) :
  Calls Tryz.prog 198 #[.int .u64 a0,.int .u64 a1] w fun e w'=>e=.returned (.int .u64 r)∧Drawn0 w w':=by
 have H:((Qac.f (IntKind.u64.wrap (a0+(IntKind.u64.wrap (a1*14029467366897019727)))) 31).bind fun t103=>(some (IntKind.u64.wrap (t103*11400714785074694791))))=some r:=h;clear h;replace H:=Option.bind_eq_some_iff.mp H;obtain⟨t103,A30,H⟩:=H;have A3:=QA A30;clear A30;obtain rfl:=Option.some.inj H
 go_enter Tryz.func198,Tryz.ntmps198
 go_wp2_with (first |((with_reducible refine Qif (f:=201) rfl ?_);refine Qgi (some 9) rfl rfl Tryz.func201 qq_2 rfl #[.int .u64 (IntKind.u64.wrap (a0+(IntKind.u64.wrap (a1*14029467366897019727)))),.int .i64 31] rfl qq_0 ?_;(with_reducible refine(Qac.calls (IntKind.u64.wrap (a0+(IntKind.u64.wrap (a1*14029467366897019727)))) 31 t103 _ A3.out).mono ?_);rintro e w' ⟨rfl,⟨nd,rfl⟩⟩;refine⟨_,rfl,?_⟩))
 go_ret
 exact⟨by first|rfl |(simp;done) |(simp[*];done),by repeat(first|exact Drawn0.refl _|apply Drawn0.step)⟩
def Qcn.l0:Nat→List Int→Int→Int→Int→Option (Int)
 | 0,_,_,_,_=>none
 | k+1,x0,x5,x7,x8=>if x8<x7 then(if 0≤x8 then(if x8<(x0.length:Int)then(if 0≤(wrap64 (8*x8))then(Qcn.l0 k x0 (Go.bits .or .u64 x5 (shl .u64 (IntKind.u64.wrap (rd x0 x8)) (wrap64 (8*x8)))) x7 (wrap64 (x8+1)))else(none))else(none))else(none))else(some x5)
def Qcn.f(k:Nat)(l0:List Int)(a1:Int):Option (Int):=Qcn.l0 k l0 0 a1 0
theorem Qcn.calls(k:Nat)(A0:Option Addr)(c0:Nat)(l0:List Int)(a1:Int)(r:Int)(w:World)(hr0:Kd.C (Kd.int .u8) w A0 l0.length l0)(hc0:l0.length≤c0)(h:Qcn.f k l0 a1=some r) :
  Calls Tryz.prog 199 #[.slice A0 l0.length c0,.int .i64 a1] w fun e w'=>e=.returned (.int .u64 r)∧Drawn0 w w':=by
 have q:=QA hr0;have B:=QA hc0;clear hr0 hc0;have H:(Qcn.l0 k l0 0 a1 0)=some r:=h;clear h;have H':=QA H;clear H
 go_enter Tryz.func199,Tryz.ntmps199
 go_wp2
 go_loopg [5,8] k (fun kq v5 v8 w'=>∃(b:Int) (a:Int),v5=.int .u64 b∧v8=.int .i64 a∧Aside0 (Qcn.l0 kq l0 b a1 a=some r)∧Aside0 (kq≤k)∧Drawn0 w w')
 case atStart=>exact⟨(0),(0),qq_4,qq_4,H',⟨Nat.le_refl _⟩,by repeat(first|exact Drawn0.refl _|apply Drawn0.step)⟩
 case round =>
  clear H';obtain⟨b,a,rfl,rfl,HA,HK1,⟨m1,rfl⟩⟩:=hrel
  cases gk with
  | zero=>exact absurd HA.out (by simp[Qcn.l0])
  | succ k1 =>
   have H:=HA.out;clear HA;simp only[Qcn.l0]at H
   by_cases c3:a<a1
   ·rw [if_pos c3]at H;have n:=decide_eq_true c3;clear c3
    by_cases c4:0≤a
    ·rw[if_pos c4]at H;have x:=decide_eq_true c4;clear c4
     by_cases c5:a<(l0.length:Int)
     ·rw[if_pos c5]at H;have y:=decide_eq_true c5;clear c5;obtain⟨c,g⟩:∃j_:Int,(wrap64 (8*a))=j_:=⟨_,rfl⟩;replace H:(if 0≤(c)then(Qcn.l0 k1 l0 (Go.bits .or .u64 b (shl .u64 (IntKind.u64.wrap (rd l0 a)) (c))) a1 (wrap64 (a+1)))else(none))=some r:=by first |(rw[g]at H;exact H) |(simp only[g]at H ⊢;exact H)
      have s:(IntKind.i64.wrap (8*a))=c:=(Qgk _).trans g
      by_cases c7:0≤(c)
      ·rw[if_pos c7]at H;have z:=eq_true c7;have A:=decide_eq_true c7;clear c7;obtain⟨m,d⟩:∃j_:Int,(shl .u64 (IntKind.u64.wrap (rd l0 a)) (c))=j_:=⟨_,rfl⟩;replace H:(Qcn.l0 k1 l0 (Go.bits .or .u64 b (m)) a1 (wrap64 (a+1)))=some r:=by first |(rw[d]at H;exact H) |(simp only[d]at H ⊢;exact H)
       have t:(IntKind.u64.wrap ((IntKind.u64.wrap (rd l0 a))*2^min (c).toNat 64))=m:=d;have u:(c)≤64→(IntKind.u64.wrap ((IntKind.u64.wrap (rd l0 a))*2^(c).toNat))=m:=Qih d;have H':=QA H;clear H;have j:0≤(a:Int):=of_decide_eq_true qq_6;have l:a<(l0.length:Int):=of_decide_eq_true qq_6;obtain⟨v,o,p⟩:=Kd.at_int q.out a j l
       cases o
       replace j:=eq_true j;replace l:=eq_true l;go_wp2
       go_roundg k1
       case measure=>have:=HK1.out;omega
       case rel=>exact⟨(Go.bits .or .u64 b (m)),(wrap64 (a+1)),(by first|rfl |(simp;done) |(simp only[← d]<;>(first|rfl|simp)) |(simp[*];done)),qq_4,H',⟨by have:=HK1.out;omega⟩,by repeat(first|exact Drawn0.refl _|apply Drawn0.step)⟩
      ·rw[if_neg c7]at H;exact absurd H (by simp)
     ·rw[if_neg c5]at H;exact absurd H (by simp)
    ·rw[if_neg c4]at H;exact absurd H (by simp)
   ·rw[if_neg c3]at H;have n:=decide_eq_false c3;clear c3;obtain rfl:=Option.some.inj H;go_wp2;go_ret
    exact⟨by first|rfl |(simp;done) |(simp[*];done),by repeat(first|exact Drawn0.refl _|apply Drawn0.step)⟩
def Qba.l0:Nat→ByteArray→Int→Int→Option (Int)
 | 0,_,_,_=>none
 | k+1,x0,x3,x4=>if x4≥0 then(if 0≤x4 then(if x4<(x0.size:Int)then(Qba.l0 k x0 (IntKind.u64.wrap ((IntKind.u64.wrap (x3*256))+(IntKind.u64.wrap (bt x0 x4)))) (wrap64 (x4-1)))else(none))else(none))else(some x3)
def Qba.f(k:Nat)(a0:ByteArray):Option (Int):=Qba.l0 k a0 0 (wrap64 ((a0.size:Int)-1))
theorem Qba.mono_l:∀k,(∀y0 y1 y2,LeO (Qba.l0 k y0 y1 y2) (Qba.l0 (k+1) y0 y1 y2))
 | 0=>fun _ _ _ r h=>by simp[Qba.l0]at h
 | k+1=>by
  have ih0:=Qba.mono_l k
  ·intro y0 y1 y2;unfold Qba.l0
   repeat' first
   |(with_reducible exact ih0 _ _ _)
   |(with_reducible exact LeO.refl _)
   |(with_reducible exact LeO.none _)
   |(with_reducible refine LeO.ite ?_ ?_)
   |(with_reducible refine LeO.bind ?_ (fun _=>?_))
   | exact ih0 _ _ _
   | exact LeO.none _
   | refine LeO.ite ?_ ?_
   | refine LeO.bind ?_ (fun _=>?_)
theorem Qba.mono:∀a0 k,LeO (Qba.f k a0) (Qba.f (k+1) a0):=by
 intro a0 k;have ih0:=Qba.mono_l k;unfold Qba.f
 repeat' first
   |(with_reducible exact ih0 _ _ _)
   |(with_reducible exact LeO.refl _)
   |(with_reducible exact LeO.none _)
   |(with_reducible refine LeO.ite ?_ ?_)
   |(with_reducible refine LeO.bind ?_ (fun _=>?_))
   | exact ih0 _ _ _
   | exact LeO.none _
   | refine LeO.ite ?_ ?_
   | refine LeO.bind ?_ (fun _=>?_)
theorem Qba.calls(k:Nat)(a0:ByteArray)(r:Int)(w:World)(h:Qba.f k a0=some r) :
  Calls Tryz.prog 186 #[.string a0] w fun e w'=>e=.returned (.int .u64 r)∧Drawn0 w w':=by
 have H:(Qba.l0 k a0 0 (wrap64 ((a0.size:Int)-1)))=some r:=h;clear h;have H':=QA H;clear H
 go_enter Tryz.func186,Tryz.ntmps186
 go_wp2
 go_loopg [3,4] k (fun kq v3 v4 w'=>∃(b:Int) (a:Int),v3=.int .u64 b∧v4=.int .i64 a∧Aside0 (Qba.l0 kq a0 b a=some r)∧Aside0 (kq≤k)∧Drawn0 w w')
 case atStart=>exact⟨(0),(wrap64 ((a0.size:Int)-1)),qq_4,qq_4,H',⟨Nat.le_refl _⟩,by repeat(first|exact Drawn0.refl _|apply Drawn0.step)⟩
 case round =>
  clear H';obtain⟨b,a,rfl,rfl,HA,HK1,⟨m1,rfl⟩⟩:=hrel
  cases gk with
  | zero=>exact absurd HA.out (by simp[Qba.l0])
  | succ k1 =>
   have H:=HA.out;clear HA;simp only[Qba.l0]at H
   by_cases c2:a≥0
   ·rw[if_pos c2]at H;have c:decide (0≤a)=true:=decide_eq_true c2;clear c2
    by_cases c3:0≤a
    ·rw[if_pos c3]at H;have d:=decide_eq_true c3;clear c3
     by_cases c4:a<(a0.size:Int)
     ·rw[if_pos c4]at H;have g:=decide_eq_true c4;clear c4;have H':=QA H;clear H;have p5:0≤(a:Int):=of_decide_eq_true qq_6;have q5:a<(a0.size:Int):=of_decide_eq_true qq_6;have j:=Qco a0 a;replace p5:=eq_true p5;replace q5:=eq_true q5;go_wp2
      go_roundg k1
      case measure=>have:=HK1.out;omega
      case rel=>exact⟨(IntKind.u64.wrap ((IntKind.u64.wrap (b*256))+(IntKind.u64.wrap (bt a0 a)))),(wrap64 (a-1)),qq_4,qq_4,H',⟨by have:=HK1.out;omega⟩,by repeat(first|exact Drawn0.refl _|apply Drawn0.step)⟩
     ·rw[if_neg c4]at H;exact absurd H (by simp)
    ·rw[if_neg c3]at H;exact absurd H (by simp)
   ·rw[if_neg c2]at H;have c:decide (0≤a)=false:=decide_eq_false c2;clear c2;obtain rfl:=Option.some.inj H;go_wp2;go_ret
    exact⟨by first|rfl |(simp;done) |(simp[*];done),by repeat(first|exact Drawn0.refl _|apply Drawn0.step)⟩
def Qbh.l0:Nat→Int→Int→Int→Option (Int)
 | 0,_,_,_=>none
 | k+1,x0,x6,x7=>if x7<x6 then(Qbh.l0 k (IntKind.u64.wrap ((IntKind.u64.wrap (2*x0))+(IntKind.u64.wrap (Int.tdiv x0 9223372036854775808)))) x6 (wrap64 (x7+1)))else(some x0)
def Qbh.f(k:Nat)(a0:Int)(a1:Int):Option (Int):=Qbh.l0 k a0 a1 0
theorem Qbh.mono_l:∀k,(∀y0 y1 y2,LeO (Qbh.l0 k y0 y1 y2) (Qbh.l0 (k+1) y0 y1 y2))
 | 0=>fun _ _ _ r h=>by simp[Qbh.l0]at h
 | k+1=>by
  have ih0:=Qbh.mono_l k
  ·intro y0 y1 y2;unfold Qbh.l0
   repeat' first
   |(with_reducible exact ih0 _ _ _)
   |(with_reducible exact LeO.refl _)
   |(with_reducible exact LeO.none _)
   |(with_reducible refine LeO.ite ?_ ?_)
   |(with_reducible refine LeO.bind ?_ (fun _=>?_))
   | exact ih0 _ _ _
   | exact LeO.none _
   | refine LeO.ite ?_ ?_
   | refine LeO.bind ?_ (fun _=>?_)
theorem Qbh.mono:∀a0 a1 k,LeO (Qbh.f k a0 a1) (Qbh.f (k+1) a0 a1):=by
 intro a0 a1 k;have ih0:=Qbh.mono_l k;unfold Qbh.f
 repeat' first
   |(with_reducible exact ih0 _ _ _)
   |(with_reducible exact LeO.refl _)
   |(with_reducible exact LeO.none _)
   |(with_reducible refine LeO.ite ?_ ?_)
   |(with_reducible refine LeO.bind ?_ (fun _=>?_))
   | exact ih0 _ _ _
   | exact LeO.none _
   | refine LeO.ite ?_ ?_
   | refine LeO.bind ?_ (fun _=>?_)
theorem Qbh.calls(k:Nat)(a0:Int)(a1:Int)(r:Int)(w:World)(h:Qbh.f k a0 a1=some r) :
  Calls Tryz.prog 192 #[.int .u64 a0,.int .i64 a1] w fun e w'=>e=.returned (.int .u64 r)∧Drawn0 w w':=by
 have H:(Qbh.l0 k a0 a1 0)=some r:=h;clear h;have H':=QA H;clear H
 go_enter Tryz.func192,Tryz.ntmps192
 go_wp2
 go_loopg [0,7] k (fun kq v0 v7 w'=>∃(a:Int) (b:Int),v0=.int .u64 a∧v7=.int .i64 b∧Aside0 (Qbh.l0 kq a a1 b=some r)∧Aside0 (kq≤k)∧Drawn0 w w')
 case atStart=>exact⟨(a0),(0),qq_4,qq_4,H',⟨Nat.le_refl _⟩,by repeat(first|exact Drawn0.refl _|apply Drawn0.step)⟩
 case round =>
  clear H';obtain⟨a,b,rfl,rfl,HA,HK1,⟨m1,rfl⟩⟩:=hrel
  cases gk with
  | zero=>exact absurd HA.out (by simp[Qbh.l0])
  | succ k1 =>
   have H:=HA.out;clear HA;simp only[Qbh.l0]at H
   by_cases c3:b<a1
   ·rw[if_pos c3]at H;have c:=decide_eq_true c3;clear c3;have H':=QA H;clear H;go_wp2
    go_roundg k1
    case measure=>have:=HK1.out;omega
    case rel=>exact⟨(IntKind.u64.wrap ((IntKind.u64.wrap (2*a))+(IntKind.u64.wrap (Int.tdiv a 9223372036854775808)))),(wrap64 (b+1)),qq_4,qq_4,H',⟨by have:=HK1.out;omega⟩,by repeat(first|exact Drawn0.refl _|apply Drawn0.step)⟩
   ·rw[if_neg c3]at H;have c:=decide_eq_false c3;clear c3;obtain rfl:=Option.some.inj H;go_wp2;go_ret
    exact⟨by first|rfl |(simp;done) |(simp[*];done),by repeat(first|exact Drawn0.refl _|apply Drawn0.step)⟩
def Qbf.f(k:Nat)(a0:Int)(a1:Int):Option (Int):=(Qbh.f k (IntKind.u64.wrap (a0+(IntKind.u64.wrap (a1*14029467366897019727)))) 31).bind fun t133=>(some (IntKind.u64.wrap (t133*11400714785074694791)))
theorem Qbf.mono:∀a0 a1 k,LeO (Qbf.f k a0 a1) (Qbf.f (k+1) a0 a1):=by
 intro a0 a1 k;unfold Qbf.f
 repeat' first
   |(with_reducible exact Qbh.mono _ _ _)
   |(with_reducible exact LeO.refl _)
   |(with_reducible exact LeO.none _)
   |(with_reducible refine LeO.ite ?_ ?_)
   |(with_reducible refine LeO.bind ?_ (fun _=>?_))
   | exact Qbh.mono _ _ _
   | exact LeO.none _
   | refine LeO.ite ?_ ?_
   | refine LeO.bind ?_ (fun _=>?_)
theorem Qbf.calls(k:Nat)(a0:Int)(a1:Int)(r:Int)(w:World)(h:Qbf.f k a0 a1=some r) :
  Calls Tryz.prog 191 #[.int .u64 a0,.int .u64 a1] w fun e w'=>e=.returned (.int .u64 r)∧Drawn0 w w':=by
 have H:((Qbh.f k (IntKind.u64.wrap (a0+(IntKind.u64.wrap (a1*14029467366897019727)))) 31).bind fun t133=>(some (IntKind.u64.wrap (t133*11400714785074694791))))=some r:=h;clear h;replace H:=Option.bind_eq_some_iff.mp H;obtain⟨t133,A30,H⟩:=H;have A3:=QA A30;clear A30;obtain rfl:=Option.some.inj H
 go_enter Tryz.func191,Tryz.ntmps191
 go_wp2_with (first |((with_reducible refine Qif (f:=192) rfl ?_);refine Qgi (some 9) rfl rfl Tryz.func192 qq_2 rfl #[.int .u64 (IntKind.u64.wrap (a0+(IntKind.u64.wrap (a1*14029467366897019727)))),.int .i64 31] rfl qq_0 ?_;(with_reducible refine(Qbh.calls k (IntKind.u64.wrap (a0+(IntKind.u64.wrap (a1*14029467366897019727)))) 31 t133 _ A3.out).mono ?_);rintro e w' ⟨rfl,⟨nd,rfl⟩⟩;refine⟨_,rfl,?_⟩))
 go_ret
 exact⟨by first|rfl |(simp;done) |(simp[*];done),by repeat(first|exact Drawn0.refl _|apply Drawn0.step)⟩
def Qbg.l0:Nat→Int→Int→Int→Int→Option (Int)
 | 0,_,_,_,_=>none
 | k+1,x0,x5,x7,x8=>if x8<x7 then(Qbg.l0 k x0 (IntKind.u64.wrap (Int.tdiv x5 2)) x7 (wrap64 (x8+1)))else(some (Go.bits .xor .u64 x0 x5))
def Qbg.f(k:Nat)(a0:Int)(a1:Int):Option (Int):=Qbg.l0 k a0 a0 a1 0
theorem Qbg.mono_l:∀k,(∀y0 y1 y2 y3,LeO (Qbg.l0 k y0 y1 y2 y3) (Qbg.l0 (k+1) y0 y1 y2 y3))
 | 0=>fun _ _ _ _ r h=>by simp[Qbg.l0]at h
 | k+1=>by
  have ih0:=Qbg.mono_l k
  ·intro y0 y1 y2 y3;unfold Qbg.l0
   repeat' first
   |(with_reducible exact ih0 _ _ _ _)
   |(with_reducible exact LeO.refl _)
   |(with_reducible exact LeO.none _)
   |(with_reducible refine LeO.ite ?_ ?_)
   |(with_reducible refine LeO.bind ?_ (fun _=>?_))
   | exact ih0 _ _ _ _
   | exact LeO.none _
   | refine LeO.ite ?_ ?_
   | refine LeO.bind ?_ (fun _=>?_)
theorem Qbg.mono:∀a0 a1 k,LeO (Qbg.f k a0 a1) (Qbg.f (k+1) a0 a1):=by
 intro a0 a1 k;have ih0:=Qbg.mono_l k;unfold Qbg.f
 repeat' first
   |(with_reducible exact ih0 _ _ _ _)
   |(with_reducible exact LeO.refl _)
   |(with_reducible exact LeO.none _)
   |(with_reducible refine LeO.ite ?_ ?_)
   |(with_reducible refine LeO.bind ?_ (fun _=>?_))
   | exact ih0 _ _ _ _
   | exact LeO.none _
   | refine LeO.ite ?_ ?_
   | refine LeO.bind ?_ (fun _=>?_)
theorem Qbg.calls(k:Nat)(a0:Int)(a1:Int)(r:Int)(w:World)(h:Qbg.f k a0 a1=some r) :
  Calls Tryz.prog 193 #[.int .u64 a0,.int .i64 a1] w fun e w'=>e=.returned (.int .u64 r)∧Drawn0 w w':=by
 have H:(Qbg.l0 k a0 a0 a1 0)=some r:=h;clear h;have H':=QA H;clear H
 go_enter Tryz.func193,Tryz.ntmps193
 go_wp2
 go_loopg [5,8] k (fun kq v5 v8 w'=>∃(b:Int) (a:Int),v5=.int .u64 b∧v8=.int .i64 a∧Aside0 (Qbg.l0 kq a0 b a1 a=some r)∧Aside0 (kq≤k)∧Drawn0 w w')
 case atStart=>exact⟨(a0),(0),qq_4,qq_4,H',⟨Nat.le_refl _⟩,by repeat(first|exact Drawn0.refl _|apply Drawn0.step)⟩
 case round =>
  clear H';obtain⟨b,a,rfl,rfl,HA,HK1,⟨m1,rfl⟩⟩:=hrel
  cases gk with
  | zero=>exact absurd HA.out (by simp[Qbg.l0])
  | succ k1 =>
   have H:=HA.out;clear HA;simp only[Qbg.l0]at H
   by_cases c3:a<a1
   ·rw[if_pos c3]at H;have c:=decide_eq_true c3;clear c3;have H':=QA H;clear H;go_wp2
    go_roundg k1
    case measure=>have:=HK1.out;omega
    case rel=>exact⟨(IntKind.u64.wrap (Int.tdiv b 2)),(wrap64 (a+1)),qq_4,qq_4,H',⟨by have:=HK1.out;omega⟩,by repeat(first|exact Drawn0.refl _|apply Drawn0.step)⟩
   ·rw[if_neg c3]at H;have c:=decide_eq_false c3;clear c3;obtain rfl:=Option.some.inj H;go_wp2;go_ret
    exact⟨by first|rfl |(simp;done) |(simp[*];done),by repeat(first|exact Drawn0.refl _|apply Drawn0.step)⟩
def Qae.f(l0:List Int)(l1:List Int):Option (Bool):=some ((strOfNums l0).toList == (strOfNums l1).toList)
theorem Qae.calls(A0:Option Addr)(c0:Nat)(l0:List Int)(A1:Option Addr)(c1:Nat)(l1:List Int)(r:Bool)(w:World)(hr0:Kd.C (Kd.int .u8) w A0 l0.length l0)(hc0:l0.length≤c0)(hr1:Kd.C (Kd.int .u8) w A1 l1.length l1)(hc1:l1.length≤c1)(h:Qae.f l0 l1=some r) :
  Calls Tryz.prog 96 #[.slice A0 l0.length c0,.slice A1 l1.length c1] w fun e w'=>e=.returned (.bool r)∧Drawn0 w w':=by
 have HR0:=QA hr0;have HC0:=QA hc0;clear hr0 hc0;have HR1:=QA hr1;have HC1:=QA hc1;clear hr1 hc1;have H:(some ((strOfNums l0).toList == (strOfNums l1).toList))=some r:=h;clear h;obtain rfl:=Option.some.inj H;have hcv3:=Kd.C_string (P:=Tryz.prog) (A:=A0) (c:=c0) Tryz.underlying40 Tryz.underlying5 Tryz.underlying9 HR0.out;have hcv4:=Kd.C_string (P:=Tryz.prog) (A:=A1) (c:=c1) Tryz.underlying40 Tryz.underlying5 Tryz.underlying9 HR1.out
 go_enter Tryz.func96,Tryz.ntmps96
 go_wp2;go_ret
 exact⟨by first|rfl |(simp;done) |(simp[*];done),by repeat(first|exact Drawn0.refl _|apply Drawn0.step)⟩
def Qaj.f(a0:Int):Option (Bool):=some (a0 != a0)
theorem Qaj.calls(a0:Int)(r:Bool)(w:World)(h:Qaj.f a0=some r) :
  Calls Tryz.prog 217 #[.int .u32 a0] w fun e w'=>e=.returned (.bool r)∧Drawn0 w w':=by
 have H:(some (a0 != a0))=some r:=h;clear h;obtain rfl:=Option.some.inj H
 go_enter Tryz.func217,Tryz.ntmps217
 go_wp2;go_ret
 exact⟨by first|rfl |(simp;done) |(simp[*];done),by repeat(first|exact Drawn0.refl _|apply Drawn0.step)⟩
def Qag.f(a0:Int)(a1:Int):Option (Int):=(Qaj.f a0).bind fun t272=>((Qaj.f a1).bind fun t273=>(if t272=true then(if t273=true then(some 0)else(some (-1)))else(if t273=true then(some 1)else(if a0<a1 then(some (-1))else(if a0 > a1 then(some 1)else(some 0))))))
theorem Qag.calls(a0:Int)(a1:Int)(r:Int)(w:World)(h:Qag.f a0 a1=some r) :
  Calls Tryz.prog 167 #[.int .u32 a0,.int .u32 a1] w fun e w'=>e=.returned (.int .i64 r)∧Drawn0 w w':=by
 have H:((Qaj.f a0).bind fun b=>((Qaj.f a1).bind fun a=>(if b=true then(if a=true then(some 0)else(some (-1)))else(if a=true then(some 1)else(if a0<a1 then(some (-1))else(if a0 > a1 then(some 1)else(some 0)))))))=some r:=h;clear h;replace H:=Option.bind_eq_some_iff.mp H;obtain⟨b,c,H⟩:=H;have A3:=QA c;clear c;replace H:=Option.bind_eq_some_iff.mp H;obtain⟨a,d,H⟩:=H;have A4:=QA d;clear d
 by_cases c5:b=true
 ·subst c5;rw[if_pos rfl]at H
  by_cases c6:a=true
  ·subst c6;rw[if_pos rfl]at H;obtain rfl:=Option.some.inj H
   go_enter Tryz.func167,Tryz.ntmps167
   go_wp2_with (first |((with_reducible refine Qif (f:=217) rfl ?_);refine Qgi (some 8) rfl rfl Tryz.func217 qq_2 rfl #[.int .u32 a0] rfl qq_0 ?_;(with_reducible refine(Qaj.calls a0 true _ A3.out).mono ?_);rintro e w' ⟨rfl,⟨nd,rfl⟩⟩;refine⟨_,rfl,?_⟩) |((with_reducible refine Qif (f:=217) rfl ?_);refine Qgi (some 10) rfl rfl Tryz.func217 qq_2 rfl #[.int .u32 a1] rfl qq_0 ?_;(with_reducible refine(Qaj.calls a1 true _ A4.out).mono ?_);rintro e w' ⟨rfl,⟨nd,rfl⟩⟩;refine⟨_,rfl,?_⟩))
   go_ret
   exact⟨by first|rfl |(simp;done) |(simp[*];done),by repeat(first|exact Drawn0.refl _|apply Drawn0.step)⟩
  ·replace c6:=Bool.eq_false_iff.mpr c6;subst c6;rw[if_neg (show ¬(false=true)by decide)]at H;obtain rfl:=Option.some.inj H
   go_enter Tryz.func167,Tryz.ntmps167
   go_wp2_with (first |((with_reducible refine Qif (f:=217) rfl ?_);refine Qgi (some 8) rfl rfl Tryz.func217 qq_2 rfl #[.int .u32 a0] rfl qq_0 ?_;(with_reducible refine(Qaj.calls a0 true _ A3.out).mono ?_);rintro e w' ⟨rfl,⟨nd,rfl⟩⟩;refine⟨_,rfl,?_⟩) |((with_reducible refine Qif (f:=217) rfl ?_);refine Qgi (some 10) rfl rfl Tryz.func217 qq_2 rfl #[.int .u32 a1] rfl qq_0 ?_;(with_reducible refine(Qaj.calls a1 false _ A4.out).mono ?_);rintro e w' ⟨rfl,⟨nd,rfl⟩⟩;refine⟨_,rfl,?_⟩))
   go_ret
   exact⟨by first|rfl |(simp;done) |(simp[*];done),by repeat(first|exact Drawn0.refl _|apply Drawn0.step)⟩
 ·replace c5:=Bool.eq_false_iff.mpr c5;subst c5;rw[if_neg (show ¬(false=true)by decide)]at H
  by_cases c7:a=true
  ·subst c7;rw[if_pos rfl]at H;obtain rfl:=Option.some.inj H
   go_enter Tryz.func167,Tryz.ntmps167
   go_wp2_with (first |((with_reducible refine Qif (f:=217) rfl ?_);refine Qgi (some 8) rfl rfl Tryz.func217 qq_2 rfl #[.int .u32 a0] rfl qq_0 ?_;(with_reducible refine(Qaj.calls a0 false _ A3.out).mono ?_);rintro e w' ⟨rfl,⟨nd,rfl⟩⟩;refine⟨_,rfl,?_⟩) |((with_reducible refine Qif (f:=217) rfl ?_);refine Qgi (some 10) rfl rfl Tryz.func217 qq_2 rfl #[.int .u32 a1] rfl qq_0 ?_;(with_reducible refine(Qaj.calls a1 true _ A4.out).mono ?_);rintro e w' ⟨rfl,⟨nd,rfl⟩⟩;refine⟨_,rfl,?_⟩))
   go_ret
   exact⟨by first|rfl |(simp;done) |(simp[*];done),by repeat(first|exact Drawn0.refl _|apply Drawn0.step)⟩
  ·replace c7:=Bool.eq_false_iff.mpr c7;subst c7;rw[if_neg (show ¬(false=true)by decide)]at H
   by_cases c8:a0<a1
   ·rw[if_pos c8]at H;have g:=decide_eq_true c8;clear c8;obtain rfl:=Option.some.inj H
    go_enter Tryz.func167,Tryz.ntmps167
    go_wp2_with (first |((with_reducible refine Qif (f:=217) rfl ?_);refine Qgi (some 8) rfl rfl Tryz.func217 qq_2 rfl #[.int .u32 a0] rfl qq_0 ?_;(with_reducible refine(Qaj.calls a0 false _ A3.out).mono ?_);rintro e w' ⟨rfl,⟨nd,rfl⟩⟩;refine⟨_,rfl,?_⟩) |((with_reducible refine Qif (f:=217) rfl ?_);refine Qgi (some 10) rfl rfl Tryz.func217 qq_2 rfl #[.int .u32 a1] rfl qq_0 ?_;(with_reducible refine(Qaj.calls a1 false _ A4.out).mono ?_);rintro e w' ⟨rfl,⟨nd,rfl⟩⟩;refine⟨_,rfl,?_⟩))
    go_ret
    exact⟨by first|rfl |(simp;done) |(simp[*];done),by repeat(first|exact Drawn0.refl _|apply Drawn0.step)⟩
   ·rw[if_neg c8]at H;have g:=decide_eq_false c8;clear c8
    by_cases c9:a0 > a1
    ·rw[if_pos c9]at H;have j:decide (a1<a0)=true:=decide_eq_true c9;clear c9;obtain rfl:=Option.some.inj H
     go_enter Tryz.func167,Tryz.ntmps167
     go_wp2_with (first |((with_reducible refine Qif (f:=217) rfl ?_);refine Qgi (some 8) rfl rfl Tryz.func217 qq_2 rfl #[.int .u32 a0] rfl qq_0 ?_;(with_reducible refine(Qaj.calls a0 false _ A3.out).mono ?_);rintro e w' ⟨rfl,⟨nd,rfl⟩⟩;refine⟨_,rfl,?_⟩) |((with_reducible refine Qif (f:=217) rfl ?_);refine Qgi (some 10) rfl rfl Tryz.func217 qq_2 rfl #[.int .u32 a1] rfl qq_0 ?_;(with_reducible refine(Qaj.calls a1 false _ A4.out).mono ?_);rintro e w' ⟨rfl,⟨nd,rfl⟩⟩;refine⟨_,rfl,?_⟩))
     go_ret
     exact⟨by first|rfl |(simp;done) |(simp[*];done),by repeat(first|exact Drawn0.refl _|apply Drawn0.step)⟩
    ·rw[if_neg c9]at H;have j:decide (a1<a0)=false:=decide_eq_false c9;clear c9;obtain rfl:=Option.some.inj H
     go_enter Tryz.func167,Tryz.ntmps167
     go_wp2_with (first |((with_reducible refine Qif (f:=217) rfl ?_);refine Qgi (some 8) rfl rfl Tryz.func217 qq_2 rfl #[.int .u32 a0] rfl qq_0 ?_;(with_reducible refine(Qaj.calls a0 false _ A3.out).mono ?_);rintro e w' ⟨rfl,⟨nd,rfl⟩⟩;refine⟨_,rfl,?_⟩) |((with_reducible refine Qif (f:=217) rfl ?_);refine Qgi (some 10) rfl rfl Tryz.func217 qq_2 rfl #[.int .u32 a1] rfl qq_0 ?_;(with_reducible refine(Qaj.calls a1 false _ A4.out).mono ?_);rintro e w' ⟨rfl,⟨nd,rfl⟩⟩;refine⟨_,rfl,?_⟩))
     go_ret
     exact⟨by first|rfl |(simp;done) |(simp[*];done),by repeat(first|exact Drawn0.refl _|apply Drawn0.step)⟩
def Qak.f(a0:Int):Option (Bool):=some (a0 != a0)
theorem Qak.calls(a0:Int)(r:Bool)(w:World)(h:Qak.f a0=some r) :
  Calls Tryz.prog 216 #[.int .u64 a0] w fun e w'=>e=.returned (.bool r)∧Drawn0 w w':=by
 have H:(some (a0 != a0))=some r:=h;clear h;obtain rfl:=Option.some.inj H
 go_enter Tryz.func216,Tryz.ntmps216
 go_wp2;go_ret
 exact⟨by first|rfl |(simp;done) |(simp[*];done),by repeat(first|exact Drawn0.refl _|apply Drawn0.step)⟩
def Qah.f(a0:Int)(a1:Int):Option (Int):=(Qak.f a0).bind fun t270=>((Qak.f a1).bind fun t271=>(if t270=true then(if t271=true then(some 0)else(some (-1)))else(if t271=true then(some 1)else(if a0<a1 then(some (-1))else(if a0 > a1 then(some 1)else(some 0))))))
theorem Qah.calls(a0:Int)(a1:Int)(r:Int)(w:World)(h:Qah.f a0 a1=some r) :
  Calls Tryz.prog 166 #[.int .u64 a0,.int .u64 a1] w fun e w'=>e=.returned (.int .i64 r)∧Drawn0 w w':=by
 have H:((Qak.f a0).bind fun b=>((Qak.f a1).bind fun a=>(if b=true then(if a=true then(some 0)else(some (-1)))else(if a=true then(some 1)else(if a0<a1 then(some (-1))else(if a0 > a1 then(some 1)else(some 0)))))))=some r:=h;clear h;replace H:=Option.bind_eq_some_iff.mp H;obtain⟨b,c,H⟩:=H;have A3:=QA c;clear c;replace H:=Option.bind_eq_some_iff.mp H;obtain⟨a,d,H⟩:=H;have A4:=QA d;clear d
 by_cases c5:b=true
 ·subst c5;rw[if_pos rfl]at H
  by_cases c6:a=true
  ·subst c6;rw[if_pos rfl]at H;obtain rfl:=Option.some.inj H
   go_enter Tryz.func166,Tryz.ntmps166
   go_wp2_with (first |((with_reducible refine Qif (f:=216) rfl ?_);refine Qgi (some 8) rfl rfl Tryz.func216 qq_2 rfl #[.int .u64 a0] rfl qq_0 ?_;(with_reducible refine(Qak.calls a0 true _ A3.out).mono ?_);rintro e w' ⟨rfl,⟨nd,rfl⟩⟩;refine⟨_,rfl,?_⟩) |((with_reducible refine Qif (f:=216) rfl ?_);refine Qgi (some 10) rfl rfl Tryz.func216 qq_2 rfl #[.int .u64 a1] rfl qq_0 ?_;(with_reducible refine(Qak.calls a1 true _ A4.out).mono ?_);rintro e w' ⟨rfl,⟨nd,rfl⟩⟩;refine⟨_,rfl,?_⟩))
   go_ret
   exact⟨by first|rfl |(simp;done) |(simp[*];done),by repeat(first|exact Drawn0.refl _|apply Drawn0.step)⟩
  ·replace c6:=Bool.eq_false_iff.mpr c6;subst c6;rw[if_neg (show ¬(false=true)by decide)]at H;obtain rfl:=Option.some.inj H
   go_enter Tryz.func166,Tryz.ntmps166
   go_wp2_with (first |((with_reducible refine Qif (f:=216) rfl ?_);refine Qgi (some 8) rfl rfl Tryz.func216 qq_2 rfl #[.int .u64 a0] rfl qq_0 ?_;(with_reducible refine(Qak.calls a0 true _ A3.out).mono ?_);rintro e w' ⟨rfl,⟨nd,rfl⟩⟩;refine⟨_,rfl,?_⟩) |((with_reducible refine Qif (f:=216) rfl ?_);refine Qgi (some 10) rfl rfl Tryz.func216 qq_2 rfl #[.int .u64 a1] rfl qq_0 ?_;(with_reducible refine(Qak.calls a1 false _ A4.out).mono ?_);rintro e w' ⟨rfl,⟨nd,rfl⟩⟩;refine⟨_,rfl,?_⟩))
   go_ret
   exact⟨by first|rfl |(simp;done) |(simp[*];done),by repeat(first|exact Drawn0.refl _|apply Drawn0.step)⟩
 ·replace c5:=Bool.eq_false_iff.mpr c5;subst c5;rw[if_neg (show ¬(false=true)by decide)]at H
  by_cases c7:a=true
  ·subst c7;rw[if_pos rfl]at H;obtain rfl:=Option.some.inj H
   go_enter Tryz.func166,Tryz.ntmps166
   go_wp2_with (first |((with_reducible refine Qif (f:=216) rfl ?_);refine Qgi (some 8) rfl rfl Tryz.func216 qq_2 rfl #[.int .u64 a0] rfl qq_0 ?_;(with_reducible refine(Qak.calls a0 false _ A3.out).mono ?_);rintro e w' ⟨rfl,⟨nd,rfl⟩⟩;refine⟨_,rfl,?_⟩) |((with_reducible refine Qif (f:=216) rfl ?_);refine Qgi (some 10) rfl rfl Tryz.func216 qq_2 rfl #[.int .u64 a1] rfl qq_0 ?_;(with_reducible refine(Qak.calls a1 true _ A4.out).mono ?_);rintro e w' ⟨rfl,⟨nd,rfl⟩⟩;refine⟨_,rfl,?_⟩))
   go_ret
   exact⟨by first|rfl |(simp;done) |(simp[*];done),by repeat(first|exact Drawn0.refl _|apply Drawn0.step)⟩
  ·replace c7:=Bool.eq_false_iff.mpr c7;subst c7;rw[if_neg (show ¬(false=true)by decide)]at H
   by_cases c8:a0<a1
   ·rw[if_pos c8]at H;have g:=decide_eq_true c8;clear c8;obtain rfl:=Option.some.inj H
    go_enter Tryz.func166,Tryz.ntmps166
    go_wp2_with (first |((with_reducible refine Qif (f:=216) rfl ?_);refine Qgi (some 8) rfl rfl Tryz.func216 qq_2 rfl #[.int .u64 a0] rfl qq_0 ?_;(with_reducible refine(Qak.calls a0 false _ A3.out).mono ?_);rintro e w' ⟨rfl,⟨nd,rfl⟩⟩;refine⟨_,rfl,?_⟩) |((with_reducible refine Qif (f:=216) rfl ?_);refine Qgi (some 10) rfl rfl Tryz.func216 qq_2 rfl #[.int .u64 a1] rfl qq_0 ?_;(with_reducible refine(Qak.calls a1 false _ A4.out).mono ?_);rintro e w' ⟨rfl,⟨nd,rfl⟩⟩;refine⟨_,rfl,?_⟩))
    go_ret
    exact⟨by first|rfl |(simp;done) |(simp[*];done),by repeat(first|exact Drawn0.refl _|apply Drawn0.step)⟩
   ·rw[if_neg c8]at H;have g:=decide_eq_false c8;clear c8
    by_cases c9:a0 > a1
    ·rw[if_pos c9]at H;have j:decide (a1<a0)=true:=decide_eq_true c9;clear c9;obtain rfl:=Option.some.inj H
     go_enter Tryz.func166,Tryz.ntmps166
     go_wp2_with (first |((with_reducible refine Qif (f:=216) rfl ?_);refine Qgi (some 8) rfl rfl Tryz.func216 qq_2 rfl #[.int .u64 a0] rfl qq_0 ?_;(with_reducible refine(Qak.calls a0 false _ A3.out).mono ?_);rintro e w' ⟨rfl,⟨nd,rfl⟩⟩;refine⟨_,rfl,?_⟩) |((with_reducible refine Qif (f:=216) rfl ?_);refine Qgi (some 10) rfl rfl Tryz.func216 qq_2 rfl #[.int .u64 a1] rfl qq_0 ?_;(with_reducible refine(Qak.calls a1 false _ A4.out).mono ?_);rintro e w' ⟨rfl,⟨nd,rfl⟩⟩;refine⟨_,rfl,?_⟩))
     go_ret
     exact⟨by first|rfl |(simp;done) |(simp[*];done),by repeat(first|exact Drawn0.refl _|apply Drawn0.step)⟩
    ·rw[if_neg c9]at H;have j:decide (a1<a0)=false:=decide_eq_false c9;clear c9;obtain rfl:=Option.some.inj H
     go_enter Tryz.func166,Tryz.ntmps166
     go_wp2_with (first |((with_reducible refine Qif (f:=216) rfl ?_);refine Qgi (some 8) rfl rfl Tryz.func216 qq_2 rfl #[.int .u64 a0] rfl qq_0 ?_;(with_reducible refine(Qak.calls a0 false _ A3.out).mono ?_);rintro e w' ⟨rfl,⟨nd,rfl⟩⟩;refine⟨_,rfl,?_⟩) |((with_reducible refine Qif (f:=216) rfl ?_);refine Qgi (some 10) rfl rfl Tryz.func216 qq_2 rfl #[.int .u64 a1] rfl qq_0 ?_;(with_reducible refine(Qak.calls a1 false _ A4.out).mono ?_);rintro e w' ⟨rfl,⟨nd,rfl⟩⟩;refine⟨_,rfl,?_⟩))
     go_ret
     exact⟨by first|rfl |(simp;done) |(simp[*];done),by repeat(first|exact Drawn0.refl _|apply Drawn0.step)⟩
def Qai.l0:Nat→Int→List Int→Int→Int→Option (Int)
 | 0,_,_,_,_=>none
 | k+1,x3,x6,x7,x8=>if x8<x7 then(if 0≤x8 then(if x8<(x6.length:Int)then(if(rd x6 x8)=x3 then(Qai.l0 k x3 x6 x7 (wrap64 (x8+1)))else(some (rd x6 x8)))else(none))else(none))else(some x3)
def Qai.f(k:Nat)(l0:List Int):Option (Int):=Qai.l0 k 0 l0 (l0.length:Int) 0
theorem Qai.mono_l:∀k,(∀y0 y1 y2 y3,LeO (Qai.l0 k y0 y1 y2 y3) (Qai.l0 (k+1) y0 y1 y2 y3))
 | 0=>fun _ _ _ _ r h=>by simp[Qai.l0]at h
 | k+1=>by
  have ih0:=Qai.mono_l k
  ·intro y0 y1 y2 y3;unfold Qai.l0
   repeat' first
   |(with_reducible exact ih0 _ _ _ _)
   |(with_reducible exact LeO.refl _)
   |(with_reducible exact LeO.none _)
   |(with_reducible refine LeO.ite ?_ ?_)
   |(with_reducible refine LeO.bind ?_ (fun _=>?_))
   | exact ih0 _ _ _ _
   | exact LeO.none _
   | refine LeO.ite ?_ ?_
   | refine LeO.bind ?_ (fun _=>?_)
theorem Qai.mono:∀a0 k,LeO (Qai.f k a0) (Qai.f (k+1) a0):=by
 intro a0 k;have ih0:=Qai.mono_l k;unfold Qai.f
 repeat' first
   |(with_reducible exact ih0 _ _ _ _)
   |(with_reducible exact LeO.refl _)
   |(with_reducible exact LeO.none _)
   |(with_reducible refine LeO.ite ?_ ?_)
   |(with_reducible refine LeO.bind ?_ (fun _=>?_))
   | exact ih0 _ _ _ _
   | exact LeO.none _
   | refine LeO.ite ?_ ?_
   | refine LeO.bind ?_ (fun _=>?_)
theorem Qai.calls(k:Nat)(A0:Option Addr)(c0:Nat)(l0:List Int)(r:Int)(w:World)(hr0:Kd.C (Kd.int .i64) w A0 l0.length l0)(hc0:l0.length≤c0)(h:Qai.f k l0=some r) :
  Calls Tryz.prog 165 #[.slice A0 l0.length c0] w fun e w'=>e=.returned (.int .i64 r)∧Drawn0 w w':=by
 have l:=QA hr0;have s:=QA hc0;clear hr0 hc0;have H:(Qai.l0 k 0 l0 (l0.length:Int) 0)=some r:=h;clear h;have H':=QA H;clear H
 go_enter Tryz.func165,Tryz.ntmps165
 go_wp2
 go_loopg [8] k (fun kq v8 w'=>∃(a:Int),v8=.int .i64 a∧Aside0 (Qai.l0 kq 0 l0 (l0.length:Int) a=some r)∧Aside0 (kq≤k)∧Drawn0 w w')
 case atStart=>exact⟨(0),qq_4,H',⟨Nat.le_refl _⟩,by repeat(first|exact Drawn0.refl _|apply Drawn0.step)⟩
 case round =>
  clear H';obtain⟨a,rfl,HA,HK1,⟨m1,rfl⟩⟩:=hrel
  cases gk with
  | zero=>exact absurd HA.out (by simp[Qai.l0])
  | succ k1 =>
   have H:=HA.out;clear HA;simp only[Qai.l0]at H
   by_cases c2:a<(l0.length:Int)
   ·rw [if_pos c2]at H;have m:=decide_eq_true c2;clear c2
    by_cases c3:0≤a
    ·rw[if_pos c3]at H;have p:=decide_eq_true c3;clear c3
     by_cases c4:a<(l0.length:Int)
     ·rw[if_pos c4]at H;have q:=decide_eq_true c4;clear c4
      by_cases c5:(rd l0 a)=0
      ·rw[if_pos c5]at H;have n:((rd l0 a) == 0)=true:=beq_iff_eq.mpr c5;have o:((rd l0 a) != 0)=false:=bne_eq_false_iff_eq.mpr c5;clear c5;have H':=QA H;clear H;have b:0≤(a:Int):=of_decide_eq_true qq_6;have c:a<(l0.length:Int):=of_decide_eq_true qq_6;obtain⟨j,d,g⟩:=Kd.at_int l.out a b c
       cases d
       replace b:=eq_true b;replace c:=eq_true c;go_wp2
       go_roundg k1
       case measure=>have:=HK1.out;omega
       case rel=>exact⟨(wrap64 (a+1)),qq_4,H',⟨by have:=HK1.out;omega⟩,by repeat(first|exact Drawn0.refl _|apply Drawn0.step)⟩
      ·rw[if_neg c5]at H;have n:((rd l0 a) == 0)=false:=beq_eq_false_iff_ne.mpr c5;have o:((rd l0 a) != 0)=true:=bne_iff_ne.mpr c5;obtain rfl:=Option.some.inj H;have b:0≤(a:Int):=of_decide_eq_true qq_6;have c:a<(l0.length:Int):=of_decide_eq_true qq_6;obtain⟨j,d,g⟩:=Kd.at_int l.out a b c
       cases d
       replace b:=eq_true b;replace c:=eq_true c;go_wp2;go_ret
       exact⟨by first|rfl |(simp;done) |(simp[*];done),by repeat(first|exact Drawn0.refl _|apply Drawn0.step)⟩
     ·rw[if_neg c4]at H;exact absurd H (by simp)
    ·rw[if_neg c3]at H;exact absurd H (by simp)
   ·rw[if_neg c2]at H;have m:=decide_eq_false c2;clear c2;obtain rfl:=Option.some.inj H;go_wp2;go_ret
    exact⟨by first|rfl |(simp;done) |(simp[*];done),by repeat(first|exact Drawn0.refl _|apply Drawn0.step)⟩
end Go.Proofs.YteaocbonofboeaaGreat.C
end
