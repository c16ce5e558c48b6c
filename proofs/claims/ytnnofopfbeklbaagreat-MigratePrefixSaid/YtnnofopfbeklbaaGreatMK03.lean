/- Merged texts. -/
import Derived.Test.YtnnofopfbeklbaaGreatMK02
set_option linter.unusedVariables false
set_option linter.unusedSimpArgs false
set_option maxHeartbeats 8000000
set_option maxRecDepth 100000
section
namespace Go.Proofs.YtnnofopfbeklbaaGreat.C
open Go.RowKit Go.Proofs.YtnnofopfbeklbaaGreatW.PrintWords Go.Proofs.YtnnofopfbeklbaaGreatW.PrintLast Go.Proofs.YtnnofopfbeklbaaGreatW.PrintMore
attribute [local go_sem] Qjm Qjn Qjo Qjp Qjq Qjr Qjs Qjt
def Qdm.f(l0:List Int):Option (Int):=if 0<(l0.length:Int)then(if 1<(l0.length:Int)then(if 2<(l0.length:Int)then(if 3<(l0.length:Int)then(some (Go.bits .or .u32 (Go.bits .or .u32 (Go.bits .or .u32 ((rd l0 0)%4294967296) ((((rd l0 1)%4294967296)*256)%4294967296)) ((((rd l0 2)%4294967296)*65536)%4294967296)) ((((rd l0 3)%4294967296)*16777216)%4294967296)))else(none))else(none))else(none))else(none)
theorem Qdm.calls(A0:Option Addr)(c0:Nat)(l0:List Int)(r:Int)(w:World)(hr0:Kd.C (Kd.int .u8) w A0 l0.length l0)(hc0:l0.length≤c0)(h:Qdm.f l0=some r) :
  Calls Tryz.prog 235 #[.slice A0 l0.length c0] w fun e w'=>e=.returned (.int .u32 r)∧Drawn0 w w':=by
 have s:=QA hr0;have M:=QA hc0;clear hr0 hc0;have H:(if 0<(l0.length:Int)then(if 1<(l0.length:Int)then(if 2<(l0.length:Int)then(if 3<(l0.length:Int)then(some (Go.bits .or .u32 (Go.bits .or .u32 (Go.bits .or .u32 ((rd l0 0)%4294967296) ((((rd l0 1)%4294967296)*256)%4294967296)) ((((rd l0 2)%4294967296)*65536)%4294967296)) ((((rd l0 3)%4294967296)*16777216)%4294967296)))else(none))else(none))else(none))else(none))=some r:=h;clear h
 by_cases c2:0<(l0.length:Int)
 ·rw [if_pos c2]at H;have B:=decide_eq_true c2;have D:decide (0<l0.length)=true:=decide_eq_true (by omega);clear c2
  by_cases c3:1<(l0.length:Int)
  ·rw[if_pos c3]at H;have E:=decide_eq_true c3;have G:decide (1<l0.length)=true:=decide_eq_true (by omega);clear c3
   by_cases c4:2<(l0.length:Int)
   ·rw[if_pos c4]at H;have I:=decide_eq_true c4;have J:decide (2<l0.length)=true:=decide_eq_true (by omega);clear c4
    by_cases c5:3<(l0.length:Int)
    ·rw[if_pos c5]at H;have K:=decide_eq_true c5;have L:decide (3<l0.length)=true:=decide_eq_true (by omega);clear c5;obtain rfl:=Option.some.inj H;have j:0≤(0:Int):=(by omega);have k:0<(l0.length:Int):=of_decide_eq_true qq_5;obtain⟨g,x,a⟩:=Kd.at_int s.out 0 j k
     cases x
     have qi713:(0<l0.length)=True:=eq_true (by omega)
     (try rw[show((0:Int)).toNat=0 from rfl]at a)
     (try rw[Addr.add_zero']at a)
     replace j:=eq_true j;replace k:=eq_true k;have l:0≤(1:Int):=(by omega);have m:1<(l0.length:Int):=of_decide_eq_true qq_5;obtain⟨t,y,b⟩:=Kd.at_int s.out 1 l m;obtain rfl:g=t:=(by injection y)
     (try simp only[show(1:Int).toNat=1 from rfl,Nat.reduceMul,Nat.reduceEqDiff,Go.Addr.add,↓reduceIte]at b)
     have qi714:(1<l0.length)=True:=eq_true (by omega)
     (try rw[show((1:Int)).toNat=1 from rfl]at b)
     replace l:=eq_true l;replace m:=eq_true m;have n:0≤(2:Int):=(by omega);have o:2<(l0.length:Int):=of_decide_eq_true qq_5;obtain⟨u,z,c⟩:=Kd.at_int s.out 2 n o;obtain rfl:g=u:=(by injection z)
     (try simp only[show(2:Int).toNat=2 from rfl,Nat.reduceMul,Nat.reduceEqDiff,Go.Addr.add,↓reduceIte]at c)
     have qi715:(2<l0.length)=True:=eq_true (by omega)
     (try rw[show((2:Int)).toNat=2 from rfl]at c)
     replace n:=eq_true n;replace o:=eq_true o;have p:0≤(3:Int):=(by omega);have q:3<(l0.length:Int):=of_decide_eq_true qq_5;obtain⟨v,A,d⟩:=Kd.at_int s.out 3 p q;obtain rfl:g=v:=(by injection A)
     (try simp only[show(3:Int).toNat=3 from rfl,Nat.reduceMul,Nat.reduceEqDiff,Go.Addr.add,↓reduceIte]at d)
     have qi716:(3<l0.length)=True:=eq_true (by omega)
     (try rw[show((3:Int)).toNat=3 from rfl]at d)
     replace p:=eq_true p;replace q:=eq_true q
     go_enter Tryz.func235,Tryz.ntmps235
     go_wp2
     repeat(go_quiet (fail);try go_wp2)
     go_ret
     exact⟨by first|rfl |(simp;done) |(simp[*];done),by repeat(first|exact Drawn0.refl _|apply Drawn0.step)⟩
    ·rw[if_neg c5]at H;exact absurd H (by simp)
   ·rw[if_neg c4]at H;exact absurd H (by simp)
  ·rw[if_neg c3]at H;exact absurd H (by simp)
 ·rw[if_neg c2]at H;exact absurd H (by simp)
def Qdg.j0:Nat→Bool→Bool→Int→ByteArray→ByteArray→Option (Int)
 | 0,_,_,_,_,_=>none
 | k+1,x12,x117000,x117001,x117002,x117003=>if x12=true then(some 4)else(if(x117003.size:Int) > 1048576 then(some 3)else(some 0))
def Qdg.f(k:Nat)(a0_0:Bool)(a0_1:Int)(a0_2:ByteArray)(a0_3:ByteArray):Option (Int):=if a0_2.toList=([]:List UInt8)then(some 4)else(if(a0_2.size:Int) > 4096 then(some 3)else(if a0_0=true then(Qdg.j0 k (a0_3.toList != ([]:List UInt8)) a0_0 a0_1 a0_2 a0_3)else(Qdg.j0 k false a0_0 a0_1 a0_2 a0_3)))
theorem Qdg.mono_l:∀k,(∀y0 y1 y2 y3 y4,LeO (Qdg.j0 k y0 y1 y2 y3 y4) (Qdg.j0 (k+1) y0 y1 y2 y3 y4))
 | 0=>fun _ _ _ _ _ r h=>by simp[Qdg.j0]at h
 | k+1=>by
  have ih0:=Qdg.mono_l k
  ·intro y0 y1 y2 y3 y4;unfold Qdg.j0
   repeat' first
   |(with_reducible exact ih0 _ _ _ _ _)
   |(with_reducible exact LeO.refl _)
   |(with_reducible exact LeO.none _)
   |(with_reducible refine LeO.ite ?_ ?_)
   |(with_reducible refine LeO.bind ?_ (fun _=>?_))
   | exact ih0 _ _ _ _ _
   | exact LeO.none _
   | refine LeO.ite ?_ ?_
   | refine LeO.bind ?_ (fun _=>?_)
theorem Qdg.mono:∀a0 a1 a2 a3 k,LeO (Qdg.f k a0 a1 a2 a3) (Qdg.f (k+1) a0 a1 a2 a3):=by
 intro a0 a1 a2 a3 k;have ih0:=Qdg.mono_l k;unfold Qdg.f
 repeat' first
   |(with_reducible exact ih0 _ _ _ _ _)
   |(with_reducible exact LeO.refl _)
   |(with_reducible exact LeO.none _)
   |(with_reducible refine LeO.ite ?_ ?_)
   |(with_reducible refine LeO.bind ?_ (fun _=>?_))
   | exact ih0 _ _ _ _ _
   | exact LeO.none _
   | refine LeO.ite ?_ ?_
   | refine LeO.bind ?_ (fun _=>?_)
theorem Qdg.calls(k:Nat)(g:Bool)(j:Int)(b:ByteArray)(c:ByteArray)(r:Int)(w:World)(h:Qdg.f k g j b c=some r) :
  Calls Tryz.prog 56 #[.agg #[.bool g,.int .u64 j,.string b,.string c]] w fun e w'=>e=.returned (.int .i64 r)∧Below w.heap.size w w':=by
 have hu39:=Tryz.underlying39;have HB:=QA (Below.refl w.heap.size w);have H:(if b.toList=([]:List UInt8)then(some 4)else(if(b.size:Int) > 4096 then(some 3)else(if g=true then(Qdg.j0 k (c.toList != ([]:List UInt8)) g j b c)else(Qdg.j0 k false g j b c))))=some r:=h;clear h
 by_cases c2:b.toList=([]:List UInt8)
 ·rw[if_pos c2]at H;have I:(b.toList == ([]:List UInt8))=true:=beq_iff_eq.mpr c2;have J:(b.toList != ([]:List UInt8))=false:=bne_eq_false_iff_eq.mpr c2;clear c2;obtain rfl:=Option.some.inj H
  go_enter Tryz.func56,Tryz.ntmps56
  go_wp2_with (first |((with_reducible refine Qgv (N:=1) rfl ?_);refine qq_e 1 #[.bool g,.int .u64 j,.string b,.string c] 39 ?_;intro d hg w3 hbox hb;have n_:=qn4 (Qgk qq_b hb) (hbox) (qq_s hg:w.heap.size≤d) (qq_s hg:w.heap.size≤d);clear HB;obtain⟨HB,a,o,p⟩:=n_;clear hb hbox hg;obtain⟨K,L,M,O⟩:=qc4 a.out;have af:=Qeq a.out))
  go_ret
  exact⟨qq_7,qq_b⟩
 ·rw [if_neg c2]at H;have I:(b.toList == ([]:List UInt8))=false:=beq_eq_false_iff_ne.mpr c2;have J:(b.toList != ([]:List UInt8))=true:=bne_iff_ne.mpr c2
  by_cases c5:(b.size:Int) > 4096
  ·rw[if_pos c5]at H;have P:decide (4096<(b.size:Int))=true:=decide_eq_true c5;have T:decide (4096<b.size)=true:=decide_eq_true (by omega);clear c5;obtain rfl:=Option.some.inj H
   go_enter Tryz.func56,Tryz.ntmps56
   go_wp2_with (first |((with_reducible refine Qgv (N:=1) rfl ?_);refine qq_e 1 #[.bool g,.int .u64 j,.string b,.string c] 39 ?_;intro d hg w6 hbox hb;have n_:=qn4 (Qgk qq_b hb) (hbox) (qq_s hg:w.heap.size≤d) (qq_s hg:w.heap.size≤d);clear HB;obtain⟨HB,a,o,p⟩:=n_;clear hb hbox hg;obtain⟨U,W,X,Y⟩:=qc4 a.out;have ag:=Qeq a.out))
   go_ret
   exact⟨qq_7,qq_b⟩
  ·rw [if_neg c5]at H;have P:decide (4096<(b.size:Int))=false:=decide_eq_false c5;have T:decide (4096<b.size)=false:=decide_eq_false (by omega);clear c5;have Z:=QA H;clear H
   go_enter Tryz.func56,Tryz.ntmps56
   go_upto_region 5 with(first |((with_reducible refine Qgv (N:=1) rfl ?_);refine qq_e 1 #[.bool g,.int .u64 j,.string b,.string c] 39 ?_;intro d hg w9 hbox hb;have n_:=qn4 (Qgk qq_b hb) (hbox) (qq_s hg:w.heap.size≤d) (qq_s hg:w.heap.size≤d);clear HB;obtain⟨HB,a,o,p⟩:=n_;clear hb hbox hg;obtain⟨s,t,u,v⟩:=qc4 a.out;have aa:=Qeq a.out))
   (try simp only[Act.put,List.setIfInBounds_toArray,List.set_cons_zero,List.set_cons_succ])
   go_cut [12] (fun ap wc=>∃(kq:Nat) (l:Bool),ap=.bool l∧Aside0 (Qdg.j0 kq l g j b c=some r)∧Aside0 (kq≤k)∧Aside0 (wc.heap[d]? = some (.cells #[.bool g,.int .u64 j,.string b,.string c] 39 (0,0)))∧Aside0 (Below w.heap.size w wc))
   case first =>
    have H:=Z.out;clear Z
    by_cases n:g=true
    ·subst n;rw[if_pos rfl]at H;have H':=QA H;clear H;obtain⟨x,y,z,A⟩:=qc4 a.out;have ab:=Qeq a.out;go_wp2
     go_meet
     case rel=>exact⟨_,((c.toList != ([]:List UInt8))),(by first|rfl |(simp;done) |(simp[*];done) |(cases c.toList<;>rfl)),H',⟨by first|omega|exact Nat.le_refl _⟩,⟨by(with_reducible repeat(first|apply Qfd|apply Qfc|apply Qfb));exact a.out⟩,⟨qq_b⟩⟩
    ·replace n:=Bool.eq_false_iff.mpr n;subst n;rw[if_neg (show ¬(false=true)by decide)]at H;have H':=QA H;clear H;obtain⟨B,D,E,G⟩:=qc4 a.out;have ac:=Qeq a.out;go_wp2
     go_meet
     case rel=>exact⟨_,(false),(by first|rfl |(simp;done) |(simp[*];done) |(cases c.toList<;>rfl)),H',⟨by first|omega|exact Nat.le_refl _⟩,⟨by(with_reducible repeat(first|apply Qfd|apply Qfc|apply Qfb));exact a.out⟩,⟨qq_b⟩⟩
   case rest =>
    clear Z
    try clear c2
    try clear I
    try clear J
    try clear c5
    try clear P
    try clear T
    try clear n
    try clear s
    try clear t
    try clear u
    try clear v
    try clear x
    try clear y
    try clear z
    try clear A
    try clear B
    try clear D
    try clear E
    try clear G
    try clear K
    try clear L
    try clear M
    try clear O
    try clear U
    try clear W
    try clear X
    try clear Y
    try clear aa
    try clear ab
    try clear ac
    try clear af
    try clear ag
    obtain⟨kq,l,rfl,HA,HJ7,a,HB⟩:=hcut
    cases kq with
    | zero=>exact absurd HA.out (by simp[Qdg.j0])
    | succ kj7 =>
     have H:=HA.out;clear HA;simp only[Qdg.j0]at H
     by_cases q:l=true
     ·subst q;rw[if_pos rfl]at H;obtain rfl:=Option.some.inj H;go_wp2;go_ret
      exact⟨qq_7,qq_b⟩
     ·replace q:=Bool.eq_false_iff.mpr q;subst q;rw[if_neg (show ¬(false=true)by decide)]at H
      by_cases m:(c.size:Int) > 1048576
      ·rw[if_pos m]at H;have ad:decide (1048576<(c.size:Int))=true:=decide_eq_true m;have ae:decide (1048576<c.size)=true:=decide_eq_true (by omega);clear m;obtain rfl:=Option.some.inj H;obtain⟨ah,ai,aj,ak⟩:=qc4 a.out;have aq:=Qeq a.out;go_wp2;go_ret
       exact⟨qq_7,qq_b⟩
      ·rw[if_neg m]at H;have ad:decide (1048576<(c.size:Int))=false:=decide_eq_false m;have ae:decide (1048576<c.size)=false:=decide_eq_false (by omega);clear m;obtain rfl:=Option.some.inj H;obtain⟨al,am,an,ao⟩:=qc4 a.out;have ar:=Qeq a.out;go_wp2;go_ret
       exact⟨qq_7,qq_b⟩
def Qaj.f(a0:Int):Option (Bool):=some (a0 != a0)
theorem Qaj.calls(a0:Int)(r:Bool)(w:World)(h:Qaj.f a0=some r) :
  Calls Tryz.prog 215 #[.int .u64 a0] w fun e w'=>e=.returned (.bool r)∧Drawn0 w w':=by
 have H:(some (a0 != a0))=some r:=h;clear h;obtain rfl:=Option.some.inj H
 go_enter Tryz.func215,Tryz.ntmps215
 go_wp2;go_ret
 exact⟨by first|rfl |(simp;done) |(simp[*];done),by repeat(first|exact Drawn0.refl _|apply Drawn0.step)⟩
def Qct.f(a0_0:Int)(a0_1:Int)(a1:Int):Option (Int):=(Qal.f a0_0 a0_1).bind fun t105=>(if t105=0 then(if a1≥a0_1 then(some 1)else(some 0))else(some 1))
theorem Qct.calls(c:Int)(b:Int)(a1:Int)(r:Int)(w:World)(h:Qct.f c b a1=some r) :
  Calls Tryz.prog 93 #[.agg #[.int .u8 c,.int .u32 b],.int .u32 a1] w fun e w'=>e=.returned (.int .i64 r)∧Below w.heap.size w w':=by
 have hu27:=Tryz.underlying27;have HB:=QA (Below.refl w.heap.size w);have H:((Qal.f c b).bind fun j=>(if j=0 then(if a1≥b then(some 1)else(some 0))else(some 1)))=some r:=h;clear h;replace H:=Option.bind_eq_some_iff.mp H;obtain⟨j,m,H⟩:=H;have A3:=QA m;clear m
 by_cases c4:j=0
 ·rw[if_pos c4]at H;have n:(j == 0)=true:=beq_iff_eq.mpr c4;have p:(j != 0)=false:=bne_eq_false_iff_eq.mpr c4;clear c4
  by_cases c5:a1≥b
  ·rw[if_pos c5]at H;have q:decide (b≤a1)=true:=decide_eq_true c5;clear c5;obtain rfl:=Option.some.inj H
   go_enter Tryz.func93,Tryz.ntmps93
   go_wp2_with (first |((with_reducible refine Qgv (N:=2) rfl ?_);refine qq_e 2 #[.int .u8 c,.int .u32 b] 27 ?_;intro d hg w6 hbox hb;have n_:=qn4 (Qgk qq_b hb) (hbox) (qq_s hg:w.heap.size≤d) (qq_s hg:w.heap.size≤d);clear HB;obtain⟨HB,a,k,l⟩:=n_;clear hb hbox hg;obtain⟨z,A⟩:=qc2 a.out;have J:=Qeq a.out) |((with_reducible refine Qju (f:=85) rfl ?_);refine Qhu (some 6) rfl rfl Tryz.func85 qq_6 rfl #[.agg #[.int .u8 c,.int .u32 b]] rfl qq_1 ?_;(with_reducible refine(Qal.calls c b j _ A3.out).mono ?_);rintro e w8 ⟨rfl,hb⟩;refine⟨_,rfl,?_⟩;have n_:=qn2 (Qfe (g:=d) (o:=.cells #[.int .u8 c,.int .u32 b] 27 (0,0)) qq_0 hb) (Qgk qq_b hb);clear a HB;obtain⟨a,HB⟩:=n_;(try clear hb);(try clear hb2);(try clear hk);(try clear hi);obtain⟨B,D⟩:=qc2 a.out;have K:=Qeq a.out))
   go_ret
   exact⟨qq_7,qq_b⟩
  ·rw[if_neg c5]at H;have q:decide (b≤a1)=false:=decide_eq_false c5;clear c5;obtain rfl:=Option.some.inj H
   go_enter Tryz.func93,Tryz.ntmps93
   go_wp2_with (first |((with_reducible refine Qgv (N:=2) rfl ?_);refine qq_e 2 #[.int .u8 c,.int .u32 b] 27 ?_;intro d hg L hbox hb;have n_:=qn4 (Qgk qq_b hb) (hbox) (qq_s hg:w.heap.size≤d) (qq_s hg:w.heap.size≤d);clear HB;obtain⟨HB,a,k,l⟩:=n_;clear hb hbox hg;obtain⟨s,t⟩:=qc2 a.out;have E:=Qeq a.out) |((with_reducible refine Qju (f:=85) rfl ?_);refine Qhu (some 6) rfl rfl Tryz.func85 qq_6 rfl #[.agg #[.int .u8 c,.int .u32 b]] rfl qq_1 ?_;(with_reducible refine(Qal.calls c b j _ A3.out).mono ?_);rintro e M ⟨rfl,hb⟩;refine⟨_,rfl,?_⟩;have n_:=qn2 (Qfe (g:=d) (o:=.cells #[.int .u8 c,.int .u32 b] 27 (0,0)) qq_0 hb) (Qgk qq_b hb);clear a HB;obtain⟨a,HB⟩:=n_;(try clear hb);(try clear hb2);(try clear hk);(try clear hi);obtain⟨u,v⟩:=qc2 a.out;have G:=Qeq a.out))
   go_ret
   exact⟨qq_7,qq_b⟩
 ·rw[if_neg c4]at H;have n:(j == 0)=false:=beq_eq_false_iff_ne.mpr c4;have p:(j != 0)=true:=bne_iff_ne.mpr c4;obtain rfl:=Option.some.inj H
  go_enter Tryz.func93,Tryz.ntmps93
  go_wp2_with (first |((with_reducible refine Qgv (N:=2) rfl ?_);refine qq_e 2 #[.int .u8 c,.int .u32 b] 27 ?_;intro d hg O hbox hb;have n_:=qn4 (Qgk qq_b hb) (hbox) (qq_s hg:w.heap.size≤d) (qq_s hg:w.heap.size≤d);clear HB;obtain⟨HB,a,k,l⟩:=n_;clear hb hbox hg;obtain⟨x,y⟩:=qc2 a.out;have I:=Qeq a.out) |((with_reducible refine Qju (f:=85) rfl ?_);refine Qhu (some 6) rfl rfl Tryz.func85 qq_6 rfl #[.agg #[.int .u8 c,.int .u32 b]] rfl qq_1 ?_;(with_reducible refine(Qal.calls c b j _ A3.out).mono ?_);rintro e P ⟨rfl,hb⟩;refine⟨_,rfl,?_⟩;have n_:=qn2 (Qfe (g:=d) (o:=.cells #[.int .u8 c,.int .u32 b] 27 (0,0)) qq_0 hb) (Qgk qq_b hb);clear a HB;obtain⟨a,HB⟩:=n_;(try clear hb);(try clear hb2);(try clear hk);(try clear hi)))
  go_ret
  exact⟨qq_7,qq_b⟩
def Qam.f(a0_0:Int)(a0_1:Int):Option (Int):=(Qal.f a0_0 a0_1).bind fun t113=>(if t113=0 then(if 0≤a0_0 then(some (shl .i64 1 a0_0))else(none))else(some 0))
theorem Qam.calls(a:Int)(c:Int)(r:Int)(w:World)(h:Qam.f a c=some r) :
  Calls Tryz.prog 78 #[.agg #[.int .u8 a,.int .u32 c]] w fun e w'=>e=.returned (.int .i64 r)∧Below w.heap.size w w':=by
 have hu27:=Tryz.underlying27;have HB:=QA (Below.refl w.heap.size w);have H:((Qal.f a c).bind fun d=>(if d=0 then(if 0≤a then(some (shl .i64 1 a))else(none))else(some 0)))=some r:=h;clear h;replace H:=Option.bind_eq_some_iff.mp H;obtain⟨d,s,H⟩:=H;have A2:=QA s;clear s
 by_cases c3:d=0
 ·rw[if_pos c3]at H;have t:(d == 0)=true:=beq_iff_eq.mpr c3;have u:(d != 0)=false:=bne_eq_false_iff_eq.mpr c3;clear c3
  by_cases c4:0≤a
  ·rw[if_pos c4]at H;have K:=eq_true c4;have L:=decide_eq_true c4;clear c4;obtain⟨l,k⟩:∃j_:Int,(shl .i64 1 a)=j_:=⟨_,rfl⟩;replace H:(some l)=some r:=by first |(rw[k]at H;exact H) |(simp only[k]at H ⊢;exact H)
   (try rw[k]at A2)
   have m:(IntKind.i64.wrap (1*2^min a.toNat 64))=l:=k;have n:a≤64→(IntKind.i64.wrap (1*2^a.toNat))=l:=Qjw k;have D:(IntKind.i64.wrap (2^min a.toNat 64))=l:=by have h_:=m;rw[Int.one_mul]at h_;exact h_
   have E:a≤64→(IntKind.i64.wrap (2^a.toNat))=l:=fun hle_=>by have h_:=n hle_;rw[Int.one_mul]at h_;exact h_
   have G:(wrap64 (1*2^min a.toNat 64))=l:=(Qhx _).symm.trans m;have I:a≤64→(wrap64 (1*2^a.toNat))=l:=fun h_=>(Qhx _).symm.trans (n h_)
   obtain rfl:=Option.some.inj H
   go_enter Tryz.func78,Tryz.ntmps78
   go_wp2_with (first |((with_reducible refine Qgv (N:=1) rfl ?_);refine qq_e 1 #[.int .u8 a,.int .u32 c] 27 ?_;intro j hg w6 hbox hb;have n_:=qn4 (Qgk qq_b hb) (hbox) (qq_s hg:w.heap.size≤j) (qq_s hg:w.heap.size≤j);clear HB;obtain⟨HB,b,p,q⟩:=n_;clear hb hbox hg;obtain⟨y,z⟩:=qc2 b.out;have M:=Qeq b.out) |((with_reducible refine Qju (f:=85) rfl ?_);refine Qhu (some 4) rfl rfl Tryz.func85 qq_6 rfl #[.agg #[.int .u8 a,.int .u32 c]] rfl qq_1 ?_;(with_reducible refine(Qal.calls a c d _ A2.out).mono ?_);rintro e w8 ⟨rfl,hb⟩;refine⟨_,rfl,?_⟩;have n_:=qn2 (Qfe (g:=j) (o:=.cells #[.int .u8 a,.int .u32 c] 27 (0,0)) qq_0 hb) (Qgk qq_b hb);clear b HB;obtain⟨b,HB⟩:=n_;(try clear hb);(try clear hb2);(try clear hk);(try clear hi);obtain⟨A,B⟩:=qc2 b.out;have O:=Qeq b.out))
   go_ret
   exact⟨by first|rfl |(simp[Qkb,Qkc]<;>rfl) |(simp only[← k];first|rfl |(simp[Qkb,Qkc]<;>rfl)) |(simp[*,Qkb,Qkc]<;>rfl),qq_b⟩
  ·rw[if_neg c4]at H;exact absurd H (by simp)
 ·rw[if_neg c3]at H;have t:(d == 0)=false:=beq_eq_false_iff_ne.mpr c3;have u:(d != 0)=true:=bne_iff_ne.mpr c3;obtain rfl:=Option.some.inj H
  go_enter Tryz.func78,Tryz.ntmps78
  go_wp2_with (first |((with_reducible refine Qgv (N:=1) rfl ?_);refine qq_e 1 #[.int .u8 a,.int .u32 c] 27 ?_;intro j hg P hbox hb;have n_:=qn4 (Qgk qq_b hb) (hbox) (qq_s hg:w.heap.size≤j) (qq_s hg:w.heap.size≤j);clear HB;obtain⟨HB,b,p,q⟩:=n_;clear hb hbox hg;obtain⟨v,x⟩:=qc2 b.out;have J:=Qeq b.out) |((with_reducible refine Qju (f:=85) rfl ?_);refine Qhu (some 4) rfl rfl Tryz.func85 qq_6 rfl #[.agg #[.int .u8 a,.int .u32 c]] rfl qq_1 ?_;(with_reducible refine(Qal.calls a c d _ A2.out).mono ?_);rintro e T ⟨rfl,hb⟩;refine⟨_,rfl,?_⟩;have n_:=qn2 (Qfe (g:=j) (o:=.cells #[.int .u8 a,.int .u32 c] 27 (0,0)) qq_0 hb) (Qgk qq_b hb);clear b HB;obtain⟨b,HB⟩:=n_;(try clear hb);(try clear hb2);(try clear hk);(try clear hi)))
  go_ret
  exact⟨qq_7,qq_b⟩
def Qcn.f(a0:Int):Option (Int):=some (wrap64 (Int.tdiv (wrap64 ((wrap64 ((mx 0 a0)+16))-1)) 16))
theorem Qcn.calls(a0:Int)(r:Int)(w:World)(h:Qcn.f a0=some r) :
  Calls Tryz.prog 183 #[.int .i64 a0] w fun e w'=>e=.returned (.int .i64 r)∧Below w.heap.size w w':=by
 have HB:=QA (Below.refl w.heap.size w);have H:(some (wrap64 (Int.tdiv (wrap64 ((wrap64 ((mx 0 a0)+16))-1)) 16)))=some r:=h;clear h;obtain⟨ji2,hji2⟩:∃j_:Int,(mx 0 a0)=j_:=⟨_,rfl⟩;replace H:(some (wrap64 (Int.tdiv (wrap64 ((wrap64 ((ji2)+16))-1)) 16)))=some r:=by first |(rw[hji2]at H;exact H) |(simp only[hji2]at H ⊢;exact H)
 (try(have hji2l:0≤ji2:=by(rw[← hji2];unfold mx;(repeat' split)<;>omega)))
 (try(have hji2m:0≤ji2:=by omega))
 have hji2_:(if 0<a0 then a0 else 0)=ji2:=hji2;obtain rfl:=Option.some.inj H
 go_enter Tryz.func183,Tryz.ntmps183
 go_wp2;go_ret
 exact⟨by first|rfl |(simp[Qkb,Qkc]<;>rfl) |(simp only[← hji2];first|rfl |(simp[Qkb,Qkc]<;>rfl)) |(simp[*,Qkb,Qkc]<;>rfl),qq_b⟩
def Qcs.f(a0:Int):Option (Int):=(Qak.f (wrap64 ((mx 0 a0)+8))).bind fun t125=>(some (wrap64 (t125+1)))
theorem Qcs.calls(a0:Int)(r:Int)(w:World)(h:Qcs.f a0=some r) :
  Calls Tryz.prog 226 #[.int .i64 a0] w fun e w'=>e=.returned (.int .i64 r)∧Below w.heap.size w w':=by
 have HB:=QA (Below.refl w.heap.size w);have H:((Qak.f (wrap64 ((mx 0 a0)+8))).bind fun t125=>(some (wrap64 (t125+1))))=some r:=h;clear h;obtain⟨ji2,hji2⟩:∃j_:Int,(mx 0 a0)=j_:=⟨_,rfl⟩;replace H:((Qak.f (wrap64 ((ji2)+8))).bind fun t125=>(some (wrap64 (t125+1))))=some r:=by first |(rw[hji2]at H;exact H) |(simp only[hji2]at H ⊢;exact H)
 (try(have hji2l:0≤ji2:=by(rw[← hji2];unfold mx;(repeat' split)<;>omega)))
 (try(have hji2m:0≤ji2:=by omega))
 have hji2_:(if 0<a0 then a0 else 0)=ji2:=hji2;replace H:=Option.bind_eq_some_iff.mp H;obtain⟨t125,A30,H⟩:=H;have A3:=QA A30;clear A30;obtain rfl:=Option.some.inj H
 go_enter Tryz.func226,Tryz.ntmps226
 go_wp2_with (first |((with_reducible refine Qju (f:=197) rfl ?_);refine Qhu (some 6) rfl rfl Tryz.func197 qq_6 rfl #[.int .i64 (wrap64 ((ji2)+8))] rfl qq_20 ?_;(with_reducible refine(Qak.calls (wrap64 ((ji2)+8)) t125 _ A3.out).mono ?_);rintro e w' ⟨rfl,⟨nd,rfl⟩⟩;refine⟨_,rfl,?_⟩))
 go_ret
 exact⟨by first|rfl |(simp[Qkb,Qkc]<;>rfl) |(simp only[← hji2];first|rfl |(simp[Qkb,Qkc]<;>rfl)) |(simp[*,Qkb,Qkc]<;>rfl),qq_b⟩
def Qco.f(a0:Int):Option (Int):=(Qcn.f (mx 0 a0)).bind fun t126=>((Qcs.f (wrap64 ((wrap64 (9+(wrap64 (12*(mx 0 a0)))))+(wrap64 (8*t126))))).bind fun t127=>(some t127))
theorem Qco.calls(a0:Int)(r:Int)(w:World)(h:Qco.f a0=some r) :
  Calls Tryz.prog 198 #[.int .i64 a0] w fun e w'=>e=.returned (.int .i64 r)∧Below w.heap.size w w':=by
 have HB:=QA (Below.refl w.heap.size w);have H:((Qcn.f (mx 0 a0)).bind fun a=>((Qcs.f (wrap64 ((wrap64 (9+(wrap64 (12*(mx 0 a0)))))+(wrap64 (8*a))))).bind fun c=>(some c)))=some r:=h;clear h;obtain⟨b,hji2⟩:∃j_:Int,(mx 0 a0)=j_:=⟨_,rfl⟩;replace H:((Qcn.f (b)).bind fun a=>((Qcs.f (wrap64 ((wrap64 (9+(wrap64 (12*(b)))))+(wrap64 (8*a))))).bind fun c=>(some c)))=some r:=by first |(rw[hji2]at H;exact H) |(simp only[hji2]at H ⊢;exact H)
 (try(have j:0≤b:=by(rw[← hji2];unfold mx;(repeat' split)<;>omega)))
 (try(have k:0≤b:=by omega))
 have l:(if 0<a0 then a0 else 0)=b:=hji2;replace H:=Option.bind_eq_some_iff.mp H;obtain⟨a,d,H⟩:=H;have A3:=QA d;clear d;replace H:=Option.bind_eq_some_iff.mp H;obtain⟨c,g,H⟩:=H;have A4:=QA g;clear g;obtain rfl:=Option.some.inj H
 go_enter Tryz.func198,Tryz.ntmps198
 go_wp2_with (first |((with_reducible refine Qju (f:=183) rfl ?_);refine Qhu (some 9) rfl rfl Tryz.func183 qq_6 rfl #[.int .i64 b] rfl qq_20 ?_;(with_reducible refine(Qcn.calls b a _ A3.out).mono ?_);rintro e w5 ⟨rfl,hb⟩;refine⟨_,rfl,?_⟩;have n_:=qn1 (Qgk qq_b hb);clear HB;have HB:=n_;clear n_;(try clear hb);(try clear hb2);(try clear hk);(try clear hi)) |((with_reducible refine Qju (f:=226) rfl ?_);refine Qhu (some 12) rfl rfl Tryz.func226 qq_6 rfl #[.int .i64 (wrap64 ((wrap64 (9+(wrap64 (12*(b)))))+(wrap64 (8*a))))] rfl qq_20 ?_;(with_reducible refine(Qcs.calls (wrap64 ((wrap64 (9+(wrap64 (12*(b)))))+(wrap64 (8*a)))) c _ A4.out).mono ?_);rintro e w6 ⟨rfl,hb⟩;refine⟨_,rfl,?_⟩;have n_:=qn1 (Qgk qq_b hb);clear HB;have HB:=n_;clear n_;(try clear hb);(try clear hb2);(try clear hk);(try clear hi)))
 go_ret
 exact⟨by first|rfl |(simp[Qkb,Qkc]<;>rfl) |(simp only[← hji2];first|rfl |(simp[Qkb,Qkc]<;>rfl)) |(simp[*,Qkb,Qkc]<;>rfl),qq_b⟩
def Qdc.f(a0_0:Int)(a0_1:Int)(a0_2:Int)(a0_3:Int)(a0_4:Int):Option (Int):=(Qam.f a0_0 a0_1).bind fun t129=>((Qco.f (wrap64 (a0_4+1))).bind fun t130=>(some (mx 0 (wrap64 ((wrap64 (t129-a0_3))-t130)))))
def Qdc.T1:Bool × List (List Nat × List Nat):=(true,[([],[]),([0],[0]),([1],[1]),([],[]),([3],[3]),([2,4],[2,4]),([],[]),([6],[6]),([7],[7]),([8,2],[8]),([5,9],[5,9]),([10],[10]),([11,9,0,1,2,3,4,5,6,7,8,9,10,11],[11])])
def Qdc.B1:List Nat:=[0,1,3,0,8,31,0,64,192,455,1023,2047,4095]
theorem Qdc.tab1:rtab .any (Qjd Tryz.f154 1)=Qdc.T1:=by kernel_rfl
theorem Qdc.bits1:Qix Qdc.T1.2 Qdc.B1=true:=by kernel_rfl
theorem Qdc.calls(d:Int)(j:Int)(p:Int)(c:Int)(k:Int)(r:Int)(w:World)(h:Qdc.f d j p c k=some r) :
  Calls Tryz.prog 154 #[.agg #[.int .u8 d,.int .u32 j,.int .u32 p,.int .i64 c,.int .i64 k]] w fun e w'=>e=.returned (.int .i64 r)∧Below w.heap.size w w':=by
 have hu47:=Tryz.underlying47;have hu27:=Tryz.underlying27;have HB:=QA (Below.refl w.heap.size w);have H:((Qam.f d j).bind fun q=>((Qco.f (wrap64 (k+1))).bind fun s=>(some (mx 0 (wrap64 ((wrap64 (q-c))-s))))))=some r:=h;clear h;replace H:=Option.bind_eq_some_iff.mp H;obtain⟨q,u,H⟩:=H;have A2:=QA u;clear u;replace H:=Option.bind_eq_some_iff.mp H;obtain⟨s,v,H⟩:=H;have A3:=QA v;clear v;obtain⟨t,m⟩:∃j_:Int,(mx 0 (wrap64 ((wrap64 (q-c))-s)))=j_:=⟨_,rfl⟩;replace H:(some t)=some r:=by first |(rw[m]at H;exact H) |(simp only[m]at H ⊢;exact H)
 (try rw[m]at A2)
 (try rw[m]at A3)
 (try(have x:0≤t:=by(rw[← m];unfold mx;(repeat' split)<;>omega)))
 (try(have y:0≤t:=by omega))
 have z:(if 0<(wrap64 ((wrap64 (q-c))-s))then(wrap64 ((wrap64 (q-c))-s))else 0)=t:=m;obtain rfl:=Option.some.inj H
 go_enter Tryz.func154,Tryz.ntmps154
 try go_wp2_with (first |((with_reducible refine Qgv (N:=1) rfl ?_);refine qq_e 1 #[.int .u8 d,.int .u32 j,.int .u32 p,.int .i64 c,.int .i64 k] 47 ?_;intro b hg w5 hbox hb;have n_:=qn4 (Qgk qq_b hb) (hbox) (qq_s hg:w.heap.size≤b) (qq_s hg:w.heap.size≤b);clear HB;obtain⟨HB,a,A,B⟩:=n_;clear hb hbox hg))
 have n_:=qn2 (Qfc a.out) (Qgr HB.out);clear a HB;obtain⟨a,HB⟩:=n_;refine Qhk (n:=13) (S:=fun w'=>w'.cell? ⟨b,0,none⟩=some (.int .u8 d)∧w'.cell? ⟨b,1,none⟩=some (.int .u32 j)∧w'.cell? ⟨b,2,none⟩=some (.int .u32 p)∧w'.cell? ⟨b,3,none⟩=some (.int .i64 c)∧w'.cell? ⟨b,4,none⟩=some (.int .i64 k)) (ds:=[]) (bm 13 0) qq_6 rfl rfl ⟨(Qep a.out 0).trans rfl,(Qep a.out 1).trans rfl,(Qep a.out 2).trans rfl,(Qep a.out 3).trans rfl,(Qep a.out 4).trans rfl⟩ (fun l=>?_);refine Qjb Qdc.tab1 Qdc.bits1 (fun HT_ HW_=>?_);generalize w5.drew=w6 at a HB l ⊢;refine pz_ (i:=0) (N:=some 3) (bm 13 1) (Qit HT_.out qq_6) ?_;refine pz_ (i:=3) (N:=some 6) (bm 13 9) (Qit HT_.out qq_6) ?_;refine pz_ (i:=6) (N:=some 9) (bm 13 73) (Qit HT_.out qq_6) ?_;refine tz_ (i:=1) (N:=some 4) (bm 13 75) (Qja HT_.out HW_.out qq_6) l ?_;refine tz_ (i:=4) (N:=some 7) (bm 13 91) (Qja HT_.out HW_.out qq_6) l ?_;refine tz_ (i:=7) (N:=some 10) (bm 13 219) (Qja HT_.out HW_.out qq_6) l ?_;refine pz_ (i:=8) (N:=some 11) (bm 13 475) (Qit HT_.out qq_6) ?_;refine one_ (i:=2) (N:=some 5) (bm 13 479) rfl rfl (Qiu HT_.out qq_6) (by decide) (fun K hK=>?_);refine Qht Tryz.func78 qq_6 rfl #[.agg #[.int .u8 d,.int .u32 j]] (by rfl) rfl rfl qq_1 ?_;with_reducible refine(Qam.calls d j q _ A2.out).mono ?_
 rintro e w7 ⟨rfl,hb⟩;refine⟨_,rfl,?_⟩;have n_:=qn2 (Qfe (g:=b) (o:=.cells #[.int .u8 d,.int .u32 j,.int .u32 p,.int .i64 c,.int .i64 k] 47 (0,0)) qq_0 hb) (Qgk qq_b hb);clear a HB;obtain⟨a,HB⟩:=n_
 (try clear hb)
 (try clear hb2)
 (try clear hk)
 (try clear hi)
 refine hK.out _ _ ⟨(Qep a.out 0).trans rfl,(Qep a.out 1).trans rfl,(Qep a.out 2).trans rfl,(Qep a.out 3).trans rfl,(Qep a.out 4).trans rfl⟩ (fun l=>?_);clear hK K;refine nzp_ 5 ?_;refine pz_ (i:=5) (N:=some 8) (bm 13 511) (Qit HT_.out qq_6) ?_;refine one_ (i:=9) (N:=some 12) (bm 13 1023) rfl rfl (Qiu HT_.out qq_6) (by decide) (fun K hK=>?_);refine Qht Tryz.func198 qq_6 rfl #[.int .i64 (wrap64 (k+1))] (by rfl) rfl rfl qq_1 ?_;with_reducible refine(Qco.calls (wrap64 (k+1)) s _ A3.out).mono ?_
 rintro e w8 ⟨rfl,hb⟩;refine⟨_,rfl,?_⟩;have n_:=qn2 (Qfe (g:=b) (o:=.cells #[.int .u8 d,.int .u32 j,.int .u32 p,.int .i64 c,.int .i64 k] 47 (0,0)) qq_0 hb) (Qgk qq_b hb);clear a HB;obtain⟨a,HB⟩:=n_
 (try clear hb)
 (try clear hb2)
 (try clear hk)
 (try clear hi)
 refine hK.out _ _ ⟨(Qep a.out 0).trans rfl,(Qep a.out 1).trans rfl,(Qep a.out 2).trans rfl,(Qep a.out 3).trans rfl,(Qep a.out 4).trans rfl⟩ (fun l=>?_);clear hK K;refine nzp_ 12 ?_;refine pz_ (i:=10) (N:=some 13) (bm 13 2047) (Qit HT_.out qq_6) ?_;refine pz_ (i:=11) (N:=some 14) (bm 13 4095) (Qit HT_.out qq_6) ?_;refine pz_ (i:=12) (N:=some 2) (bm 13 8191) (Qit HT_.out qq_6) ?_;refine Qhn (Qiw HT_.out qq_6) ?_
 try go_wp2
 go_ret
 exact⟨by first|rfl |(simp[Qkb,Qkc]<;>rfl) |(simp only[← m];first|rfl |(simp[Qkb,Qkc]<;>rfl)) |(simp[*,Qkb,Qkc]<;>rfl),qq_b⟩
def Qdb.f(a0_0:Int)(a0_1:Int)(a0_2:Int)(a0_3:Int)(a0_4:Int)(a1:Int):Option (Bool):=if a1≥1 then((Qdc.f a0_0 a0_1 a0_2 a0_3 a0_4).bind fun t132=>(some (decide (a1≤t132))))else(some false)
theorem Qdb.calls(b:Int)(c:Int)(d:Int)(j:Int)(k:Int)(a1:Int)(r:Bool)(w:World)(h:Qdb.f b c d j k a1=some r) :
  Calls Tryz.prog 100 #[.agg #[.int .u8 b,.int .u32 c,.int .u32 d,.int .i64 j,.int .i64 k],.int .i64 a1] w fun e w'=>e=.returned (.bool r)∧Below w.heap.size w w':=by
 have hu47:=Tryz.underlying47;have HB:=QA (Below.refl w.heap.size w);have H:(if a1≥1 then((Qdc.f b c d j k).bind fun m=>(some (decide (a1≤m))))else(some false))=some r:=h;clear h
 by_cases c3:a1≥1
 ·rw[if_pos c3]at H;have s:decide (1≤a1)=true:=decide_eq_true c3;clear c3;replace H:=Option.bind_eq_some_iff.mp H;obtain⟨m,q,H⟩:=H;have A4:=QA q;clear q;obtain rfl:=Option.some.inj H
  go_enter Tryz.func100,Tryz.ntmps100
  go_wp2_with (first |((with_reducible refine Qgv (N:=2) rfl ?_);refine qq_e 2 #[.int .u8 b,.int .u32 c,.int .u32 d,.int .i64 j,.int .i64 k] 47 ?_;intro a hg w5 hbox hb;have n_:=qn4 (Qgk qq_b hb) (hbox) (qq_s hg:w.heap.size≤a) (qq_s hg:w.heap.size≤a);clear HB;obtain⟨HB,l,n,p⟩:=n_;clear hb hbox hg;obtain⟨t,u,v,x,y⟩:=qc5 l.out;have z:=Qeq l.out) |(go_at_call 154;(with_reducible refine(Qdc.calls b c d j k m _ A4.out).mono ?_);rintro e w7 ⟨rfl,hb⟩;have n_:=qn2 (Qfe (g:=a) (o:=.cells #[.int .u8 b,.int .u32 c,.int .u32 d,.int .i64 j,.int .i64 k] 47 (0,0)) qq_0 hb) (Qgk qq_b hb);clear l HB;obtain⟨l,HB⟩:=n_;(try clear hb);(try clear hb2);(try clear hk);(try clear hi)))
  go_ret
  exact⟨qq_7,qq_b⟩
 ·rw[if_neg c3]at H;have s:decide (1≤a1)=false:=decide_eq_false c3;clear c3;obtain rfl:=Option.some.inj H
  go_enter Tryz.func100,Tryz.ntmps100
  go_wp2_with (first |((with_reducible refine Qgv (N:=2) rfl ?_);refine qq_e 2 #[.int .u8 b,.int .u32 c,.int .u32 d,.int .i64 j,.int .i64 k] 47 ?_;intro a hg w8 hbox hb;have n_:=qn4 (Qgk qq_b hb) (hbox) (qq_s hg:w.heap.size≤a) (qq_s hg:w.heap.size≤a);clear HB;obtain⟨HB,l,n,p⟩:=n_;clear hb hbox hg))
  go_ret
  exact⟨qq_7,qq_b⟩
def Qdd.f(a0_0:Int)(a0_1:Int)(a0_2:Int)(a0_3:Int)(a0_4:Int)(a1:Int):Option (Int × Int × Int × Int × Int × Int):=(Qdb.f a0_0 a0_1 a0_2 a0_3 a0_4 a1).bind fun t144=>(if t144=true then(some (a0_0,a0_1,a0_2,wrap64 (a0_3+a1),wrap64 (a0_4+1),0))else(some (0,0,0,0,0,7)))
theorem Qdd.calls(a:Int)(b:Int)(d:Int)(j:Int)(k:Int)(a1:Int)(r1:Int)(r2:Int)(r3:Int)(r4:Int)(r5:Int)(r6:Int)(w:World)(h:Qdd.f a b d j k a1=some (r1,r2,r3,r4,r5,r6)) :
  Calls Tryz.prog 59 #[.agg #[.int .u8 a,.int .u32 b,.int .u32 d,.int .i64 j,.int .i64 k],.int .i64 a1] w fun e w'=>e=.returned (.tuple #[.agg #[.int .u8 r1,.int .u32 r2,.int .u32 r3,.int .i64 r4,.int .i64 r5],.int .i64 r6])∧Below w.heap.size w w':=by
 have hu47:=Tryz.underlying47;have HB:=QA (Below.refl w.heap.size w);have H:((Qdb.f a b d j k a1).bind fun r=>(if r=true then(some (a,b,d,wrap64 (j+a1),wrap64 (k+1),0))else(some (0,0,0,0,0,7))))=some (r1,r2,r3,r4,r5,r6):=h;clear h;replace H:=Option.bind_eq_some_iff.mp H;obtain⟨r,x,H⟩:=H;have A3:=QA x;clear x
 by_cases c4:r=true
 ·subst c4;rw[if_pos rfl]at H;simp only[Option.some.injEq,Prod.mk.injEq]at H;obtain⟨rfl,rfl,rfl,rfl,rfl,rfl⟩:=H
  go_enter Tryz.func59,Tryz.ntmps59
  go_wp2_with (first |((with_reducible refine Qgv (N:=2) rfl ?_);refine qq_e 2 #[.int .u8 a,.int .u32 b,.int .u32 d,.int .i64 j,.int .i64 k] 47 ?_;intro c hg w5 hbox hb;have n_:=qn4 (Qgk qq_b hb) (hbox) (qq_s hg:w.heap.size≤c) (qq_s hg:w.heap.size≤c);clear HB;obtain⟨HB,l,s,t⟩:=n_;clear hb hbox hg) |((with_reducible refine Qgv (N:=4) rfl ?_);refine qq_e 4 #[.int .u8 0,.int .u32 0,.int .u32 0,.int .i64 0,.int .i64 0] 47 ?_;intro m hg w6 hbox hb;have n_:=qn7 (Qfe (g:=c) (o:=.cells #[.int .u8 a,.int .u32 b,.int .u32 d,.int .i64 j,.int .i64 k] 47 (0,0)) qq_0 hb) (Qgk qq_b hb) (hbox) (qq_s hg:w.heap.size≤m) (qq_s hg:w.heap.size≤m) ((by rw[hg];exact Nat.ne_of_lt (Qeo (g:=c) (o:=.cells #[.int .u8 a,.int .u32 b,.int .u32 d,.int .i64 j,.int .i64 k] 47 (0,0)) qq_0):c≠m)) ((by rw[hg];exact Nat.ne_of_gt (Qeo (g:=c) (o:=.cells #[.int .u8 a,.int .u32 b,.int .u32 d,.int .i64 j,.int .i64 k] 47 (0,0)) qq_0):m≠c));clear l HB;obtain⟨l,HB,n,u,v,q,p⟩:=n_;clear hb hbox hg;have al:=q.out;have am:=p.out;obtain⟨aa,ab,ac,ad,ae⟩:=qc5 l.out;have an:=Qeq l.out) |((with_reducible refine Qju (f:=100) rfl ?_);refine Qhu (some 8) rfl rfl Tryz.func100 qq_6 rfl #[.agg #[.int .u8 a,.int .u32 b,.int .u32 d,.int .i64 j,.int .i64 k],.int .i64 a1] rfl qq_1 ?_;(with_reducible refine(Qdb.calls a b d j k a1 true _ A3.out).mono ?_);rintro e w9 ⟨rfl,hb⟩;refine⟨_,rfl,?_⟩;have n_:=qn3 (Qfe (g:=c) (o:=.cells #[.int .u8 a,.int .u32 b,.int .u32 d,.int .i64 j,.int .i64 k] 47 (0,0)) qq_0 hb) (Qfe (g:=m) (o:=.cells #[.int .u8 0,.int .u32 0,.int .u32 0,.int .i64 0,.int .i64 0] 47 (0,0)) qq_0 hb) (Qgk qq_b hb);clear l n HB;obtain⟨l,n,HB⟩:=n_;(try clear hb);(try clear hb2);(try clear hk);(try clear hi);obtain⟨y,z,A,B,D⟩:=qc5 l.out;have af:=Qeq l.out;obtain⟨E,G,I,J,K⟩:=qc5 n.out;have ag:=Qeq n.out))
  refine bodyPost_ret (Qfg rfl _ _ m 47 #[.int .u8 a,.int .u32 b,.int .u32 d,.int .i64 (wrap64 (j+a1)),.int .i64 (wrap64 (k+1))] (0,0) _ rfl (by(with_reducible repeat(first|apply Qfd|apply Qfc|apply Qfb));refine Qgq (cs:=#[.int .u8 a,.int .u32 b,.int .u32 d,.int .i64 (wrap64 (j+a1)),.int .i64 0]) ?_ 4 _ rfl;(with_reducible repeat(first|apply Qfd|apply Qfc|apply Qfb));refine Qgq (cs:=#[.int .u8 a,.int .u32 b,.int .u32 d,.int .i64 0,.int .i64 0]) ?_ 3 _ rfl;(with_reducible repeat(first|apply Qfd|apply Qfc|apply Qfb));refine Qgq (cs:=#[.int .u8 a,.int .u32 b,.int .u32 0,.int .i64 0,.int .i64 0]) ?_ 2 _ rfl;(with_reducible repeat(first|apply Qfd|apply Qfc|apply Qfb));refine Qgq (cs:=#[.int .u8 a,.int .u32 0,.int .u32 0,.int .i64 0,.int .i64 0]) ?_ 1 _ rfl;(with_reducible repeat(first|apply Qfd|apply Qfc|apply Qfb));refine Qgq (cs:=#[.int .u8 0,.int .u32 0,.int .u32 0,.int .i64 0,.int .i64 0]) ?_ 0 _ rfl;(with_reducible repeat(first|apply Qfd|apply Qfc|apply Qfb));refine Qen ?_ p.out _;(with_reducible repeat(first|apply Qfd|apply Qfc|apply Qfb));refine Qen ?_ p.out _;(with_reducible repeat(first|apply Qfd|apply Qfc|apply Qfb));exact n.out) Tryz.underlying47 rfl qq_6) rfl ?_;exact⟨qq_7,qq_b⟩
 ·replace c4:=Bool.eq_false_iff.mpr c4;subst c4;rw[if_neg (show ¬(false=true)by decide)]at H;simp only[Option.some.injEq,Prod.mk.injEq]at H;obtain⟨rfl,rfl,rfl,rfl,rfl,rfl⟩:=H
  go_enter Tryz.func59,Tryz.ntmps59
  go_wp2_with (first |((with_reducible refine Qgv (N:=2) rfl ?_);refine qq_e 2 #[.int .u8 a,.int .u32 b,.int .u32 d,.int .i64 j,.int .i64 k] 47 ?_;intro c hg ao hbox hb;have n_:=qn4 (Qgk qq_b hb) (hbox) (qq_s hg:w.heap.size≤c) (qq_s hg:w.heap.size≤c);clear HB;obtain⟨HB,l,s,t⟩:=n_;clear hb hbox hg) |((with_reducible refine Qgv (N:=4) rfl ?_);refine qq_e 4 #[.int .u8 0,.int .u32 0,.int .u32 0,.int .i64 0,.int .i64 0] 47 ?_;intro m hg ap hbox hb;have n_:=qn7 (Qfe (g:=c) (o:=.cells #[.int .u8 a,.int .u32 b,.int .u32 d,.int .i64 j,.int .i64 k] 47 (0,0)) qq_0 hb) (Qgk qq_b hb) (hbox) (qq_s hg:w.heap.size≤m) (qq_s hg:w.heap.size≤m) ((by rw[hg];exact Nat.ne_of_lt (Qeo (g:=c) (o:=.cells #[.int .u8 a,.int .u32 b,.int .u32 d,.int .i64 j,.int .i64 k] 47 (0,0)) qq_0):c≠m)) ((by rw[hg];exact Nat.ne_of_gt (Qeo (g:=c) (o:=.cells #[.int .u8 a,.int .u32 b,.int .u32 d,.int .i64 j,.int .i64 k] 47 (0,0)) qq_0):m≠c));clear l HB;obtain⟨l,HB,n,u,v,q,p⟩:=n_;clear hb hbox hg;have ah:=q.out;have ai:=p.out;obtain⟨L,M,O,P,T⟩:=qc5 l.out;have aj:=Qeq l.out) |((with_reducible refine Qju (f:=100) rfl ?_);refine Qhu (some 8) rfl rfl Tryz.func100 qq_6 rfl #[.agg #[.int .u8 a,.int .u32 b,.int .u32 d,.int .i64 j,.int .i64 k],.int .i64 a1] rfl qq_1 ?_;(with_reducible refine(Qdb.calls a b d j k a1 false _ A3.out).mono ?_);rintro e aq ⟨rfl,hb⟩;refine⟨_,rfl,?_⟩;have n_:=qn3 (Qfe (g:=c) (o:=.cells #[.int .u8 a,.int .u32 b,.int .u32 d,.int .i64 j,.int .i64 k] 47 (0,0)) qq_0 hb) (Qfe (g:=m) (o:=.cells #[.int .u8 0,.int .u32 0,.int .u32 0,.int .i64 0,.int .i64 0] 47 (0,0)) qq_0 hb) (Qgk qq_b hb);clear l n HB;obtain⟨l,n,HB⟩:=n_;(try clear hb);(try clear hb2);(try clear hk);(try clear hi);obtain⟨U,W,X,Y,Z⟩:=qc5 n.out;have ak:=Qeq n.out))
  refine bodyPost_ret (Qfg rfl _ _ m 47 #[.int .u8 0,.int .u32 0,.int .u32 0,.int .i64 0,.int .i64 0] (0,0) _ rfl qq_x Tryz.underlying47 rfl qq_6) rfl ?_;exact⟨qq_7,qq_b⟩
def Qab.f(a0:Int)(a1:Int):Option (Int × Int):=some (IntKind.u64.wrap ((IntKind.u64.wrap ((IntKind.u64.wrap ((a0/4294967296)*(a1/4294967296)))+((IntKind.u64.wrap ((IntKind.u64.wrap ((a0/4294967296)*(Go.bits .and .u64 a1 4294967295)))+((IntKind.u64.wrap ((Go.bits .and .u64 a0 4294967295)*(Go.bits .and .u64 a1 4294967295)))/4294967296)))/4294967296)))+((IntKind.u64.wrap ((Go.bits .and .u64 (IntKind.u64.wrap ((IntKind.u64.wrap ((a0/4294967296)*(Go.bits .and .u64 a1 4294967295)))+((IntKind.u64.wrap ((Go.bits .and .u64 a0 4294967295)*(Go.bits .and .u64 a1 4294967295)))/4294967296))) 4294967295)+(IntKind.u64.wrap ((Go.bits .and .u64 a0 4294967295)*(a1/4294967296)))))/4294967296)),IntKind.u64.wrap (a0*a1))
theorem Qab.calls(a0:Int)(a1:Int)(r1:Int)(r2:Int)(w:World)(h:Qab.f a0 a1=some (r1,r2)) :
  Calls Tryz.prog 218 #[.int .u64 a0,.int .u64 a1] w fun e w'=>e=.returned (.tuple #[.int .u64 r1,.int .u64 r2])∧Drawn0 w w':=by
 have H:(some (IntKind.u64.wrap ((IntKind.u64.wrap ((IntKind.u64.wrap ((a0/4294967296)*(a1/4294967296)))+((IntKind.u64.wrap ((IntKind.u64.wrap ((a0/4294967296)*(Go.bits .and .u64 a1 4294967295)))+((IntKind.u64.wrap ((Go.bits .and .u64 a0 4294967295)*(Go.bits .and .u64 a1 4294967295)))/4294967296)))/4294967296)))+((IntKind.u64.wrap ((Go.bits .and .u64 (IntKind.u64.wrap ((IntKind.u64.wrap ((a0/4294967296)*(Go.bits .and .u64 a1 4294967295)))+((IntKind.u64.wrap ((Go.bits .and .u64 a0 4294967295)*(Go.bits .and .u64 a1 4294967295)))/4294967296))) 4294967295)+(IntKind.u64.wrap ((Go.bits .and .u64 a0 4294967295)*(a1/4294967296)))))/4294967296)),IntKind.u64.wrap (a0*a1)))=some (r1,r2):=h;clear h;simp only[Option.some.injEq,Prod.mk.injEq]at H;obtain⟨rfl,rfl⟩:=H
 go_enter Tryz.func218,Tryz.ntmps218
 go_wp2
 go_ret2
 exact⟨by first|rfl |(simp;done) |(simp[*];done),by repeat(first|exact Drawn0.refl _|apply Drawn0.step)⟩
def Qaa.f(a0:Int)(a1:Int):Option (Int × Int):=(Qab.f a0 a1).bind fun bt114=>(some (bt114.1,bt114.2))
theorem Qaa.calls(a0:Int)(a1:Int)(r1:Int)(r2:Int)(w:World)(h:Qaa.f a0 a1=some (r1,r2)) :
  Calls Tryz.prog 168 #[.int .u64 a0,.int .u64 a1] w fun e w'=>e=.returned (.tuple #[.int .u64 r1,.int .u64 r2])∧Drawn0 w w':=by
 have H:((Qab.f a0 a1).bind fun bt114=>(some (bt114.1,bt114.2)))=some (r1,r2):=h;clear h;replace H:=Option.bind_eq_some_iff.mp H;obtain⟨⟨t114,t115⟩,A30,H⟩:=H;replace H:(some (t114,t115))=some (r1,r2):=H;have A3:=QA A30;clear A30;simp only[Option.some.injEq,Prod.mk.injEq]at H;obtain⟨rfl,rfl⟩:=H
 go_enter Tryz.func168,Tryz.ntmps168
 go_wp2_with (first |((with_reducible refine Qju (f:=218) rfl ?_);refine Qhu (some 25) rfl rfl Tryz.func218 qq_6 rfl #[.int .u64 a0,.int .u64 a1] rfl qq_1 ?_;(with_reducible refine(Qab.calls a0 a1 t114 t115 _ A3.out).mono ?_);rintro e w' ⟨rfl,⟨nd,rfl⟩⟩;refine⟨_,rfl,?_⟩))
 go_ret2
 exact⟨by first|rfl |(simp;done) |(simp[*];done),by repeat(first|exact Drawn0.refl _|apply Drawn0.step)⟩
def Qai.f(a0:Int):Option (Bool):=some (a0 != a0)
theorem Qai.calls(a0:Int)(r:Bool)(w:World)(h:Qai.f a0=some r) :
  Calls Tryz.prog 216 #[.int .u32 a0] w fun e w'=>e=.returned (.bool r)∧Drawn0 w w':=by
 have H:(some (a0 != a0))=some r:=h;clear h;obtain rfl:=Option.some.inj H
 go_enter Tryz.func216,Tryz.ntmps216
 go_wp2;go_ret
 exact⟨by first|rfl |(simp;done) |(simp[*];done),by repeat(first|exact Drawn0.refl _|apply Drawn0.step)⟩
def Qaf.f(a0:Int)(a1:Int):Option (Int):=(Qai.f a0).bind fun t211=>((Qai.f a1).bind fun t212=>(if t211=true then(if t212=true then(some 0)else(some (-1)))else(if t212=true then(some 1)else(if a0<a1 then(some (-1))else(if a0 > a1 then(some 1)else(some 0))))))
theorem Qaf.calls(a0:Int)(a1:Int)(r:Int)(w:World)(h:Qaf.f a0 a1=some r) :
  Calls Tryz.prog 167 #[.int .u32 a0,.int .u32 a1] w fun e w'=>e=.returned (.int .i64 r)∧Drawn0 w w':=by
 have H:((Qai.f a0).bind fun b=>((Qai.f a1).bind fun a=>(if b=true then(if a=true then(some 0)else(some (-1)))else(if a=true then(some 1)else(if a0<a1 then(some (-1))else(if a0 > a1 then(some 1)else(some 0)))))))=some r:=h;clear h;replace H:=Option.bind_eq_some_iff.mp H;obtain⟨b,c,H⟩:=H;have A3:=QA c;clear c;replace H:=Option.bind_eq_some_iff.mp H;obtain⟨a,d,H⟩:=H;have A4:=QA d;clear d
 by_cases c5:b=true
 ·subst c5;rw[if_pos rfl]at H
  by_cases c6:a=true
  ·subst c6;rw[if_pos rfl]at H;obtain rfl:=Option.some.inj H
   go_enter Tryz.func167,Tryz.ntmps167
   go_wp2_with (first |((with_reducible refine Qju (f:=216) rfl ?_);refine Qhu (some 8) rfl rfl Tryz.func216 qq_6 rfl #[.int .u32 a0] rfl qq_1 ?_;(with_reducible refine(Qai.calls a0 true _ A3.out).mono ?_);rintro e w' ⟨rfl,⟨nd,rfl⟩⟩;refine⟨_,rfl,?_⟩) |((with_reducible refine Qju (f:=216) rfl ?_);refine Qhu (some 10) rfl rfl Tryz.func216 qq_6 rfl #[.int .u32 a1] rfl qq_1 ?_;(with_reducible refine(Qai.calls a1 true _ A4.out).mono ?_);rintro e w' ⟨rfl,⟨nd,rfl⟩⟩;refine⟨_,rfl,?_⟩))
   go_ret
   exact⟨by first|rfl |(simp;done) |(simp[*];done),by repeat(first|exact Drawn0.refl _|apply Drawn0.step)⟩
  ·replace c6:=Bool.eq_false_iff.mpr c6;subst c6;rw[if_neg (show ¬(false=true)by decide)]at H;obtain rfl:=Option.some.inj H
   go_enter Tryz.func167,Tryz.ntmps167
   go_wp2_with (first |((with_reducible refine Qju (f:=216) rfl ?_);refine Qhu (some 8) rfl rfl Tryz.func216 qq_6 rfl #[.int .u32 a0] rfl qq_1 ?_;(with_reducible refine(Qai.calls a0 true _ A3.out).mono ?_);rintro e w' ⟨rfl,⟨nd,rfl⟩⟩;refine⟨_,rfl,?_⟩) |((with_reducible refine Qju (f:=216) rfl ?_);refine Qhu (some 10) rfl rfl Tryz.func216 qq_6 rfl #[.int .u32 a1] rfl qq_1 ?_;(with_reducible refine(Qai.calls a1 false _ A4.out).mono ?_);rintro e w' ⟨rfl,⟨nd,rfl⟩⟩;refine⟨_,rfl,?_⟩))
   go_ret
   exact⟨by first|rfl |(simp;done) |(simp[*];done),by repeat(first|exact Drawn0.refl _|apply Drawn0.step)⟩
 ·replace c5:=Bool.eq_false_iff.mpr c5;subst c5;rw[if_neg (show ¬(false=true)by decide)]at H
  by_cases c7:a=true
  ·subst c7;rw[if_pos rfl]at H;obtain rfl:=Option.some.inj H
   go_enter Tryz.func167,Tryz.ntmps167
   go_wp2_with (first |((with_reducible refine Qju (f:=216) rfl ?_);refine Qhu (some 8) rfl rfl Tryz.func216 qq_6 rfl #[.int .u32 a0] rfl qq_1 ?_;(with_reducible refine(Qai.calls a0 false _ A3.out).mono ?_);rintro e w' ⟨rfl,⟨nd,rfl⟩⟩;refine⟨_,rfl,?_⟩) |((with_reducible refine Qju (f:=216) rfl ?_);refine Qhu (some 10) rfl rfl Tryz.func216 qq_6 rfl #[.int .u32 a1] rfl qq_1 ?_;(with_reducible refine(Qai.calls a1 true _ A4.out).mono ?_);rintro e w' ⟨rfl,⟨nd,rfl⟩⟩;refine⟨_,rfl,?_⟩))
   go_ret
   exact⟨by first|rfl |(simp;done) |(simp[*];done),by repeat(first|exact Drawn0.refl _|apply Drawn0.step)⟩
  ·replace c7:=Bool.eq_false_iff.mpr c7;subst c7;rw[if_neg (show ¬(false=true)by decide)]at H
   by_cases c8:a0<a1
   ·rw[if_pos c8]at H;have g:=decide_eq_true c8;clear c8;obtain rfl:=Option.some.inj H
    go_enter Tryz.func167,Tryz.ntmps167
    go_wp2_with (first |((with_reducible refine Qju (f:=216) rfl ?_);refine Qhu (some 8) rfl rfl Tryz.func216 qq_6 rfl #[.int .u32 a0] rfl qq_1 ?_;(with_reducible refine(Qai.calls a0 false _ A3.out).mono ?_);rintro e w' ⟨rfl,⟨nd,rfl⟩⟩;refine⟨_,rfl,?_⟩) |((with_reducible refine Qju (f:=216) rfl ?_);refine Qhu (some 10) rfl rfl Tryz.func216 qq_6 rfl #[.int .u32 a1] rfl qq_1 ?_;(with_reducible refine(Qai.calls a1 false _ A4.out).mono ?_);rintro e w' ⟨rfl,⟨nd,rfl⟩⟩;refine⟨_,rfl,?_⟩))
    go_ret
    exact⟨by first|rfl |(simp;done) |(simp[*];done),by repeat(first|exact Drawn0.refl _|apply Drawn0.step)⟩
   ·rw[if_neg c8]at H;have g:=decide_eq_false c8;clear c8
    by_cases c9:a0 > a1
    ·rw[if_pos c9]at H;have j:decide (a1<a0)=true:=decide_eq_true c9;clear c9;obtain rfl:=Option.some.inj H
     go_enter Tryz.func167,Tryz.ntmps167
     go_wp2_with (first |((with_reducible refine Qju (f:=216) rfl ?_);refine Qhu (some 8) rfl rfl Tryz.func216 qq_6 rfl #[.int .u32 a0] rfl qq_1 ?_;(with_reducible refine(Qai.calls a0 false _ A3.out).mono ?_);rintro e w' ⟨rfl,⟨nd,rfl⟩⟩;refine⟨_,rfl,?_⟩) |((with_reducible refine Qju (f:=216) rfl ?_);refine Qhu (some 10) rfl rfl Tryz.func216 qq_6 rfl #[.int .u32 a1] rfl qq_1 ?_;(with_reducible refine(Qai.calls a1 false _ A4.out).mono ?_);rintro e w' ⟨rfl,⟨nd,rfl⟩⟩;refine⟨_,rfl,?_⟩))
     go_ret
     exact⟨by first|rfl |(simp;done) |(simp[*];done),by repeat(first|exact Drawn0.refl _|apply Drawn0.step)⟩
    ·rw[if_neg c9]at H;have j:decide (a1<a0)=false:=decide_eq_false c9;clear c9;obtain rfl:=Option.some.inj H
     go_enter Tryz.func167,Tryz.ntmps167
     go_wp2_with (first |((with_reducible refine Qju (f:=216) rfl ?_);refine Qhu (some 8) rfl rfl Tryz.func216 qq_6 rfl #[.int .u32 a0] rfl qq_1 ?_;(with_reducible refine(Qai.calls a0 false _ A3.out).mono ?_);rintro e w' ⟨rfl,⟨nd,rfl⟩⟩;refine⟨_,rfl,?_⟩) |((with_reducible refine Qju (f:=216) rfl ?_);refine Qhu (some 10) rfl rfl Tryz.func216 qq_6 rfl #[.int .u32 a1] rfl qq_1 ?_;(with_reducible refine(Qai.calls a1 false _ A4.out).mono ?_);rintro e w' ⟨rfl,⟨nd,rfl⟩⟩;refine⟨_,rfl,?_⟩))
     go_ret
     exact⟨by first|rfl |(simp;done) |(simp[*];done),by repeat(first|exact Drawn0.refl _|apply Drawn0.step)⟩
def Qag.f(a0:Int)(a1:Int):Option (Int):=(Qaj.f a0).bind fun t209=>((Qaj.f a1).bind fun t210=>(if t209=true then(if t210=true then(some 0)else(some (-1)))else(if t210=true then(some 1)else(if a0<a1 then(some (-1))else(if a0 > a1 then(some 1)else(some 0))))))
theorem Qag.calls(a0:Int)(a1:Int)(r:Int)(w:World)(h:Qag.f a0 a1=some r) :
  Calls Tryz.prog 166 #[.int .u64 a0,.int .u64 a1] w fun e w'=>e=.returned (.int .i64 r)∧Drawn0 w w':=by
 have H:((Qaj.f a0).bind fun b=>((Qaj.f a1).bind fun a=>(if b=true then(if a=true then(some 0)else(some (-1)))else(if a=true then(some 1)else(if a0<a1 then(some (-1))else(if a0 > a1 then(some 1)else(some 0)))))))=some r:=h;clear h;replace H:=Option.bind_eq_some_iff.mp H;obtain⟨b,c,H⟩:=H;have A3:=QA c;clear c;replace H:=Option.bind_eq_some_iff.mp H;obtain⟨a,d,H⟩:=H;have A4:=QA d;clear d
 by_cases c5:b=true
 ·subst c5;rw[if_pos rfl]at H
  by_cases c6:a=true
  ·subst c6;rw[if_pos rfl]at H;obtain rfl:=Option.some.inj H
   go_enter Tryz.func166,Tryz.ntmps166
   go_wp2_with (first |((with_reducible refine Qju (f:=215) rfl ?_);refine Qhu (some 8) rfl rfl Tryz.func215 qq_6 rfl #[.int .u64 a0] rfl qq_1 ?_;(with_reducible refine(Qaj.calls a0 true _ A3.out).mono ?_);rintro e w' ⟨rfl,⟨nd,rfl⟩⟩;refine⟨_,rfl,?_⟩) |((with_reducible refine Qju (f:=215) rfl ?_);refine Qhu (some 10) rfl rfl Tryz.func215 qq_6 rfl #[.int .u64 a1] rfl qq_1 ?_;(with_reducible refine(Qaj.calls a1 true _ A4.out).mono ?_);rintro e w' ⟨rfl,⟨nd,rfl⟩⟩;refine⟨_,rfl,?_⟩))
   go_ret
   exact⟨by first|rfl |(simp;done) |(simp[*];done),by repeat(first|exact Drawn0.refl _|apply Drawn0.step)⟩
  ·replace c6:=Bool.eq_false_iff.mpr c6;subst c6;rw[if_neg (show ¬(false=true)by decide)]at H;obtain rfl:=Option.some.inj H
   go_enter Tryz.func166,Tryz.ntmps166
   go_wp2_with (first |((with_reducible refine Qju (f:=215) rfl ?_);refine Qhu (some 8) rfl rfl Tryz.func215 qq_6 rfl #[.int .u64 a0] rfl qq_1 ?_;(with_reducible refine(Qaj.calls a0 true _ A3.out).mono ?_);rintro e w' ⟨rfl,⟨nd,rfl⟩⟩;refine⟨_,rfl,?_⟩) |((with_reducible refine Qju (f:=215) rfl ?_);refine Qhu (some 10) rfl rfl Tryz.func215 qq_6 rfl #[.int .u64 a1] rfl qq_1 ?_;(with_reducible refine(Qaj.calls a1 false _ A4.out).mono ?_);rintro e w' ⟨rfl,⟨nd,rfl⟩⟩;refine⟨_,rfl,?_⟩))
   go_ret
   exact⟨by first|rfl |(simp;done) |(simp[*];done),by repeat(first|exact Drawn0.refl _|apply Drawn0.step)⟩
 ·replace c5:=Bool.eq_false_iff.mpr c5;subst c5;rw[if_neg (show ¬(false=true)by decide)]at H
  by_cases c7:a=true
  ·subst c7;rw[if_pos rfl]at H;obtain rfl:=Option.some.inj H
   go_enter Tryz.func166,Tryz.ntmps166
   go_wp2_with (first |((with_reducible refine Qju (f:=215) rfl ?_);refine Qhu (some 8) rfl rfl Tryz.func215 qq_6 rfl #[.int .u64 a0] rfl qq_1 ?_;(with_reducible refine(Qaj.calls a0 false _ A3.out).mono ?_);rintro e w' ⟨rfl,⟨nd,rfl⟩⟩;refine⟨_,rfl,?_⟩) |((with_reducible refine Qju (f:=215) rfl ?_);refine Qhu (some 10) rfl rfl Tryz.func215 qq_6 rfl #[.int .u64 a1] rfl qq_1 ?_;(with_reducible refine(Qaj.calls a1 true _ A4.out).mono ?_);rintro e w' ⟨rfl,⟨nd,rfl⟩⟩;refine⟨_,rfl,?_⟩))
   go_ret
   exact⟨by first|rfl |(simp;done) |(simp[*];done),by repeat(first|exact Drawn0.refl _|apply Drawn0.step)⟩
  ·replace c7:=Bool.eq_false_iff.mpr c7;subst c7;rw[if_neg (show ¬(false=true)by decide)]at H
   by_cases c8:a0<a1
   ·rw[if_pos c8]at H;have g:=decide_eq_true c8;clear c8;obtain rfl:=Option.some.inj H
    go_enter Tryz.func166,Tryz.ntmps166
    go_wp2_with (first |((with_reducible refine Qju (f:=215) rfl ?_);refine Qhu (some 8) rfl rfl Tryz.func215 qq_6 rfl #[.int .u64 a0] rfl qq_1 ?_;(with_reducible refine(Qaj.calls a0 false _ A3.out).mono ?_);rintro e w' ⟨rfl,⟨nd,rfl⟩⟩;refine⟨_,rfl,?_⟩) |((with_reducible refine Qju (f:=215) rfl ?_);refine Qhu (some 10) rfl rfl Tryz.func215 qq_6 rfl #[.int .u64 a1] rfl qq_1 ?_;(with_reducible refine(Qaj.calls a1 false _ A4.out).mono ?_);rintro e w' ⟨rfl,⟨nd,rfl⟩⟩;refine⟨_,rfl,?_⟩))
    go_ret
    exact⟨by first|rfl |(simp;done) |(simp[*];done),by repeat(first|exact Drawn0.refl _|apply Drawn0.step)⟩
   ·rw[if_neg c8]at H;have g:=decide_eq_false c8;clear c8
    by_cases c9:a0 > a1
    ·rw[if_pos c9]at H;have j:decide (a1<a0)=true:=decide_eq_true c9;clear c9;obtain rfl:=Option.some.inj H
     go_enter Tryz.func166,Tryz.ntmps166
     go_wp2_with (first |((with_reducible refine Qju (f:=215) rfl ?_);refine Qhu (some 8) rfl rfl Tryz.func215 qq_6 rfl #[.int .u64 a0] rfl qq_1 ?_;(with_reducible refine(Qaj.calls a0 false _ A3.out).mono ?_);rintro e w' ⟨rfl,⟨nd,rfl⟩⟩;refine⟨_,rfl,?_⟩) |((with_reducible refine Qju (f:=215) rfl ?_);refine Qhu (some 10) rfl rfl Tryz.func215 qq_6 rfl #[.int .u64 a1] rfl qq_1 ?_;(with_reducible refine(Qaj.calls a1 false _ A4.out).mono ?_);rintro e w' ⟨rfl,⟨nd,rfl⟩⟩;refine⟨_,rfl,?_⟩))
     go_ret
     exact⟨by first|rfl |(simp;done) |(simp[*];done),by repeat(first|exact Drawn0.refl _|apply Drawn0.step)⟩
    ·rw[if_neg c9]at H;have j:decide (a1<a0)=false:=decide_eq_false c9;clear c9;obtain rfl:=Option.some.inj H
     go_enter Tryz.func166,Tryz.ntmps166
     go_wp2_with (first |((with_reducible refine Qju (f:=215) rfl ?_);refine Qhu (some 8) rfl rfl Tryz.func215 qq_6 rfl #[.int .u64 a0] rfl qq_1 ?_;(with_reducible refine(Qaj.calls a0 false _ A3.out).mono ?_);rintro e w' ⟨rfl,⟨nd,rfl⟩⟩;refine⟨_,rfl,?_⟩) |((with_reducible refine Qju (f:=215) rfl ?_);refine Qhu (some 10) rfl rfl Tryz.func215 qq_6 rfl #[.int .u64 a1] rfl qq_1 ?_;(with_reducible refine(Qaj.calls a1 false _ A4.out).mono ?_);rintro e w' ⟨rfl,⟨nd,rfl⟩⟩;refine⟨_,rfl,?_⟩))
     go_ret
     exact⟨by first|rfl |(simp;done) |(simp[*];done),by repeat(first|exact Drawn0.refl _|apply Drawn0.step)⟩
end Go.Proofs.YtnnofopfbeklbaaGreat.C
end
