/- Merged texts. -/
import Derived.Test.YtnnofopfbeklbaaGreatMK02
import Derived.Test.YtnnofopfbeklbaaGreatMK04
import Derived.Test.YtnnofopfbeklbaaGreatMK12
import Derived.Test.YtnnofopfbeklbaaGreatMK05
import Derived.Test.YtnnofopfbeklbaaGreatMK10
set_option linter.unusedVariables false
set_option linter.unusedSimpArgs false
set_option maxHeartbeats 8000000
set_option maxRecDepth 100000
section
namespace Go.Proofs.YtnnofopfbeklbaaGreat.C
open Go.RowKit Go.Proofs.YtnnofopfbeklbaaGreatW.PrintWords Go.Proofs.YtnnofopfbeklbaaGreatW.PrintLast Go.Proofs.YtnnofopfbeklbaaGreatW.PrintMore
attribute [local go_sem] Qjm Qjn Qjo Qjp Qjq Qjr Qjs Qjt
def Qca.f(k:Nat)(a0_0:Int)(l0_1:List (S122)):Option (ByteArray):=(Qau.f k (IntKind.u64.wrap ((l0_1.length:Int))) 4).bind fun t475=>(if 1+t475.size≤9223372036854775807 then((Qau.f k (IntKind.u64.wrap (a0_0)) 4).bind fun t476=>(if((⟨#[4]⟩:ByteArray)++t475).size+t476.size≤9223372036854775807 then((Qbv.f k l0_1).bind fun t477=>(if(((⟨#[4]⟩:ByteArray)++t475)++t476).size+t477.size≤9223372036854775807 then((Qbx.f k l0_1).bind fun t478=>((Qby.f k t478).bind fun t481=>(if((((⟨#[4]⟩:ByteArray)++t475)++t476)++t477).size+t481.size≤9223372036854775807 then((Qbp.f k (((((⟨#[4]⟩:ByteArray)++t475)++t476)++t477)++t481)).bind fun t482=>(some t482))else(none))))else(none)))else(none)))else(none))
def Qca.T1:Bool × List (List Nat × List Nat):=(true,[([],[]),([0],[0]),([1],[1]),([2],[2]),([3],[3]),([4],[4]),([],[]),([6],[6]),([7],[7]),([8,4],[8]),([5,9],[5,9]),([10,9,0,1,2,3,4,5,6,7,8,9,10],[10])])
def Qca.B1:List Nat:=[0,1,3,7,15,31,0,64,192,479,1023,2047]
theorem Qca.tab1:rtab .any (Qjd Tryz.f71 1)=Qca.T1:=by kernel_rfl
theorem Qca.bits1:Qix Qca.T1.2 Qca.B1=true:=by kernel_rfl
def Qca.T2:Bool × List (List Nat × List Nat):=(true,[([],[]),([],[]),([1],[1]),([2],[2]),([0,3],[0,3]),([],[]),([5],[5]),([6,3],[6]),([7,7],[7]),([4,8],[4,8]),([9,8],[9]),([10,10,0,1,2,3,4,5,6,7,8,9,10],[10])])
def Qca.B2:List Nat:=[0,0,2,6,15,0,32,110,238,511,1023,2047]
theorem Qca.tab2:rtab .any (Qjd Tryz.f71 2)=Qca.T2:=by kernel_rfl
theorem Qca.bits2:Qix Qca.T2.2 Qca.B2=true:=by kernel_rfl
theorem Qca.calls(k:Nat)(l:Int)(p:Option Addr)(q:Nat)(b:List (S122))(r:ByteArray)(w:World)(hr0_1:Kd.C k122 w p b.length b)(hc0_1:b.length≤q)(h:Qca.f k l b=some r) :
  Calls Tryz.prog 71 #[.agg #[.int .u32 l,.slice p b.length q]] w fun e w'=>e=.returned (.string r)∧Below w.heap.size w w':=by
 have hu131:=Tryz.underlying131;have y:=QA hr0_1;have z:=QA hc0_1;clear hr0_1 hc0_1;have HB:=QA (Below.refl w.heap.size w);have H:((Qau.f k (IntKind.u64.wrap ((b.length:Int))) 4).bind fun c=>(if 1+c.size≤9223372036854775807 then((Qau.f k (IntKind.u64.wrap (l)) 4).bind fun m=>(if((⟨#[4]⟩:ByteArray)++c).size+m.size≤9223372036854775807 then((Qbv.f k b).bind fun s=>(if(((⟨#[4]⟩:ByteArray)++c)++m).size+s.size≤9223372036854775807 then((Qbx.f k b).bind fun v=>((Qby.f k v).bind fun u=>(if((((⟨#[4]⟩:ByteArray)++c)++m)++s).size+u.size≤9223372036854775807 then((Qbp.f k (((((⟨#[4]⟩:ByteArray)++c)++m)++s)++u)).bind fun x=>(some x))else(none))))else(none)))else(none)))else(none)))=some r:=h;clear h;replace H:=Option.bind_eq_some_iff.mp H;obtain⟨c,J,H⟩:=H;have A2:=QA J;clear J
 by_cases c3:1+c.size≤9223372036854775807
 ·rw [if_pos c3]at H;have ag:=eq_true c3;have ah:=decide_eq_true c3
  try have ai:(9223372036854775807<1+c.size)=False:=eq_false (Nat.not_lt.2 c3)
  replace H:=Option.bind_eq_some_iff.mp H;obtain⟨m,L,H⟩:=H;have A4:=QA L;clear L
  by_cases c5:((⟨#[4]⟩:ByteArray)++c).size+m.size≤9223372036854775807
  ·rw[if_pos c5]at H;have aj:=eq_true c5;have ak:=decide_eq_true c5
   try have B:(9223372036854775807<((⟨#[4]⟩:ByteArray)++c).size+m.size)=False:=eq_false (Nat.not_lt.2 c5)
   try have U:=B
   try simp only[ByteArray.size_append,(show ∀x_:UInt8,(⟨#[x_]⟩:ByteArray).size=1 from fun _=>rfl),(show ∀x_ y_:UInt8,(⟨#[x_,y_]⟩:ByteArray).size=2 from fun _ _=>rfl)]at U
   try have W:=B
   try simp only[ByteArray.size_append,ByteArray.size_extract,(show ∀x_:UInt8,(⟨#[x_]⟩:ByteArray).size=1 from fun _=>rfl),(show ∀x_ y_:UInt8,(⟨#[x_,y_]⟩:ByteArray).size=2 from fun _ _=>rfl)]at W
   replace H:=Option.bind_eq_some_iff.mp H;obtain⟨s,M,H⟩:=H;have A6:=QA M;clear M
   by_cases c7:(((⟨#[4]⟩:ByteArray)++c)++m).size+s.size≤9223372036854775807
   ·rw[if_pos c7]at H;have al:=eq_true c7;have am:=decide_eq_true c7
    try have D:(9223372036854775807<(((⟨#[4]⟩:ByteArray)++c)++m).size+s.size)=False:=eq_false (Nat.not_lt.2 c7)
    try have X:=D
    try simp only[ByteArray.size_append,(show ∀x_:UInt8,(⟨#[x_]⟩:ByteArray).size=1 from fun _=>rfl),(show ∀x_ y_:UInt8,(⟨#[x_,y_]⟩:ByteArray).size=2 from fun _ _=>rfl)]at X
    try have Y:=D
    try simp only[ByteArray.size_append,ByteArray.size_extract,(show ∀x_:UInt8,(⟨#[x_]⟩:ByteArray).size=1 from fun _=>rfl),(show ∀x_ y_:UInt8,(⟨#[x_,y_]⟩:ByteArray).size=2 from fun _ _=>rfl)]at Y
    replace H:=Option.bind_eq_some_iff.mp H;obtain⟨v,O,H⟩:=H;have A8:=QA O;clear O;replace H:=Option.bind_eq_some_iff.mp H;obtain⟨u,P,H⟩:=H;have A9:=QA P;clear P
    by_cases c10:((((⟨#[4]⟩:ByteArray)++c)++m)++s).size+u.size≤9223372036854775807
    ·rw[if_pos c10]at H;have ac:=eq_true c10;have ad:=decide_eq_true c10
     try have A:(9223372036854775807<((((⟨#[4]⟩:ByteArray)++c)++m)++s).size+u.size)=False:=eq_false (Nat.not_lt.2 c10)
     try have G:=A
     try simp only[ByteArray.size_append,(show ∀x_:UInt8,(⟨#[x_]⟩:ByteArray).size=1 from fun _=>rfl),(show ∀x_ y_:UInt8,(⟨#[x_,y_]⟩:ByteArray).size=2 from fun _ _=>rfl)]at G
     try have I:=A
     try simp only[ByteArray.size_append,ByteArray.size_extract,(show ∀x_:UInt8,(⟨#[x_]⟩:ByteArray).size=1 from fun _=>rfl),(show ∀x_ y_:UInt8,(⟨#[x_,y_]⟩:ByteArray).size=2 from fun _ _=>rfl)]at I
     replace H:=Option.bind_eq_some_iff.mp H;obtain⟨x,E,H⟩:=H;have Z:=QA E;clear E;obtain rfl:=Option.some.inj H
     go_enter Tryz.func71,Tryz.ntmps71
     try go_wp2_with (first |((with_reducible refine Qgv (N:=1) rfl ?_);refine qq_e 1 #[.int .u32 l,.slice p b.length q] 131 ?_;intro j hg aa hbox hb;have n_:=qn4 (Qgk qq_b hb) (hbox) (qq_s hg:w.heap.size≤j) (qq_s hg:w.heap.size≤j);clear HB;obtain⟨HB,a,ae,af⟩:=n_;clear hb hbox hg))
     have n_:=qn2 (Qfc a.out) (Qgr HB.out);clear a HB;obtain⟨a,HB⟩:=n_;refine Qhk (n:=12) (S:=fun w'=>w'.cell? ⟨j,0,none⟩=some (.int .u32 l)∧w'.cell? ⟨j,1,none⟩=some (.slice p b.length q)) (ds:=[]) (bm 12 0) qq_6 rfl rfl ⟨(Qep a.out 0).trans rfl,(Qep a.out 1).trans rfl⟩ (fun d=>?_);refine Qjb Qca.tab1 Qca.bits1 (fun HT_ HW_=>?_);generalize aa.drew=w13 at a HB d ⊢;refine pz_ (i:=0) (N:=some 4) (bm 12 1) (Qit HT_.out qq_6) ?_;refine pz_ (i:=6) (N:=some 10) (bm 12 65) (Qit HT_.out qq_6) ?_;refine tz_ (i:=1) (N:=some 5) (bm 12 67) (Qja HT_.out HW_.out qq_6) d ?_;refine pz_ (i:=2) (N:=some 6) (bm 12 71) (Qit HT_.out qq_6) ?_;refine pz_ (i:=3) (N:=some 7) (bm 12 79) (Qit HT_.out qq_6) ?_;refine tz_ (i:=7) (N:=some 11) (bm 12 207) (Qja HT_.out HW_.out qq_6) d ?_;refine pz_ (i:=8) (N:=some 12) (bm 12 463) (Qit HT_.out qq_6) ?_;refine one_ (i:=4) (N:=some 8) (bm 12 479) rfl rfl (Qiu HT_.out qq_6) (by decide) (fun K hK=>?_);refine Qht Tryz.func103 qq_6 rfl #[.int .u64 (IntKind.u64.wrap ((b.length:Int))),.int .i64 4] (by rfl) rfl rfl qq_1 ?_;with_reducible refine(Qau.calls k (IntKind.u64.wrap ((b.length:Int))) 4 c _ A2.out).mono ?_
     rintro e ao ⟨rfl,hb⟩;refine⟨_,rfl,?_⟩;have n_:=qn2 (Qfe (g:=j) (o:=.cells #[.int .u32 l,.slice p b.length q] 131 (0,0)) qq_0 hb) (Qgk qq_b hb);clear a HB;obtain⟨a,HB⟩:=n_
     (try clear hb)
     (try clear hb2)
     (try clear hk)
     (try clear hi)
     refine hK.out _ _ ⟨(Qep a.out 0).trans rfl,(Qep a.out 1).trans rfl⟩ (fun d=>?_);clear hK K;refine nzp_ 8 ?_;refine pz_ (i:=5) (N:=some 9) (bm 12 511) (Qit HT_.out qq_6) ?_;refine one_ (i:=9) (N:=some 13) (bm 12 1023) rfl rfl (Qiu HT_.out qq_6) (by decide) (fun K hK=>?_);refine Qht Tryz.func103 qq_6 rfl #[.int .u64 (IntKind.u64.wrap (l)),.int .i64 4] (by rfl) rfl rfl qq_1 ?_;with_reducible refine(Qau.calls k (IntKind.u64.wrap (l)) 4 m _ A4.out).mono ?_
     rintro e ab ⟨rfl,hb⟩;refine⟨_,rfl,?_⟩;have n_:=qn2 (Qfe (g:=j) (o:=.cells #[.int .u32 l,.slice p b.length q] 131 (0,0)) qq_0 hb) (Qgk qq_b hb);clear a HB;obtain⟨a,HB⟩:=n_
     (try clear hb)
     (try clear hb2)
     (try clear hk)
     (try clear hi)
     refine hK.out _ _ ⟨(Qep a.out 0).trans rfl,(Qep a.out 1).trans rfl⟩ (fun d=>?_);clear hK K;refine nzp_ 13 ?_;refine pz_ (i:=10) (N:=some 14) (bm 12 2047) (Qit HT_.out qq_6) ?_;refine pz_ (i:=11) (N:=some 3) (bm 12 4095) (Qit HT_.out qq_6) ?_;refine Qhn (Qiw HT_.out qq_6) ?_
     try go_wp2
     have n_:=qn2 (Qfc a.out) (Qgr HB.out);clear a HB;obtain⟨a,HB⟩:=n_;refine Qhk (n:=12) (S:=fun w'=>w'.cell? ⟨j,0,none⟩=some (.int .u32 l)∧w'.cell? ⟨j,1,none⟩=some (.slice p b.length q)) (ds:=[]) (bm 12 0) qq_6 rfl rfl ⟨(Qep a.out 0).trans rfl,(Qep a.out 1).trans rfl⟩ (fun d=>?_);refine Qjb Qca.tab2 Qca.bits2 (fun HT_ HW_=>?_);generalize ab.drew=w16 at a HB d ⊢;refine pz_ (i:=0) (N:=some 15) (bm 12 1) (Qit HT_.out qq_6) ?_;refine pz_ (i:=1) (N:=some 16) (bm 12 3) (Qit HT_.out qq_6) ?_;refine pz_ (i:=5) (N:=some 20) (bm 12 35) (Qit HT_.out qq_6) ?_;refine tz_ (i:=2) (N:=some 17) (bm 12 39) (Qja HT_.out HW_.out qq_6) d ?_;refine tz_ (i:=6) (N:=some 21) (bm 12 103) (Qja HT_.out HW_.out qq_6) d ?_;refine one_ (i:=3) (N:=some 18) (bm 12 111) rfl rfl (Qiu HT_.out qq_6) (by decide) (fun K hK=>?_);refine Qht Tryz.func121 qq_6 rfl #[.slice p b.length q] (by rfl) rfl rfl qq_1 ?_;with_reducible refine(Qbv.calls k _ _ b s _ ?side1 ?side2 A6.out).mono ?_
     (case side1=>repeat(first|exact(Kd.C_below y.out HB.out) |(with_reducible refine Kd.C_alloc ?_ _) |(with_reducible refine Kd.C_drewN ?_ _) |(with_reducible refine Kd.C_drew ?_)))
     (case side2=>exact z.out)
     rintro e ap ⟨rfl,hb⟩;refine⟨_,rfl,?_⟩;have n_:=qn2 (Qfe (g:=j) (o:=.cells #[.int .u32 l,.slice p b.length q] 131 (0,0)) qq_0 hb) (Qgk qq_b hb);clear a HB;obtain⟨a,HB⟩:=n_
     (try clear hb)
     (try clear hb2)
     (try clear hk)
     (try clear hi)
     refine hK.out _ _ ⟨(Qep a.out 0).trans rfl,(Qep a.out 1).trans rfl⟩ (fun d=>?_);clear hK K;refine nzp_ 18 ?_;refine pz_ (i:=4) (N:=some 19) (bm 12 127) (Qit HT_.out qq_6) ?_;refine one_ (i:=7) (N:=some 22) (bm 12 255) rfl rfl (Qiu HT_.out qq_6) (by decide) (fun K hK=>?_);refine Qht Tryz.func123 qq_6 rfl #[.slice p b.length q] (by rfl) rfl rfl qq_1 ?_;with_reducible refine(Qbx.calls k _ _ b v _ ?side1 ?side2 A8.out).mono ?_
     (case side1=>repeat(first|exact(Kd.C_below y.out HB.out) |(with_reducible refine Kd.C_alloc ?_ _) |(with_reducible refine Kd.C_drewN ?_ _) |(with_reducible refine Kd.C_drew ?_)))
     (case side2=>exact z.out)
     rintro e aq ⟨an,rfl,T,hb⟩;refine⟨_,rfl,?_⟩;have n_:=qn3 (Kd.R_lower T (Qgj qq_b)) (Qfe (g:=j) (o:=.cells #[.int .u32 l,.slice p b.length q] 131 (0,0)) qq_0 hb) (Qgk qq_b hb);clear a HB;obtain⟨t,a,HB⟩:=n_
     (try clear hb)
     (try clear hb2)
     (try clear hk)
     (try clear hi)
     (try clear T)
     obtain⟨Ao19,co19,eo19⟩:=Kd.R_slice t.out
     (first|subst eo19 |(injection eo19 with f1_ f2_ f3_;have f4_:=f1_.symm;have f5_:=f3_.symm;clear f1_ f2_ f3_;subst f4_;subst f5_))
     refine hK.out _ _ ⟨(Qep a.out 0).trans rfl,(Qep a.out 1).trans rfl⟩ (fun d=>?_);clear hK K;refine nzp_ 22 ?_;refine one_ (i:=8) (N:=some 23) (bm 12 511) rfl rfl (Qiu HT_.out qq_6) (by decide) (fun K hK=>?_);refine Qht Tryz.func122 qq_6 rfl #[.slice Ao19 v.length co19] (by rfl) rfl rfl qq_1 ?_;with_reducible refine(Qby.calls k _ _ v u _ ?side1 ?side2 A9.out).mono ?_
     (case side1=>repeat(first|exact(Kd.R_reads' t.out).2.2 |(with_reducible refine Kd.C_alloc ?_ _) |(with_reducible refine Kd.C_drewN ?_ _) |(with_reducible refine Kd.C_drew ?_)))
     (case side2=>exact(Kd.R_reads' t.out).2.1)
     rintro e ar ⟨rfl,hb⟩;refine⟨_,rfl,?_⟩;have n_:=qn3 (Kd.R_below qq_2 hb) (Qfe (g:=j) (o:=.cells #[.int .u32 l,.slice p b.length q] 131 (0,0)) qq_0 hb) (Qgk qq_b hb);clear t a HB;obtain⟨t,a,HB⟩:=n_
     (try clear hb)
     (try clear hb2)
     (try clear hk)
     (try clear hi)
     refine hK.out _ _ ⟨(Qep a.out 0).trans rfl,(Qep a.out 1).trans rfl⟩ (fun d=>?_);clear hK K;refine nzp_ 23 ?_;refine pz_ (i:=9) (N:=some 24) (bm 12 1023) (Qit HT_.out qq_6) ?_;refine one_ (i:=10) (N:=some 25) (bm 12 2047) rfl rfl (Qiu HT_.out qq_6) (by decide) (fun K hK=>?_);refine Qht Tryz.func61 qq_6 rfl #[.string (((((⟨#[4]⟩:ByteArray)++c)++m)++s)++u)] (by rfl) rfl rfl qq_1 ?_;with_reducible refine(Qbp.calls k (((((⟨#[4]⟩:ByteArray)++c)++m)++s)++u) x _ Z.out).mono ?_
     rintro e au ⟨rfl,hb⟩;refine⟨_,rfl,?_⟩;have n_:=qn3 (Kd.R_below qq_2 hb) (Qfe (g:=j) (o:=.cells #[.int .u32 l,.slice p b.length q] 131 (0,0)) qq_0 hb) (Qgk qq_b hb);clear t a HB;obtain⟨t,a,HB⟩:=n_
     (try clear hb)
     (try clear hb2)
     (try clear hk)
     (try clear hi)
     refine hK.out _ _ ⟨(Qep a.out 0).trans rfl,(Qep a.out 1).trans rfl⟩ (fun d=>?_);clear hK K;refine nzp_ 25 ?_;refine pz_ (i:=11) (N:=some 2) (bm 12 4095) (Qit HT_.out qq_6) ?_;refine Qhn (Qiw HT_.out qq_6) ?_
     try go_wp2
     go_ret
     exact⟨qq_7,qq_b⟩
    ·rw[if_neg c10]at H;exact absurd H (by simp)
   ·rw[if_neg c7]at H;exact absurd H (by simp)
  ·rw[if_neg c5]at H;exact absurd H (by simp)
 ·rw[if_neg c3]at H;exact absurd H (by simp)
def Qbn.f(k:Nat)(a0_0:Int)(a0_1:Int)(a1:Int):Option (ByteArray):=(some (([a0_0]:List Int):List Int)).bind fun y317=>(if 2+(strOfNums y317).size≤9223372036854775807 then((Qaw.f k (IntKind.u64.wrap (a0_1))).bind fun t320=>(if((⟨#[1,2]⟩:ByteArray)++(strOfNums y317)).size+t320.size≤9223372036854775807 then((Qaw.f k a1).bind fun t321=>(if(((⟨#[1,2]⟩:ByteArray)++(strOfNums y317))++t320).size+t321.size≤9223372036854775807 then((Qbp.f k ((((⟨#[1,2]⟩:ByteArray)++(strOfNums y317))++t320)++t321)).bind fun t322=>(some t322))else(none)))else(none)))else(none))
def Qbn.T1:Bool × List (List Nat × List Nat):=(true,[([],[]),([0],[0]),([1],[1]),([2],[2]),([3],[3]),([],[]),([5],[5]),([6],[6]),([7],[7]),([4,8],[4,8]),([],[]),([10,8],[10]),([9,11],[9,11]),([12,11],[12]),([13,13,0,1,2,3,4,5,6,7,8,9,10,11,12,13],[13])])
def Qbn.B1:List Nat:=[0,1,3,7,15,0,32,96,224,511,0,1504,4095,8191,16383]
theorem Qbn.tab1:rtab .any (Qjd Tryz.f55 1)=Qbn.T1:=by kernel_rfl
theorem Qbn.bits1:Qix Qbn.T1.2 Qbn.B1=true:=by kernel_rfl
theorem Qbn.calls (k:Nat) (c:Int) (d:Int) (a1:Int) (r:ByteArray) (w:World) (h:Qbn.f k c d a1=some r) :
  Calls Tryz.prog 55 #[.agg #[.int .u8 c,.int .u32 d],.int .u64 a1] w fun e w'=>e=.returned (.string r)∧Below w.heap.size w w':=by
 have hu27:=Tryz.underlying27;have HB:=QA (Below.refl w.heap.size w);have H:((some (([c]:List Int):List Int)).bind fun m=>(if 2+(strOfNums m).size≤9223372036854775807 then((Qaw.f k (IntKind.u64.wrap (d))).bind fun q=>(if((⟨#[1,2]⟩:ByteArray)++(strOfNums m)).size+q.size≤9223372036854775807 then((Qaw.f k a1).bind fun z=>(if(((⟨#[1,2]⟩:ByteArray)++(strOfNums m))++q).size+z.size≤9223372036854775807 then((Qbp.f k ((((⟨#[1,2]⟩:ByteArray)++(strOfNums m))++q)++z)).bind fun L=>(some L))else(none)))else(none)))else(none)))=some r:=h;clear h;obtain⟨m,J⟩:∃y_:List Int,y_=(([c]:List Int)):=⟨_,rfl⟩;replace H:(if 2+(strOfNums m).size≤9223372036854775807 then((Qaw.f k (IntKind.u64.wrap (d))).bind fun q=>(if((⟨#[1,2]⟩:ByteArray)++(strOfNums m)).size+q.size≤9223372036854775807 then((Qaw.f k a1).bind fun z=>(if(((⟨#[1,2]⟩:ByteArray)++(strOfNums m))++q).size+z.size≤9223372036854775807 then((Qbp.f k ((((⟨#[1,2]⟩:ByteArray)++(strOfNums m))++q)++z)).bind fun L=>(some L))else(none)))else(none)))else(none))=some r:=by first |(rw[J];with_reducible exact H) |(have Y:=(Option.bind_some _ _).symm.trans H;rw[J];with_reducible exact Y) |(have Y:=(Option.bind_some _ _).symm.trans H;with_reducible exact Y)|with_reducible exact H |(rw[J];exact H)|exact H
 have I:=QA J;clear J
 by_cases c3:2+(strOfNums m).size≤9223372036854775807
 ·rw [if_pos c3]at H;have ao:=eq_true c3;have ap:=decide_eq_true c3
  try have aq:(9223372036854775807<2+(strOfNums m).size)=False:=eq_false (Nat.not_lt.2 c3)
  replace H:=Option.bind_eq_some_iff.mp H;obtain⟨q,ae,H⟩:=H;have A4:=QA ae;clear ae
  by_cases c5:((⟨#[1,2]⟩:ByteArray)++(strOfNums m)).size+q.size≤9223372036854775807
  ·rw [if_pos c5]at H;have ar:=eq_true c5;have au:=decide_eq_true c5
   try have Z:(9223372036854775807<((⟨#[1,2]⟩:ByteArray)++(strOfNums m)).size+q.size)=False:=eq_false (Nat.not_lt.2 c5)
   try have ah:=Z
   try simp only[ByteArray.size_append,(show ∀x_:UInt8,(⟨#[x_]⟩:ByteArray).size=1 from fun _=>rfl),(show ∀x_ y_:UInt8,(⟨#[x_,y_]⟩:ByteArray).size=2 from fun _ _=>rfl)]at ah
   try have ai:=Z
   try simp only[ByteArray.size_append,ByteArray.size_extract,(show ∀x_:UInt8,(⟨#[x_]⟩:ByteArray).size=1 from fun _=>rfl),(show ∀x_ y_:UInt8,(⟨#[x_,y_]⟩:ByteArray).size=2 from fun _ _=>rfl)]at ai
   replace H:=Option.bind_eq_some_iff.mp H;obtain⟨z,af,H⟩:=H;have A6:=QA af;clear af
   by_cases c7:(((⟨#[1,2]⟩:ByteArray)++(strOfNums m))++q).size+z.size≤9223372036854775807
   ·rw [if_pos c7]at H;have av:=eq_true c7;have aw:=decide_eq_true c7
    try have aa:(9223372036854775807<(((⟨#[1,2]⟩:ByteArray)++(strOfNums m))++q).size+z.size)=False:=eq_false (Nat.not_lt.2 c7)
    try have aj:=aa
    try simp only[ByteArray.size_append,(show ∀x_:UInt8,(⟨#[x_]⟩:ByteArray).size=1 from fun _=>rfl),(show ∀x_ y_:UInt8,(⟨#[x_,y_]⟩:ByteArray).size=2 from fun _ _=>rfl)]at aj
    try have ak:=aa
    try simp only[ByteArray.size_append,ByteArray.size_extract,(show ∀x_:UInt8,(⟨#[x_]⟩:ByteArray).size=1 from fun _=>rfl),(show ∀x_ y_:UInt8,(⟨#[x_,y_]⟩:ByteArray).size=2 from fun _ _=>rfl)]at ak
    replace H:=Option.bind_eq_some_iff.mp H;obtain⟨L,ag,H⟩:=H;have A8:=QA ag;clear ag;obtain rfl:=Option.some.inj H
    go_enter Tryz.func55,Tryz.ntmps55
    try go_wp2_with (first |((with_reducible refine Qgv (N:=2) rfl ?_);refine qq_e 2 #[.int .u8 c,.int .u32 d] 27 ?_;intro b hg w9 hbox hb;have n_:=qn4 (Qgk qq_b hb) (hbox) (qq_s hg:w.heap.size≤b) (qq_s hg:w.heap.size≤b);clear HB;obtain⟨HB,a,am,an⟩:=n_;clear hb hbox hg))
    have n_:=qn2 (Qfc a.out) (Qgr HB.out);clear a HB;obtain⟨a,HB⟩:=n_;refine Qhk (n:=15) (S:=fun w'=>w'.cell? ⟨b,0,none⟩=some (.int .u8 c)∧w'.cell? ⟨b,1,none⟩=some (.int .u32 d)) (ds:=[]) (bm 15 0) qq_6 rfl rfl ⟨(Qep a.out 0).trans rfl,(Qep a.out 1).trans rfl⟩ (fun l=>?_);refine Qjb Qbn.tab1 Qbn.bits1 (fun HT_ HW_=>?_);generalize w9.drew=w10 at a HB l ⊢;refine pz_ (i:=0) (N:=some 5) (bm 15 1) (Qit HT_.out qq_6) ?_;refine pz_ (i:=5) (N:=some 10) (bm 15 33) (Qit HT_.out qq_6) ?_;refine pz_ (i:=10) (N:=some 15) (bm 15 1057) (Qit HT_.out qq_6) ?_;refine tz_ (i:=1) (N:=some 6) (bm 15 1059) (Qja HT_.out HW_.out qq_6) l ?_;refine tz_ (i:=6) (N:=some 11) (bm 15 1123) (Qja HT_.out HW_.out qq_6) l ?_;refine pz_ (i:=7) (N:=some 12) (bm 15 1251) (Qit HT_.out qq_6) ?_;refine Qhq (σ:=Value) 3 (bm 15 4095) (fun s_=>[(7,s_),(8,.string (strOfNums m)),(13,.string q),(16,.string z),(9,.string ((⟨#[1,2]⟩:ByteArray)++(strOfNums m))),(14,.string (((⟨#[1,2]⟩:ByteArray)++(strOfNums m))++q))]) (fun s_ w'=>(w'.cell? ⟨b,0,none⟩=some (.int .u8 c)∧w'.cell? ⟨b,1,none⟩=some (.int .u32 d))∧(Kd.R (Kd.int .u8) 5 w' w.heap.size (fun _=>True) s_ m)∧(w'.heap[b]? = some (.cells #[.int .u8 c,.int .u32 d] 27 (0,0)))∧(Below w.heap.size w w')) ?_ ?_;rotate_left
    ·intro hJ2_3_8_11;refine Qhq (σ:=Value) 4 (bm 15 2047) (fun s_=>[(7,s_),(8,.string (strOfNums m)),(13,.string q),(9,.string ((⟨#[1,2]⟩:ByteArray)++(strOfNums m))),(14,.string (((⟨#[1,2]⟩:ByteArray)++(strOfNums m))++q))]) (fun s_ w'=>(w'.cell? ⟨b,0,none⟩=some (.int .u8 c)∧w'.cell? ⟨b,1,none⟩=some (.int .u32 d))∧(Kd.R (Kd.int .u8) 5 w' w.heap.size (fun _=>True) s_ m)∧(w'.heap[b]? = some (.cells #[.int .u8 c,.int .u32 d] 27 (0,0)))∧(Below w.heap.size w w')) ?_ ?_;rotate_left
     ·intro hJ2_3_8;refine Qhq (σ:=Value) 6 (bm 15 3559) (fun s_=>[(7,s_),(13,.string q),(16,.string z)]) (fun s_ w'=>(w'.cell? ⟨b,0,none⟩=some (.int .u8 c)∧w'.cell? ⟨b,1,none⟩=some (.int .u32 d))∧(Kd.R (Kd.int .u8) 5 w' w.heap.size (fun _=>True) s_ m)∧(w'.heap[b]? = some (.cells #[.int .u8 c,.int .u32 d] 27 (0,0)))∧(Below w.heap.size w w')) ?_ ?_;rotate_left
      ·intro hJ2_8_11;refine Qhq (σ:=Value) 6 (bm 15 1279) (fun s_=>[(7,s_),(8,.string (strOfNums m)),(9,.string ((⟨#[1,2]⟩:ByteArray)++(strOfNums m)))]) (fun s_ w'=>(w'.cell? ⟨b,0,none⟩=some (.int .u8 c)∧w'.cell? ⟨b,1,none⟩=some (.int .u32 d))∧(Kd.R (Kd.int .u8) 5 w' w.heap.size (fun _=>True) s_ m)∧(w'.heap[b]? = some (.cells #[.int .u8 c,.int .u32 d] 27 (0,0)))∧(Below w.heap.size w w')) ?_ ?_;rotate_left
       ·intro hJ2_3;refine Qhq (σ:=Value) 7 (bm 15 1511) (fun s_=>[(7,s_),(13,.string q)]) (fun s_ w'=>(w'.cell? ⟨b,0,none⟩=some (.int .u8 c)∧w'.cell? ⟨b,1,none⟩=some (.int .u32 d))∧(Kd.R (Kd.int .u8) 5 w' w.heap.size (fun _=>True) s_ m)∧(w'.heap[b]? = some (.cells #[.int .u8 c,.int .u32 d] 27 (0,0)))∧(Below w.heap.size w w')) ?_ ?_;rotate_left
        ·intro hJ2_8;refine Qhq (σ:=Unit) 7 (bm 15 3555) (fun s_=>[(13,.string q),(16,.string z)]) (fun s_ w'=>(w'.cell? ⟨b,0,none⟩=some (.int .u8 c)∧w'.cell? ⟨b,1,none⟩=some (.int .u32 d))∧(w'.heap[b]? = some (.cells #[.int .u8 c,.int .u32 d] 27 (0,0)))∧(Below w.heap.size w w')) ?_ ?_;rotate_left
         ·intro hJ8_11;refine Qhq (σ:=Value) 8 (bm 15 1255) (fun s_=>[(7,s_)]) (fun s_ w'=>(w'.cell? ⟨b,0,none⟩=some (.int .u8 c)∧w'.cell? ⟨b,1,none⟩=some (.int .u32 d))∧(Kd.R (Kd.int .u8) 5 w' w.heap.size (fun _=>True) s_ m)∧(w'.heap[b]? = some (.cells #[.int .u8 c,.int .u32 d] 27 (0,0)))∧(Below w.heap.size w w')) ?_ ?_;rotate_left
          ·intro hJ2;refine Qhq (σ:=Unit) 8 (bm 15 1507) (fun s_=>[(13,.string q)]) (fun s_ w'=>(w'.cell? ⟨b,0,none⟩=some (.int .u8 c)∧w'.cell? ⟨b,1,none⟩=some (.int .u32 d))∧(w'.heap[b]? = some (.cells #[.int .u8 c,.int .u32 d] 27 (0,0)))∧(Below w.heap.size w w')) ?_ ?_;rotate_left
           ·intro hJ8;refine two_ (i:=2) (j:=8) (Ni:=some 7) (Nj:=some 13) (bm 15 1255) (bm 15 1507) rfl rfl rfl rfl (Qiv HT_.out qq_6) (by decide) (by decide) (fun K hK=>?_) (fun K hK=>?_)
            ·skip
             refine Kd.R_lit_step (Kd.int .u8) _ 5 ?hg (N:=7) ?hd (xs:=([c]:List Int)) (inner:=[.int .u8 c]) (ok:=fun _=>True) (okp:=fun _=>True) ?hr ?hp (fun _ hk=>hk) trivial (Below.refl _ _) (Nat.le_refl _) (by simp) ?_;(case hd=>rfl);(case hg=>rfl);(case hr=>exact qq_14);(case hp=>exact(Reps.one (show Kd.M (Kd.int .u8) _ _ _ c [.int .u8 c] from rfl) (Reps.none _ _)));intro s al O hb hg_ hnew_;clear hg_ hnew_
             (first|rw[← I.out]at O |(simp only[Int.reduceToNat]at O;rw[← I.out]at O))
             have n_:=qn3 (Kd.R_lower O (Qgj qq_b)) (Qfe (g:=b) (o:=.cells #[.int .u8 c,.int .u32 d] 27 (0,0)) qq_0 hb) (Qgk qq_b hb);clear a HB;obtain⟨p,a,HB⟩:=n_;clear hb O;refine hK.out _ _ ⟨(Qep a.out 0).trans rfl,(Qep a.out 1).trans rfl⟩ (fun l=>?_);clear hK K;refine nzp_ 7 ?_;exact Qhr qq_3 (hJ2 (s) _ ⟨l,qq_2,qq_0,qq_b⟩)
            ·skip
             refine Qht Tryz.func98 qq_6 rfl #[.int .u64 (IntKind.u64.wrap (d))] (by rfl) rfl rfl qq_1 ?_;with_reducible refine(Qaw.calls k (IntKind.u64.wrap (d)) q _ A4.out).mono ?_
             rintro e al ⟨rfl,hb⟩;refine⟨_,rfl,?_⟩;have n_:=qn2 (Qfe (g:=b) (o:=.cells #[.int .u8 c,.int .u32 d] 27 (0,0)) qq_0 hb) (Qgk qq_b hb);clear a HB;obtain⟨a,HB⟩:=n_
             (try clear hb)
             (try clear hb2)
             (try clear hk)
             (try clear hi)
             refine hK.out _ _ ⟨(Qep a.out 0).trans rfl,(Qep a.out 1).trans rfl⟩ (fun l=>?_);clear hK K;refine nzp_ 13 ?_;exact Qhr qq_3 (hJ8 () _ ⟨l,qq_0,qq_b⟩)
           ·skip
            rintro _ X ⟨hS_,t,u⟩;have x:Aside0 (X.heap[b]? = some (.cells #[.int .u8 c,.int .u32 d] 27 (0,0))):=⟨t⟩;have y:Aside0 (Below w.heap.size w X):=⟨u⟩;clear a HB t u;have a:=x;have HB:=y;clear x y;have l:X.cell? ⟨b,0,none⟩=some (.int .u8 c)∧X.cell? ⟨b,1,none⟩=some (.int .u32 d):=hS_;refine nza_ ?_;refine two_ (i:=2) (j:=11) (Ni:=some 7) (Nj:=some 16) (bm 15 1511) (bm 15 3555) rfl rfl rfl rfl (Qiv HT_.out qq_6) (by decide) (by decide) (fun K hK=>?_) (fun K hK=>?_)
            ·skip
             refine Kd.R_lit_step (Kd.int .u8) _ 5 ?hg (N:=7) ?hd (xs:=([c]:List Int)) (inner:=[.int .u8 c]) (ok:=fun _=>True) (okp:=fun _=>True) ?hr ?hp (fun _ hk=>hk) trivial (Below.refl _ _) (Nat.le_refl _) (by simp) ?_;(case hd=>rfl);(case hg=>rfl);(case hr=>exact qq_14);(case hp=>exact(Reps.one (show Kd.M (Kd.int .u8) _ _ _ c [.int .u8 c] from rfl) (Reps.none _ _)));intro s G T hb hg_ hnew_;clear hg_ hnew_
             (first|rw[← I.out]at T |(simp only[Int.reduceToNat]at T;rw[← I.out]at T))
             have n_:=qn3 (Kd.R_lower T (Qgj qq_b)) (Qfe (g:=b) (o:=.cells #[.int .u8 c,.int .u32 d] 27 (0,0)) qq_0 hb) (Qgk qq_b hb);clear a HB;obtain⟨p,a,HB⟩:=n_;clear hb T;refine hK.out _ _ ⟨(Qep a.out 0).trans rfl,(Qep a.out 1).trans rfl⟩ (fun l=>?_);clear hK K;refine nzp_ 7 ?_;exact Qhr qq_3 (hJ2_8 (s) _ ⟨l,qq_2,qq_0,qq_b⟩)
            ·skip
             refine Qht Tryz.func98 qq_6 rfl #[.int .u64 a1] (by rfl) rfl rfl qq_1 ?_;with_reducible refine(Qaw.calls k a1 z _ A6.out).mono ?_
             rintro e G ⟨rfl,hb⟩;refine⟨_,rfl,?_⟩;have n_:=qn2 (Qfe (g:=b) (o:=.cells #[.int .u8 c,.int .u32 d] 27 (0,0)) qq_0 hb) (Qgk qq_b hb);clear a HB;obtain⟨a,HB⟩:=n_
             (try clear hb)
             (try clear hb2)
             (try clear hk)
             (try clear hi)
             refine hK.out _ _ ⟨(Qep a.out 0).trans rfl,(Qep a.out 1).trans rfl⟩ (fun l=>?_);clear hK K;refine nzp_ 16 ?_;exact Qhr qq_3 (hJ8_11 () _ ⟨l,qq_0,qq_b⟩)
          ·skip
           rintro s G ⟨hS_,t,u,A⟩;have x:Aside0 (Kd.R (Kd.int .u8) 5 G w.heap.size (fun _=>True) s m):=⟨t⟩;have y:Aside0 (G.heap[b]? = some (.cells #[.int .u8 c,.int .u32 d] 27 (0,0))):=⟨u⟩;have B:Aside0 (Below w.heap.size w G):=⟨A⟩;clear a HB t u A;have p:=x;have a:=y;have HB:=B;clear x y B;have l:G.cell? ⟨b,0,none⟩=some (.int .u8 c)∧G.cell? ⟨b,1,none⟩=some (.int .u32 d):=hS_;refine nza_ ?_;refine two_ (i:=3) (j:=8) (Ni:=some 8) (Nj:=some 13) (bm 15 1263) (bm 15 1511) rfl rfl rfl rfl (Qiv HT_.out qq_6) (by decide) (by decide) (fun K hK=>?_) (fun K hK=>?_)
           ·skip
            have ab:=Qea (P:=Tryz.prog) Tryz.underlying52 Tryz.underlying5 Tryz.underlying9 (Kd.own_of_R p.out);refine Qhv (w1:=?_) (v:=?_) (by rfl) rfl ?_ ?_;rotate_left 2
            ·go_simp
             constructor
             ·rfl
             ·rfl
            clear ab;refine hK.out _ _ ⟨(Qep a.out 0).trans rfl,(Qep a.out 1).trans rfl⟩ (fun l=>?_);clear hK K;refine nzp_ 8 ?_;refine pz_ (i:=4) (N:=some 9) (bm 15 1279) (Qit HT_.out qq_6) ?_;exact Qhr qq_3 (hJ2_3 (s) _ ⟨l,qq_2,qq_0,qq_b⟩)
           ·skip
            refine Qht Tryz.func98 qq_6 rfl #[.int .u64 (IntKind.u64.wrap (d))] (by rfl) rfl rfl qq_1 ?_;with_reducible refine(Qaw.calls k (IntKind.u64.wrap (d)) q _ A4.out).mono ?_
            rintro e D ⟨rfl,hb⟩;refine⟨_,rfl,?_⟩;have n_:=qn3 (Kd.R_below qq_2 hb) (Qfe (g:=b) (o:=.cells #[.int .u8 c,.int .u32 d] 27 (0,0)) qq_0 hb) (Qgk qq_b hb);clear p a HB;obtain⟨p,a,HB⟩:=n_
            (try clear hb)
            (try clear hb2)
            (try clear hk)
            (try clear hi)
            refine hK.out _ _ ⟨(Qep a.out 0).trans rfl,(Qep a.out 1).trans rfl⟩ (fun l=>?_);clear hK K;refine nzp_ 13 ?_;exact Qhr qq_3 (hJ2_8 (s) _ ⟨l,qq_2,qq_0,qq_b⟩)
         ·skip
          rintro _ G ⟨hS_,t,u⟩;have x:Aside0 (G.heap[b]? = some (.cells #[.int .u8 c,.int .u32 d] 27 (0,0))):=⟨t⟩;have y:Aside0 (Below w.heap.size w G):=⟨u⟩;clear a HB t u;have a:=x;have HB:=y;clear x y;have l:G.cell? ⟨b,0,none⟩=some (.int .u8 c)∧G.cell? ⟨b,1,none⟩=some (.int .u32 d):=hS_;refine nza_ ?_;refine one_ (i:=2) (N:=some 7) (bm 15 3559) rfl rfl (Qiu HT_.out qq_6) (by decide) (fun K hK=>?_);refine Kd.R_lit_step (Kd.int .u8) _ 5 ?hg (N:=7) ?hd (xs:=([c]:List Int)) (inner:=[.int .u8 c]) (ok:=fun _=>True) (okp:=fun _=>True) ?hr ?hp (fun _ hk=>hk) trivial (Below.refl _ _) (Nat.le_refl _) (by simp) ?_;(case hd=>rfl);(case hg=>rfl);(case hr=>exact qq_14);(case hp=>exact(Reps.one (show Kd.M (Kd.int .u8) _ _ _ c [.int .u8 c] from rfl) (Reps.none _ _)));intro s D U hb hg_ hnew_;clear hg_ hnew_
          (first|rw[← I.out]at U |(simp only[Int.reduceToNat]at U;rw[← I.out]at U))
          have n_:=qn3 (Kd.R_lower U (Qgj qq_b)) (Qfe (g:=b) (o:=.cells #[.int .u8 c,.int .u32 d] 27 (0,0)) qq_0 hb) (Qgk qq_b hb);clear a HB;obtain⟨p,a,HB⟩:=n_;clear hb U;refine hK.out _ _ ⟨(Qep a.out 0).trans rfl,(Qep a.out 1).trans rfl⟩ (fun l=>?_);clear hK K;refine nzp_ 7 ?_;exact Qhr qq_3 (hJ2_8_11 (s) _ ⟨l,qq_2,qq_0,qq_b⟩)
        ·skip
         rintro s D ⟨hS_,t,u,A⟩;have x:Aside0 (Kd.R (Kd.int .u8) 5 D w.heap.size (fun _=>True) s m):=⟨t⟩;have y:Aside0 (D.heap[b]? = some (.cells #[.int .u8 c,.int .u32 d] 27 (0,0))):=⟨u⟩;have B:Aside0 (Below w.heap.size w D):=⟨A⟩;clear a HB t u A;have p:=x;have a:=y;have HB:=B;clear x y B;have l:D.cell? ⟨b,0,none⟩=some (.int .u8 c)∧D.cell? ⟨b,1,none⟩=some (.int .u32 d):=hS_;refine nza_ ?_;refine two_ (i:=3) (j:=11) (Ni:=some 8) (Nj:=some 16) (bm 15 1519) (bm 15 3559) rfl rfl rfl rfl (Qiv HT_.out qq_6) (by decide) (by decide) (fun K hK=>?_) (fun K hK=>?_)
         ·skip
          have ac:=Qea (P:=Tryz.prog) Tryz.underlying52 Tryz.underlying5 Tryz.underlying9 (Kd.own_of_R p.out);refine Qhv (w1:=?_) (v:=?_) (by rfl) rfl ?_ ?_;rotate_left 2
          ·go_simp
           constructor
           ·rfl
           ·rfl
          clear ac;refine hK.out _ _ ⟨(Qep a.out 0).trans rfl,(Qep a.out 1).trans rfl⟩ (fun l=>?_);clear hK K;refine nzp_ 8 ?_;refine pz_ (i:=4) (N:=some 9) (bm 15 1535) (Qit HT_.out qq_6) ?_;refine pz_ (i:=9) (N:=some 14) (bm 15 2047) (Qit HT_.out qq_6) ?_;exact Qhr qq_3 (hJ2_3_8 (s) _ ⟨l,qq_2,qq_0,qq_b⟩)
         ·skip
          refine Qht Tryz.func98 qq_6 rfl #[.int .u64 a1] (by rfl) rfl rfl qq_1 ?_;with_reducible refine(Qaw.calls k a1 z _ A6.out).mono ?_
          rintro e E ⟨rfl,hb⟩;refine⟨_,rfl,?_⟩;have n_:=qn3 (Kd.R_below qq_2 hb) (Qfe (g:=b) (o:=.cells #[.int .u8 c,.int .u32 d] 27 (0,0)) qq_0 hb) (Qgk qq_b hb);clear p a HB;obtain⟨p,a,HB⟩:=n_
          (try clear hb)
          (try clear hb2)
          (try clear hk)
          (try clear hi)
          refine hK.out _ _ ⟨(Qep a.out 0).trans rfl,(Qep a.out 1).trans rfl⟩ (fun l=>?_);clear hK K;refine nzp_ 16 ?_;exact Qhr qq_3 (hJ2_8_11 (s) _ ⟨l,qq_2,qq_0,qq_b⟩)
       ·skip
        rintro s D ⟨hS_,t,u,A⟩;have x:Aside0 (Kd.R (Kd.int .u8) 5 D w.heap.size (fun _=>True) s m):=⟨t⟩;have y:Aside0 (D.heap[b]? = some (.cells #[.int .u8 c,.int .u32 d] 27 (0,0))):=⟨u⟩;have B:Aside0 (Below w.heap.size w D):=⟨A⟩;clear a HB t u A;have p:=x;have a:=y;have HB:=B;clear x y B;have l:D.cell? ⟨b,0,none⟩=some (.int .u8 c)∧D.cell? ⟨b,1,none⟩=some (.int .u32 d):=hS_;refine nza_ ?_;refine one_ (i:=8) (N:=some 13) (bm 15 1535) rfl rfl (Qiu HT_.out qq_6) (by decide) (fun K hK=>?_);refine Qht Tryz.func98 qq_6 rfl #[.int .u64 (IntKind.u64.wrap (d))] (by rfl) rfl rfl qq_1 ?_;with_reducible refine(Qaw.calls k (IntKind.u64.wrap (d)) q _ A4.out).mono ?_
        rintro e E ⟨rfl,hb⟩;refine⟨_,rfl,?_⟩;have n_:=qn3 (Kd.R_below qq_2 hb) (Qfe (g:=b) (o:=.cells #[.int .u8 c,.int .u32 d] 27 (0,0)) qq_0 hb) (Qgk qq_b hb);clear p a HB;obtain⟨p,a,HB⟩:=n_
        (try clear hb)
        (try clear hb2)
        (try clear hk)
        (try clear hi)
        refine hK.out _ _ ⟨(Qep a.out 0).trans rfl,(Qep a.out 1).trans rfl⟩ (fun l=>?_);clear hK K;refine nzp_ 13 ?_;refine pz_ (i:=9) (N:=some 14) (bm 15 2047) (Qit HT_.out qq_6) ?_;exact Qhr qq_3 (hJ2_3_8 (s) _ ⟨l,qq_2,qq_0,qq_b⟩)
      ·skip
       rintro s E ⟨hS_,t,u,A⟩;have x:Aside0 (Kd.R (Kd.int .u8) 5 E w.heap.size (fun _=>True) s m):=⟨t⟩;have y:Aside0 (E.heap[b]? = some (.cells #[.int .u8 c,.int .u32 d] 27 (0,0))):=⟨u⟩;have B:Aside0 (Below w.heap.size w E):=⟨A⟩;clear a HB t u A;have p:=x;have a:=y;have HB:=B;clear x y B;have l:E.cell? ⟨b,0,none⟩=some (.int .u8 c)∧E.cell? ⟨b,1,none⟩=some (.int .u32 d):=hS_;refine nza_ ?_;refine one_ (i:=3) (N:=some 8) (bm 15 3567) rfl rfl (Qiu HT_.out qq_6) (by decide) (fun K hK=>?_);have ad:=Qea (P:=Tryz.prog) Tryz.underlying52 Tryz.underlying5 Tryz.underlying9 (Kd.own_of_R p.out);refine Qhv (w1:=?_) (v:=?_) (by rfl) rfl ?_ ?_;rotate_left 2
       ·go_simp
        constructor
        ·rfl
        ·rfl
       clear ad;refine hK.out _ _ ⟨(Qep a.out 0).trans rfl,(Qep a.out 1).trans rfl⟩ (fun l=>?_);clear hK K;refine nzp_ 8 ?_;refine pz_ (i:=4) (N:=some 9) (bm 15 3583) (Qit HT_.out qq_6) ?_;refine pz_ (i:=9) (N:=some 14) (bm 15 4095) (Qit HT_.out qq_6) ?_;exact Qhr qq_3 (hJ2_3_8_11 (s) _ ⟨l,qq_2,qq_0,qq_b⟩)
     ·skip
      rintro s E ⟨hS_,t,u,A⟩;have x:Aside0 (Kd.R (Kd.int .u8) 5 E w.heap.size (fun _=>True) s m):=⟨t⟩;have y:Aside0 (E.heap[b]? = some (.cells #[.int .u8 c,.int .u32 d] 27 (0,0))):=⟨u⟩;have B:Aside0 (Below w.heap.size w E):=⟨A⟩;clear a HB t u A;have p:=x;have a:=y;have HB:=B;clear x y B;have l:E.cell? ⟨b,0,none⟩=some (.int .u8 c)∧E.cell? ⟨b,1,none⟩=some (.int .u32 d):=hS_;refine nza_ ?_;refine one_ (i:=11) (N:=some 16) (bm 15 4095) rfl rfl (Qiu HT_.out qq_6) (by decide) (fun K hK=>?_);refine Qht Tryz.func98 qq_6 rfl #[.int .u64 a1] (by rfl) rfl rfl qq_1 ?_;with_reducible refine(Qaw.calls k a1 z _ A6.out).mono ?_
      rintro e W ⟨rfl,hb⟩;refine⟨_,rfl,?_⟩;have n_:=qn3 (Kd.R_below qq_2 hb) (Qfe (g:=b) (o:=.cells #[.int .u8 c,.int .u32 d] 27 (0,0)) qq_0 hb) (Qgk qq_b hb);clear p a HB;obtain⟨p,a,HB⟩:=n_
      (try clear hb)
      (try clear hb2)
      (try clear hk)
      (try clear hi)
      refine hK.out _ _ ⟨(Qep a.out 0).trans rfl,(Qep a.out 1).trans rfl⟩ (fun l=>?_);clear hK K;refine nzp_ 16 ?_;exact Qhr qq_3 (hJ2_3_8_11 (s) _ ⟨l,qq_2,qq_0,qq_b⟩)
    rintro s W ⟨hS_,t,u,A⟩;have x:Aside0 (Kd.R (Kd.int .u8) 5 W w.heap.size (fun _=>True) s m):=⟨t⟩;have y:Aside0 (W.heap[b]? = some (.cells #[.int .u8 c,.int .u32 d] 27 (0,0))):=⟨u⟩;have B:Aside0 (Below w.heap.size w W):=⟨A⟩;clear a HB t u A;have p:=x;have a:=y;have HB:=B;clear x y B;have l:W.cell? ⟨b,0,none⟩=some (.int .u8 c)∧W.cell? ⟨b,1,none⟩=some (.int .u32 d):=hS_;refine nza_ ?_;refine pz_ (i:=12) (N:=some 17) (bm 15 8191) (Qit HT_.out qq_6) ?_;refine one_ (i:=13) (N:=some 18) (bm 15 16383) rfl rfl (Qiu HT_.out qq_6) (by decide) (fun K hK=>?_);refine Qht Tryz.func61 qq_6 rfl #[.string ((((⟨#[1,2]⟩:ByteArray)++(strOfNums m))++q)++z)] (by rfl) rfl rfl qq_1 ?_;with_reducible refine(Qbp.calls k ((((⟨#[1,2]⟩:ByteArray)++(strOfNums m))++q)++z) L _ A8.out).mono ?_
    rintro e ax ⟨rfl,hb⟩;refine⟨_,rfl,?_⟩;have n_:=qn3 (Kd.R_below qq_2 hb) (Qfe (g:=b) (o:=.cells #[.int .u8 c,.int .u32 d] 27 (0,0)) qq_0 hb) (Qgk qq_b hb);clear p a HB;obtain⟨p,a,HB⟩:=n_
    (try clear hb)
    (try clear hb2)
    (try clear hk)
    (try clear hi)
    refine hK.out _ _ ⟨(Qep a.out 0).trans rfl,(Qep a.out 1).trans rfl⟩ (fun l=>?_);clear hK K;refine nzp_ 18 ?_;refine pz_ (i:=14) (N:=some 4) (bm 15 32767) (Qit HT_.out qq_6) ?_;refine Qhn (Qiw HT_.out qq_6) ?_
    try go_wp2
    go_ret
    exact⟨qq_7,qq_b⟩
   ·rw[if_neg c7]at H;exact absurd H (by simp)
  ·rw[if_neg c5]at H;exact absurd H (by simp)
 ·rw[if_neg c3]at H;exact absurd H (by simp)
def Qbi.f(k:Nat)(a0_0:Bool)(a0_1:Int)(a0_2:ByteArray)(a0_3:ByteArray):Option (ByteArray):=if a0_0=true then((Qaw.f k a0_1).bind fun t300=>(if 1+t300.size≤9223372036854775807 then((Qax.f k a0_2).bind fun t301=>(if((⟨#[3]⟩:ByteArray)++t300).size+t301.size≤9223372036854775807 then(some (((⟨#[3]⟩:ByteArray)++t300)++t301))else(none)))else(none)))else((Qaw.f k a0_1).bind fun t302=>(if 1+t302.size≤9223372036854775807 then((Qax.f k a0_2).bind fun t303=>(if((⟨#[2]⟩:ByteArray)++t302).size+t303.size≤9223372036854775807 then((Qax.f k a0_3).bind fun t304=>(if(((⟨#[2]⟩:ByteArray)++t302)++t303).size+t304.size≤9223372036854775807 then(some ((((⟨#[2]⟩:ByteArray)++t302)++t303)++t304))else(none)))else(none)))else(none)))
def Qbi.T2:Bool × List (List Nat × List Nat):=(true,[([],[]),([0],[0]),([1],[1]),([2],[2]),([],[]),([4],[4]),([5,2],[5]),([3,6],[3,6]),([7,6,0,1,2,3,4,5,6,7],[7])])
def Qbi.B2:List Nat:=[0,1,3,7,0,16,55,127,255]
theorem Qbi.tab2:rtab .any (Qjd Tryz.f62 2)=Qbi.T2:=by kernel_rfl
theorem Qbi.bits2:Qix Qbi.T2.2 Qbi.B2=true:=by kernel_rfl
def Qbi.T3:Bool × List (List Nat × List Nat):=(true,[([],[]),([0],[0]),([1],[1]),([2],[2]),([],[]),([4],[4]),([5,2],[5]),([3,6],[3,6]),([],[]),([8],[8]),([9,6],[9]),([7,10],[7,10]),([11,10,0,1,2,3,4,5,6,7,8,9,10,11],[11])])
def Qbi.B3:List Nat:=[0,1,3,7,0,16,55,127,0,256,887,2047,4095]
theorem Qbi.tab3:rtab .any (Qjd Tryz.f62 3)=Qbi.T3:=by kernel_rfl
theorem Qbi.bits3:Qix Qbi.T3.2 Qbi.B3=true:=by kernel_rfl
theorem Qbi.calls(k:Nat)(u:Bool)(c:Int)(d:ByteArray)(l:ByteArray)(r:ByteArray)(w:World)(h:Qbi.f k u c d l=some r) :
  Calls Tryz.prog 62 #[.agg #[.bool u,.int .u64 c,.string d,.string l]] w fun e w'=>e=.returned (.string r)∧Below w.heap.size w w':=by
 have hu39:=Tryz.underlying39;have HB:=QA (Below.refl w.heap.size w);have H:(if u=true then((Qaw.f k c).bind fun p=>(if 1+p.size≤9223372036854775807 then((Qax.f k d).bind fun s=>(if((⟨#[3]⟩:ByteArray)++p).size+s.size≤9223372036854775807 then(some (((⟨#[3]⟩:ByteArray)++p)++s))else(none)))else(none)))else((Qaw.f k c).bind fun m=>(if 1+m.size≤9223372036854775807 then((Qax.f k d).bind fun q=>(if((⟨#[2]⟩:ByteArray)++m).size+q.size≤9223372036854775807 then((Qax.f k l).bind fun t=>(if(((⟨#[2]⟩:ByteArray)++m)++q).size+t.size≤9223372036854775807 then(some ((((⟨#[2]⟩:ByteArray)++m)++q)++t))else(none)))else(none)))else(none))))=some r:=h;clear h
 by_cases c2:u=true
 ·subst c2;rw[if_pos rfl]at H;replace H:=Option.bind_eq_some_iff.mp H;obtain⟨p,T,H⟩:=H;have A3:=QA T;clear T
  by_cases c4:1+p.size≤9223372036854775807
  ·rw[if_pos c4]at H;have au:=eq_true c4;have av:=decide_eq_true c4
   try have aw:(9223372036854775807<1+p.size)=False:=eq_false (Nat.not_lt.2 c4)
   replace H:=Option.bind_eq_some_iff.mp H;obtain⟨s,U,H⟩:=H;have A5:=QA U;clear U
   by_cases c6:((⟨#[3]⟩:ByteArray)++p).size+s.size≤9223372036854775807
   ·rw[if_pos c6]at H;have ax:=eq_true c6;have ay:=decide_eq_true c6
    try have B:(9223372036854775807<((⟨#[3]⟩:ByteArray)++p).size+s.size)=False:=eq_false (Nat.not_lt.2 c6)
    try have W:=B
    try simp only[ByteArray.size_append,(show ∀x_:UInt8,(⟨#[x_]⟩:ByteArray).size=1 from fun _=>rfl),(show ∀x_ y_:UInt8,(⟨#[x_,y_]⟩:ByteArray).size=2 from fun _ _=>rfl)]at W
    try have X:=B
    try simp only[ByteArray.size_append,ByteArray.size_extract,(show ∀x_:UInt8,(⟨#[x_]⟩:ByteArray).size=1 from fun _=>rfl),(show ∀x_ y_:UInt8,(⟨#[x_,y_]⟩:ByteArray).size=2 from fun _ _=>rfl)]at X
    obtain rfl:=Option.some.inj H
    go_enter Tryz.func62,Tryz.ntmps62
    try go_wp2_with (first |((with_reducible refine Qgv (N:=1) rfl ?_);refine qq_e 1 #[.bool true,.int .u64 c,.string d,.string l] 39 ?_;intro b hg w7 hbox hb;have n_:=qn4 (Qgk qq_b hb) (hbox) (qq_s hg:w.heap.size≤b) (qq_s hg:w.heap.size≤b);clear HB;obtain⟨HB,a,I,J⟩:=n_;clear hb hbox hg;obtain⟨ac,ad,ae,af⟩:=qc4 a.out;have az:=Qeq a.out))
    have n_:=qn2 (Qfc a.out) (Qgr HB.out);clear a HB;obtain⟨a,HB⟩:=n_;refine Qhk (n:=9) (S:=fun w'=>w'.cell? ⟨b,0,none⟩=some (.bool true)∧w'.cell? ⟨b,1,none⟩=some (.int .u64 c)∧w'.cell? ⟨b,2,none⟩=some (.string d)∧w'.cell? ⟨b,3,none⟩=some (.string l)) (ds:=[]) (bm 9 0) qq_6 rfl rfl ⟨(Qep a.out 0).trans rfl,(Qep a.out 1).trans rfl,(Qep a.out 2).trans rfl,(Qep a.out 3).trans rfl⟩ (fun j=>?_);refine Qjb Qbi.tab2 Qbi.bits2 (fun HT_ HW_=>?_);generalize w7.drew=w9 at a HB j ⊢;refine pz_ (i:=0) (N:=some 5) (bm 9 1) (Qit HT_.out qq_6) ?_;refine pz_ (i:=4) (N:=some 9) (bm 9 17) (Qit HT_.out qq_6) ?_;refine tz_ (i:=1) (N:=some 6) (bm 9 19) (Qja HT_.out HW_.out qq_6) j ?_;refine tz_ (i:=5) (N:=some 10) (bm 9 51) (Qja HT_.out HW_.out qq_6) j ?_;refine one_ (i:=2) (N:=some 7) (bm 9 55) rfl rfl (Qiu HT_.out qq_6) (by decide) (fun K hK=>?_);refine Qht Tryz.func98 qq_6 rfl #[.int .u64 c] (by rfl) rfl rfl qq_1 ?_;with_reducible refine(Qaw.calls k c p _ A3.out).mono ?_
    rintro e aA ⟨rfl,hb⟩;refine⟨_,rfl,?_⟩;have n_:=qn2 (Qfe (g:=b) (o:=.cells #[.bool true,.int .u64 c,.string d,.string l] 39 (0,0)) qq_0 hb) (Qgk qq_b hb);clear a HB;obtain⟨a,HB⟩:=n_
    (try clear hb)
    (try clear hb2)
    (try clear hk)
    (try clear hi)
    refine hK.out _ _ ⟨(Qep a.out 0).trans rfl,(Qep a.out 1).trans rfl,(Qep a.out 2).trans rfl,(Qep a.out 3).trans rfl⟩ (fun j=>?_);clear hK K;refine nzp_ 7 ?_;refine pz_ (i:=3) (N:=some 8) (bm 9 63) (Qit HT_.out qq_6) ?_;refine one_ (i:=6) (N:=some 11) (bm 9 127) rfl rfl (Qiu HT_.out qq_6) (by decide) (fun K hK=>?_);refine Qht Tryz.func104 qq_6 rfl #[.string d] (by rfl) rfl rfl qq_1 ?_;with_reducible refine(Qax.calls k d s _ A5.out).mono ?_
    rintro e aB ⟨rfl,hb⟩;refine⟨_,rfl,?_⟩;have n_:=qn2 (Qfe (g:=b) (o:=.cells #[.bool true,.int .u64 c,.string d,.string l] 39 (0,0)) qq_0 hb) (Qgk qq_b hb);clear a HB;obtain⟨a,HB⟩:=n_
    (try clear hb)
    (try clear hb2)
    (try clear hk)
    (try clear hi)
    refine hK.out _ _ ⟨(Qep a.out 0).trans rfl,(Qep a.out 1).trans rfl,(Qep a.out 2).trans rfl,(Qep a.out 3).trans rfl⟩ (fun j=>?_);clear hK K;refine nzp_ 11 ?_;refine pz_ (i:=7) (N:=some 12) (bm 9 255) (Qit HT_.out qq_6) ?_;refine pz_ (i:=8) (N:=some 2) (bm 9 511) (Qit HT_.out qq_6) ?_;refine Qhn (Qiw HT_.out qq_6) ?_
    try go_wp2
    go_ret
    exact⟨qq_7,qq_b⟩
   ·rw[if_neg c6]at H;exact absurd H (by simp)
  ·rw[if_neg c4]at H;exact absurd H (by simp)
 ·replace c2:=Bool.eq_false_iff.mpr c2;subst c2;rw[if_neg (show ¬(false=true)by decide)]at H;replace H:=Option.bind_eq_some_iff.mp H;obtain⟨m,D,H⟩:=H;have ag:=QA D;clear D
  by_cases v:1+m.size≤9223372036854775807
  ·rw[if_pos v]at H;have ak:=eq_true v;have al:=decide_eq_true v
   try have am:(9223372036854775807<1+m.size)=False:=eq_false (Nat.not_lt.2 v)
   replace H:=Option.bind_eq_some_iff.mp H;obtain⟨q,E,H⟩:=H;have ah:=QA E;clear E
   by_cases x:((⟨#[2]⟩:ByteArray)++m).size+q.size≤9223372036854775807
   ·rw[if_pos x]at H;have an:=eq_true x;have ao:=decide_eq_true x
    try have z:(9223372036854775807<((⟨#[2]⟩:ByteArray)++m).size+q.size)=False:=eq_false (Nat.not_lt.2 x)
    try have L:=z
    try simp only[ByteArray.size_append,(show ∀x_:UInt8,(⟨#[x_]⟩:ByteArray).size=1 from fun _=>rfl),(show ∀x_ y_:UInt8,(⟨#[x_,y_]⟩:ByteArray).size=2 from fun _ _=>rfl)]at L
    try have M:=z
    try simp only[ByteArray.size_append,ByteArray.size_extract,(show ∀x_:UInt8,(⟨#[x_]⟩:ByteArray).size=1 from fun _=>rfl),(show ∀x_ y_:UInt8,(⟨#[x_,y_]⟩:ByteArray).size=2 from fun _ _=>rfl)]at M
    replace H:=Option.bind_eq_some_iff.mp H;obtain⟨t,G,H⟩:=H;have ai:=QA G;clear G
    by_cases y:(((⟨#[2]⟩:ByteArray)++m)++q).size+t.size≤9223372036854775807
    ·rw[if_pos y]at H;have ap:=eq_true y;have aq:=decide_eq_true y
     try have A:(9223372036854775807<(((⟨#[2]⟩:ByteArray)++m)++q).size+t.size)=False:=eq_false (Nat.not_lt.2 y)
     try have O:=A
     try simp only[ByteArray.size_append,(show ∀x_:UInt8,(⟨#[x_]⟩:ByteArray).size=1 from fun _=>rfl),(show ∀x_ y_:UInt8,(⟨#[x_,y_]⟩:ByteArray).size=2 from fun _ _=>rfl)]at O
     try have P:=A
     try simp only[ByteArray.size_append,ByteArray.size_extract,(show ∀x_:UInt8,(⟨#[x_]⟩:ByteArray).size=1 from fun _=>rfl),(show ∀x_ y_:UInt8,(⟨#[x_,y_]⟩:ByteArray).size=2 from fun _ _=>rfl)]at P
     obtain rfl:=Option.some.inj H
     go_enter Tryz.func62,Tryz.ntmps62
     try go_wp2_with (first |((with_reducible refine Qgv (N:=1) rfl ?_);refine qq_e 1 #[.bool false,.int .u64 c,.string d,.string l] 39 ?_;intro b hg aj hbox hb;have n_:=qn4 (Qgk qq_b hb) (hbox) (qq_s hg:w.heap.size≤b) (qq_s hg:w.heap.size≤b);clear HB;obtain⟨HB,a,I,J⟩:=n_;clear hb hbox hg;obtain⟨Y,Z,aa,ab⟩:=qc4 a.out;have ar:=Qeq a.out))
     have n_:=qn2 (Qfc a.out) (Qgr HB.out);clear a HB;obtain⟨a,HB⟩:=n_;refine Qhk (n:=13) (S:=fun w'=>w'.cell? ⟨b,0,none⟩=some (.bool false)∧w'.cell? ⟨b,1,none⟩=some (.int .u64 c)∧w'.cell? ⟨b,2,none⟩=some (.string d)∧w'.cell? ⟨b,3,none⟩=some (.string l)) (ds:=[]) (bm 13 0) qq_6 rfl rfl ⟨(Qep a.out 0).trans rfl,(Qep a.out 1).trans rfl,(Qep a.out 2).trans rfl,(Qep a.out 3).trans rfl⟩ (fun j=>?_);refine Qjb Qbi.tab3 Qbi.bits3 (fun HT_ HW_=>?_);generalize aj.drew=w20 at a HB j ⊢;refine pz_ (i:=0) (N:=some 13) (bm 13 1) (Qit HT_.out qq_6) ?_;refine pz_ (i:=4) (N:=some 17) (bm 13 17) (Qit HT_.out qq_6) ?_;refine pz_ (i:=8) (N:=some 21) (bm 13 273) (Qit HT_.out qq_6) ?_;refine tz_ (i:=1) (N:=some 14) (bm 13 275) (Qja HT_.out HW_.out qq_6) j ?_;refine tz_ (i:=5) (N:=some 18) (bm 13 307) (Qja HT_.out HW_.out qq_6) j ?_;refine tz_ (i:=9) (N:=some 22) (bm 13 819) (Qja HT_.out HW_.out qq_6) j ?_;refine one_ (i:=2) (N:=some 15) (bm 13 823) rfl rfl (Qiu HT_.out qq_6) (by decide) (fun K hK=>?_);refine Qht Tryz.func98 qq_6 rfl #[.int .u64 c] (by rfl) rfl rfl qq_1 ?_;with_reducible refine(Qaw.calls k c m _ ag.out).mono ?_
     rintro e aC ⟨rfl,hb⟩;refine⟨_,rfl,?_⟩;have n_:=qn2 (Qfe (g:=b) (o:=.cells #[.bool false,.int .u64 c,.string d,.string l] 39 (0,0)) qq_0 hb) (Qgk qq_b hb);clear a HB;obtain⟨a,HB⟩:=n_
     (try clear hb)
     (try clear hb2)
     (try clear hk)
     (try clear hi)
     refine hK.out _ _ ⟨(Qep a.out 0).trans rfl,(Qep a.out 1).trans rfl,(Qep a.out 2).trans rfl,(Qep a.out 3).trans rfl⟩ (fun j=>?_);clear hK K;refine nzp_ 15 ?_;refine pz_ (i:=3) (N:=some 16) (bm 13 831) (Qit HT_.out qq_6) ?_;refine one_ (i:=6) (N:=some 19) (bm 13 895) rfl rfl (Qiu HT_.out qq_6) (by decide) (fun K hK=>?_);refine Qht Tryz.func104 qq_6 rfl #[.string d] (by rfl) rfl rfl qq_1 ?_;with_reducible refine(Qax.calls k d q _ ah.out).mono ?_
     rintro e aD ⟨rfl,hb⟩;refine⟨_,rfl,?_⟩;have n_:=qn2 (Qfe (g:=b) (o:=.cells #[.bool false,.int .u64 c,.string d,.string l] 39 (0,0)) qq_0 hb) (Qgk qq_b hb);clear a HB;obtain⟨a,HB⟩:=n_
     (try clear hb)
     (try clear hb2)
     (try clear hk)
     (try clear hi)
     refine hK.out _ _ ⟨(Qep a.out 0).trans rfl,(Qep a.out 1).trans rfl,(Qep a.out 2).trans rfl,(Qep a.out 3).trans rfl⟩ (fun j=>?_);clear hK K;refine nzp_ 19 ?_;refine pz_ (i:=7) (N:=some 20) (bm 13 1023) (Qit HT_.out qq_6) ?_;refine one_ (i:=10) (N:=some 23) (bm 13 2047) rfl rfl (Qiu HT_.out qq_6) (by decide) (fun K hK=>?_);refine Qht Tryz.func104 qq_6 rfl #[.string l] (by rfl) rfl rfl qq_1 ?_;with_reducible refine(Qax.calls k l t _ ai.out).mono ?_
     rintro e aE ⟨rfl,hb⟩;refine⟨_,rfl,?_⟩;have n_:=qn2 (Qfe (g:=b) (o:=.cells #[.bool false,.int .u64 c,.string d,.string l] 39 (0,0)) qq_0 hb) (Qgk qq_b hb);clear a HB;obtain⟨a,HB⟩:=n_
     (try clear hb)
     (try clear hb2)
     (try clear hk)
     (try clear hi)
     refine hK.out _ _ ⟨(Qep a.out 0).trans rfl,(Qep a.out 1).trans rfl,(Qep a.out 2).trans rfl,(Qep a.out 3).trans rfl⟩ (fun j=>?_);clear hK K;refine nzp_ 23 ?_;refine pz_ (i:=11) (N:=some 24) (bm 13 4095) (Qit HT_.out qq_6) ?_;refine pz_ (i:=12) (N:=some 2) (bm 13 8191) (Qit HT_.out qq_6) ?_;refine Qhn (Qiw HT_.out qq_6) ?_
     try go_wp2
     go_ret
     exact⟨qq_7,qq_b⟩
    ·rw[if_neg y]at H;exact absurd H (by simp)
   ·rw[if_neg x]at H;exact absurd H (by simp)
  ·rw[if_neg v]at H;exact absurd H (by simp)
def Qbo.f(k:Nat)(a0_0:Bool)(a0_1:Int)(a0_2:ByteArray)(a0_3:ByteArray):Option (ByteArray):=(Qbi.f k a0_0 a0_1 a0_2 a0_3).bind fun t306=>((Qbp.f k t306).bind fun t307=>(some t307))
theorem Qbo.calls(k:Nat)(a:Bool)(b:Int)(c:ByteArray)(d:ByteArray)(r:ByteArray)(w:World)(h:Qbo.f k a b c d=some r) :
  Calls Tryz.prog 22 #[.agg #[.bool a,.int .u64 b,.string c,.string d]] w fun e w'=>e=.returned (.string r)∧Below w.heap.size w w':=by
 have hu39:=Tryz.underlying39;have HB:=QA (Below.refl w.heap.size w);have H:((Qbi.f k a b c d).bind fun m=>((Qbp.f k m).bind fun n=>(some n)))=some r:=h;clear h;replace H:=Option.bind_eq_some_iff.mp H;obtain⟨m,p,H⟩:=H;have A2:=QA p;clear p;replace H:=Option.bind_eq_some_iff.mp H;obtain⟨n,q,H⟩:=H;have A3:=QA q;clear q;obtain rfl:=Option.some.inj H
 go_enter Tryz.func22,Tryz.ntmps22
 go_wp2_with (first |((with_reducible refine Qgv (N:=1) rfl ?_);refine qq_e 1 #[.bool a,.int .u64 b,.string c,.string d] 39 ?_;intro l hg w4 hbox hb;have n_:=qn4 (Qgk qq_b hb) (hbox) (qq_s hg:w.heap.size≤l) (qq_s hg:w.heap.size≤l);clear HB;obtain⟨HB,j,x,y⟩:=n_;clear hb hbox hg;obtain⟨s,t,u,v⟩:=qc4 j.out;have z:=Qeq j.out) |((with_reducible refine Qju (f:=62) rfl ?_);refine Qhu (some 4) rfl rfl Tryz.func62 qq_6 rfl #[.agg #[.bool a,.int .u64 b,.string c,.string d]] rfl qq_1 ?_;(with_reducible refine(Qbi.calls k a b c d m _ A2.out).mono ?_);rintro e w6 ⟨rfl,hb⟩;refine⟨_,rfl,?_⟩;have n_:=qn2 (Qfe (g:=l) (o:=.cells #[.bool a,.int .u64 b,.string c,.string d] 39 (0,0)) qq_0 hb) (Qgk qq_b hb);clear j HB;obtain⟨j,HB⟩:=n_;(try clear hb);(try clear hb2);(try clear hk);(try clear hi)) |((with_reducible refine Qju (f:=61) rfl ?_);refine Qhu (some 5) rfl rfl Tryz.func61 qq_6 rfl #[.string m] rfl qq_1 ?_;(with_reducible refine(Qbp.calls k m n _ A3.out).mono ?_);rintro e w7 ⟨rfl,hb⟩;refine⟨_,rfl,?_⟩;have n_:=qn2 (Qfe (g:=l) (o:=.cells #[.bool a,.int .u64 b,.string c,.string d] 39 (0,0)) qq_0 hb) (Qgk qq_b hb);clear j HB;obtain⟨j,HB⟩:=n_;(try clear hb);(try clear hb2);(try clear hk);(try clear hi)))
 go_ret
 exact⟨qq_7,qq_b⟩
def Qcb.f(k:Nat)(a0_0:Int)(a0_1:Int)(a1:Int):Option (Int × Int × Int × Int × Int):=(Qbn.f k a0_0 a0_1 a1).bind fun t325=>(some (a0_0,a0_1,a1,(t325.size:Int),0))
def Qcb.T1:Bool × List (List Nat × List Nat):=(true,[([],[]),([],[]),([],[]),([],[]),([2,3],[2,3]),([4],[4]),([0,1,5],[0,1,5]),([6,4,0,1,2,3,4,5,6],[6])])
def Qcb.B1:List Nat:=[0,0,0,0,12,28,63,127]
theorem Qcb.tab1:rtab .any (Qjd Tryz.f20 1)=Qcb.T1:=by kernel_rfl
theorem Qcb.bits1:Qix Qcb.T1.2 Qcb.B1=true:=by kernel_rfl
theorem Qcb.calls(k:Nat)(j:Int)(l:Int)(a1:Int)(r1:Int)(r2:Int)(r3:Int)(r4:Int)(r5:Int)(w:World)(h:Qcb.f k j l a1=some (r1,r2,r3,r4,r5)) :
  Calls Tryz.prog 20 #[.agg #[.int .u8 j,.int .u32 l],.int .u64 a1] w fun e w'=>e=.returned (.agg #[.int .u8 r1,.int .u32 r2,.int .u64 r3,.int .i64 r4,.int .i64 r5])∧Below w.heap.size w w':=by
 have hu27:=Tryz.underlying27;have hu36:=Tryz.underlying36;have HB:=QA (Below.refl w.heap.size w);have H:((Qbn.f k j l a1).bind fun s=>(some (j,l,a1,(s.size:Int),0)))=some (r1,r2,r3,r4,r5):=h;clear h;replace H:=Option.bind_eq_some_iff.mp H;obtain⟨s,t,H⟩:=H;have A3:=QA t;clear t;simp only[Option.some.injEq,Prod.mk.injEq]at H;obtain⟨rfl,rfl,rfl,rfl,rfl⟩:=H
 go_enter Tryz.func20,Tryz.ntmps20
 try go_wp2_with (first |((with_reducible refine Qgv (N:=2) rfl ?_);refine qq_e 2 #[.int .u8 j,.int .u32 l] 27 ?_;intro m hg w4 hbox hb;have n_:=qn4 (Qgk qq_b hb) (hbox) (qq_s hg:w.heap.size≤m) (qq_s hg:w.heap.size≤m);clear HB;obtain⟨HB,d,u,v⟩:=n_;clear hb hbox hg) |((with_reducible refine Qgv (N:=4) rfl ?_);refine qq_e 4 #[.int .u8 0,.int .u32 0,.int .u64 0,.int .i64 0,.int .i64 0] 36 ?_;intro b hg w5 hbox hb;have n_:=qn7 (Qfe (g:=m) (o:=.cells #[.int .u8 j,.int .u32 l] 27 (0,0)) qq_0 hb) (Qgk qq_b hb) (hbox) (qq_s hg:w.heap.size≤b) (qq_s hg:w.heap.size≤b) ((by rw[hg];exact Nat.ne_of_lt (Qeo (g:=m) (o:=.cells #[.int .u8 j,.int .u32 l] 27 (0,0)) qq_0):m≠b)) ((by rw[hg];exact Nat.ne_of_gt (Qeo (g:=m) (o:=.cells #[.int .u8 j,.int .u32 l] 27 (0,0)) qq_0):b≠m));clear d HB;obtain⟨d,HB,c,x,y,a,q⟩:=n_;clear hb hbox hg))
 have n_:=qn3 (Qfc d.out) (Qfc c.out) (Qgr HB.out);clear d c HB;obtain⟨d,c,HB⟩:=n_;refine Qhk (n:=8) (S:=fun w'=>w'.cell? ⟨m,0,none⟩=some (.int .u8 j)∧w'.cell? ⟨m,1,none⟩=some (.int .u32 l)) (ds:=[]) (bm 8 0) qq_6 rfl rfl ⟨(Qep d.out 0).trans rfl,(Qep d.out 1).trans rfl⟩ (fun r=>?_);refine Qjb Qcb.tab1 Qcb.bits1 (fun HT_ HW_=>?_);generalize w5.drew=w6 at d c HB r ⊢;refine pz_ (i:=1) (N:=some 6) (bm 8 2) (Qit HT_.out qq_6) ?_;refine pz_ (i:=3) (N:=some 8) (bm 8 10) (Qit HT_.out qq_6) ?_;refine tz_ (i:=0) (N:=some 5) (bm 8 11) (Qja HT_.out HW_.out qq_6) r ?_;refine tz_ (i:=2) (N:=some 7) (bm 8 15) (Qja HT_.out HW_.out qq_6) r ?_;refine one_ (i:=4) (N:=some 9) (bm 8 31) rfl rfl (Qiu HT_.out qq_6) (by decide) (fun K hK=>?_);refine Qht Tryz.func55 qq_6 rfl #[.agg #[.int .u8 j,.int .u32 l],.int .u64 a1] (by rfl) rfl rfl qq_1 ?_;with_reducible refine(Qbn.calls k j l a1 s _ A3.out).mono ?_
 rintro e w7 ⟨rfl,hb⟩;refine⟨_,rfl,?_⟩;have n_:=qn3 (Qfe (g:=m) (o:=.cells #[.int .u8 j,.int .u32 l] 27 (0,0)) qq_0 hb) (Qfe (g:=b) (o:=.cells #[.int .u8 0,.int .u32 0,.int .u64 0,.int .i64 0,.int .i64 0] 36 (0,0)) qq_0 hb) (Qgk qq_b hb);clear d c HB;obtain⟨d,c,HB⟩:=n_
 (try clear hb)
 (try clear hb2)
 (try clear hk)
 (try clear hi)
 refine hK.out _ _ ⟨(Qep d.out 0).trans rfl,(Qep d.out 1).trans rfl⟩ (fun r=>?_);clear hK K;refine nzp_ 9 ?_;refine pz_ (i:=5) (N:=some 10) (bm 8 63) (Qit HT_.out qq_6) ?_;refine pz_ (i:=6) (N:=some 11) (bm 8 127) (Qit HT_.out qq_6) ?_;refine one_ (i:=7) (N:=none) (bm 8 255) rfl rfl (Qiu HT_.out qq_6) (by decide) (fun K hK=>?_);have hs8:w7.cell? ⟨b,0,none⟩=some (.int .u8 0):=(Qep c.out 0).trans rfl;have hfs8:=Qeq c.out 0;have hns8_0:=a.out;have hms8_0:=q.out;have hs9:w7.cell? ⟨b,1,none⟩=some (.int .u32 0):=(Qep c.out 1).trans rfl;have hfs9:=Qeq c.out 1;have hns9_0:=a.out;have hms9_0:=q.out;have hs10:w7.cell? ⟨b,2,none⟩=some (.int .u64 0):=(Qep c.out 2).trans rfl;have hfs10:=Qeq c.out 2;have hns10_0:=a.out;have hms10_0:=q.out;have hs11:w7.cell? ⟨b,3,none⟩=some (.int .i64 0):=(Qep c.out 3).trans rfl;have hfs11:=Qeq c.out 3;have hns11_0:=a.out;have hms11_0:=q.out;have hs12:w7.cell? ⟨b,4,none⟩=some (.int .i64 0):=(Qep c.out 4).trans rfl;have hfs12:=Qeq c.out 4;have hns12_0:=a.out;have hms12_0:=q.out;refine Qhw (w1:=?_) (by rfl) rfl ?_ ?_;rotate_left
 ·go_simp;rfl
 refine hK.out _ _ ⟨((Qgp (p:=⟨b,_,none⟩) a.out _).trans (((Qgp (p:=⟨b,_,none⟩) a.out _).trans (((Qgp (p:=⟨b,_,none⟩) a.out _).trans (((Qgp (p:=⟨b,_,none⟩) a.out _).trans (((Qgp (p:=⟨b,_,none⟩) a.out _).trans (r.1)))))))))),((Qgp (p:=⟨b,_,none⟩) a.out _).trans (((Qgp (p:=⟨b,_,none⟩) a.out _).trans (((Qgp (p:=⟨b,_,none⟩) a.out _).trans (((Qgp (p:=⟨b,_,none⟩) a.out _).trans (((Qgp (p:=⟨b,_,none⟩) a.out _).trans (r.2))))))))))⟩ (fun r=>?_);clear hK K;refine Qhn (Qiw HT_.out qq_6) ?_
 try go_wp2
 refine bodyPost_ret (results_cell_row rfl _ _ b 36 #[.int .u8 j,.int .u32 l,.int .u64 a1,.int .i64 (s.size:Int),.int .i64 0] (0,0) _ rfl qq_x Tryz.underlying36 rfl qq_6) rfl ?_;exact⟨qq_7,qq_b⟩
end Go.Proofs.YtnnofopfbeklbaaGreat.C
end
