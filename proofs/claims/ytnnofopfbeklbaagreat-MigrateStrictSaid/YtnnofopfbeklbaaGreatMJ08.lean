/- Merged texts. -/
import Derived.Test.YtnnofopfbeklbaaGreatMJ01
import Derived.Test.YtnnofopfbeklbaaGreatMJ03
import Derived.Test.YtnnofopfbeklbaaGreatMJ07
import Derived.Test.YtnnofopfbeklbaaGreatMJ06
set_option linter.unusedVariables false
set_option linter.unusedSimpArgs false
set_option maxHeartbeats 8000000
set_option maxRecDepth 100000
section
namespace Go.Proofs.YtnnofopfbeklbaaGreat.C
open Go.RowKit Go.Proofs.YtnnofopfbeklbaaGreatW.PrintWords Go.Proofs.YtnnofopfbeklbaaGreatW.PrintLast Go.Proofs.YtnnofopfbeklbaaGreatW.PrintMore
attribute [local go_sem] Qjk Qjl Qjm Qjn Qjo Qjp Qjq Qjr
def Qca.f(k:Nat)(a0_0:Int)(l0_1:List (S122)):Option (ByteArray):=(Qau.f k (IntKind.u64.wrap ((l0_1.length:Int))) 4).bind fun t475=>(if 1+t475.size≤9223372036854775807 then((Qau.f k (IntKind.u64.wrap (a0_0)) 4).bind fun t476=>(if((⟨#[4]⟩:ByteArray)++t475).size+t476.size≤9223372036854775807 then((Qbv.f k l0_1).bind fun t477=>(if(((⟨#[4]⟩:ByteArray)++t475)++t476).size+t477.size≤9223372036854775807 then((Qbx.f k l0_1).bind fun t478=>((Qby.f k t478).bind fun t481=>(if((((⟨#[4]⟩:ByteArray)++t475)++t476)++t477).size+t481.size≤9223372036854775807 then((Qbp.f k (((((⟨#[4]⟩:ByteArray)++t475)++t476)++t477)++t481)).bind fun t482=>(some t482))else(none))))else(none)))else(none)))else(none))
def Qca.T1:Bool × List (List Nat × List Nat):=(true,[([],[]),([0],[0]),([1],[1]),([2],[2]),([3],[3]),([4],[4]),([],[]),([6],[6]),([7],[7]),([8,4],[8]),([5,9],[5,9]),([10,9,0,1,2,3,4,5,6,7,8,9,10],[10])])
def Qca.B1:List Nat:=[0,1,3,7,15,31,0,64,192,479,1023,2047]
theorem Qca.tab1:rtab .any (Qjb Tryz.f71 1)=Qca.T1:=by kernel_rfl
theorem Qca.bits1:Qiv Qca.T1.2 Qca.B1=true:=by kernel_rfl
def Qca.T2:Bool × List (List Nat × List Nat):=(true,[([],[]),([],[]),([1],[1]),([2],[2]),([0,3],[0,3]),([],[]),([5],[5]),([6,3],[6]),([7,7],[7]),([4,8],[4,8]),([9,8],[9]),([10,10,0,1,2,3,4,5,6,7,8,9,10],[10])])
def Qca.B2:List Nat:=[0,0,2,6,15,0,32,110,238,511,1023,2047]
theorem Qca.tab2:rtab .any (Qjb Tryz.f71 2)=Qca.T2:=by kernel_rfl
theorem Qca.bits2:Qiv Qca.T2.2 Qca.B2=true:=by kernel_rfl
theorem Qca.calls(k:Nat)(q:Int)(t:Option Addr)(u:Nat)(d:List (S122))(r:ByteArray)(w:World)(hr0_1:Kd.C k122 w t d.length d)(hc0_1:d.length≤u)(h:Qca.f k q d=some r) :
  Calls Tryz.prog 71 #[.agg #[.int .u32 q,.slice t d.length u]] w fun e w'=>e=.returned (.string r)∧Below w.heap.size w w':=by
 have hu131:=Tryz.underlying131;have z:=QA hr0_1;have A:=QA hc0_1;clear hr0_1 hc0_1;have HB:=QA (Below.refl w.heap.size w);have H:((Qau.f k (IntKind.u64.wrap ((d.length:Int))) 4).bind fun b=>(if 1+b.size≤9223372036854775807 then((Qau.f k (IntKind.u64.wrap (q)) 4).bind fun c=>(if((⟨#[4]⟩:ByteArray)++b).size+c.size≤9223372036854775807 then((Qbv.f k d).bind fun j=>(if(((⟨#[4]⟩:ByteArray)++b)++c).size+j.size≤9223372036854775807 then((Qbx.f k d).bind fun x=>((Qby.f k x).bind fun l=>(if((((⟨#[4]⟩:ByteArray)++b)++c)++j).size+l.size≤9223372036854775807 then((Qbp.f k (((((⟨#[4]⟩:ByteArray)++b)++c)++j)++l)).bind fun s=>(some s))else(none))))else(none)))else(none)))else(none)))=some r:=h;clear h;replace H:=Option.bind_eq_some_iff.mp H;obtain⟨b,L,H⟩:=H;replace H:(if 1+b.size≤9223372036854775807 then((Qau.f k (IntKind.u64.wrap (q)) 4).bind fun c=>(if((⟨#[4]⟩:ByteArray)++b).size+c.size≤9223372036854775807 then((Qbv.f k d).bind fun j=>(if(((⟨#[4]⟩:ByteArray)++b)++c).size+j.size≤9223372036854775807 then((Qbx.f k d).bind fun x=>((Qby.f k x).bind fun l=>(if((((⟨#[4]⟩:ByteArray)++b)++c)++j).size+l.size≤9223372036854775807 then((Qbp.f k (((((⟨#[4]⟩:ByteArray)++b)++c)++j)++l)).bind fun s=>(some s))else(none))))else(none)))else(none)))else(none))=some r:=H;have A2:=QA L;clear L
 by_cases c3:1+b.size≤9223372036854775807
 ·rw [if_pos c3]at H;have ah:=eq_true c3;have ai:decide (1+b.size≤9223372036854775807)=true:=decide_eq_true c3
  try have aj:(9223372036854775807<1+b.size)=False:=eq_false (Nat.not_lt.2 c3)
  replace H:=Option.bind_eq_some_iff.mp H;obtain⟨c,M,H⟩:=H;replace H:(if((⟨#[4]⟩:ByteArray)++b).size+c.size≤9223372036854775807 then((Qbv.f k d).bind fun j=>(if(((⟨#[4]⟩:ByteArray)++b)++c).size+j.size≤9223372036854775807 then((Qbx.f k d).bind fun x=>((Qby.f k x).bind fun l=>(if((((⟨#[4]⟩:ByteArray)++b)++c)++j).size+l.size≤9223372036854775807 then((Qbp.f k (((((⟨#[4]⟩:ByteArray)++b)++c)++j)++l)).bind fun s=>(some s))else(none))))else(none)))else(none))=some r:=H;have A4:=QA M;clear M
  by_cases c5:((⟨#[4]⟩:ByteArray)++b).size+c.size≤9223372036854775807
  ·rw [if_pos c5]at H;have ak:=eq_true c5;have al:decide (((⟨#[4]⟩:ByteArray)++b).size+c.size≤9223372036854775807)=true:=decide_eq_true c5
   try have D:(9223372036854775807<((⟨#[4]⟩:ByteArray)++b).size+c.size)=False:=eq_false (Nat.not_lt.2 c5)
   try have W:=D
   try simp only[ByteArray.size_append,(show ∀x_:UInt8,(⟨#[x_]⟩:ByteArray).size=1 from fun _=>rfl),(show ∀x_ y_:UInt8,(⟨#[x_,y_]⟩:ByteArray).size=2 from fun _ _=>rfl)]at W
   try have X:=D
   try simp only[ByteArray.size_append,ByteArray.size_extract,(show ∀x_:UInt8,(⟨#[x_]⟩:ByteArray).size=1 from fun _=>rfl),(show ∀x_ y_:UInt8,(⟨#[x_,y_]⟩:ByteArray).size=2 from fun _ _=>rfl)]at X
   replace H:=Option.bind_eq_some_iff.mp H;obtain⟨j,O,H⟩:=H;replace H:(if(((⟨#[4]⟩:ByteArray)++b)++c).size+j.size≤9223372036854775807 then((Qbx.f k d).bind fun x=>((Qby.f k x).bind fun l=>(if((((⟨#[4]⟩:ByteArray)++b)++c)++j).size+l.size≤9223372036854775807 then((Qbp.f k (((((⟨#[4]⟩:ByteArray)++b)++c)++j)++l)).bind fun s=>(some s))else(none))))else(none))=some r:=H;have A6:=QA O;clear O
   by_cases c7:(((⟨#[4]⟩:ByteArray)++b)++c).size+j.size≤9223372036854775807
   ·rw[if_pos c7]at H;have am:=eq_true c7;have an:decide ((((⟨#[4]⟩:ByteArray)++b)++c).size+j.size≤9223372036854775807)=true:=decide_eq_true c7
    try have E:(9223372036854775807<(((⟨#[4]⟩:ByteArray)++b)++c).size+j.size)=False:=eq_false (Nat.not_lt.2 c7)
    try have Y:=E
    try simp only[ByteArray.size_append,(show ∀x_:UInt8,(⟨#[x_]⟩:ByteArray).size=1 from fun _=>rfl),(show ∀x_ y_:UInt8,(⟨#[x_,y_]⟩:ByteArray).size=2 from fun _ _=>rfl)]at Y
    try have Z:=E
    try simp only[ByteArray.size_append,ByteArray.size_extract,(show ∀x_:UInt8,(⟨#[x_]⟩:ByteArray).size=1 from fun _=>rfl),(show ∀x_ y_:UInt8,(⟨#[x_,y_]⟩:ByteArray).size=2 from fun _ _=>rfl)]at Z
    replace H:=Option.bind_eq_some_iff.mp H;obtain⟨x,P,H⟩:=H;replace H:((Qby.f k x).bind fun l=>(if((((⟨#[4]⟩:ByteArray)++b)++c)++j).size+l.size≤9223372036854775807 then((Qbp.f k (((((⟨#[4]⟩:ByteArray)++b)++c)++j)++l)).bind fun s=>(some s))else(none)))=some r:=H;have A8:=QA P;clear P;replace H:=Option.bind_eq_some_iff.mp H;obtain⟨l,T,H⟩:=H;replace H:(if((((⟨#[4]⟩:ByteArray)++b)++c)++j).size+l.size≤9223372036854775807 then((Qbp.f k (((((⟨#[4]⟩:ByteArray)++b)++c)++j)++l)).bind fun s=>(some s))else(none))=some r:=H;have A9:=QA T;clear T
    by_cases c10:((((⟨#[4]⟩:ByteArray)++b)++c)++j).size+l.size≤9223372036854775807
    ·rw[if_pos c10]at H;have ad:=eq_true c10;have ae:decide (((((⟨#[4]⟩:ByteArray)++b)++c)++j).size+l.size≤9223372036854775807)=true:=decide_eq_true c10
     try have B:(9223372036854775807<((((⟨#[4]⟩:ByteArray)++b)++c)++j).size+l.size)=False:=eq_false (Nat.not_lt.2 c10)
     try have I:=B
     try simp only[ByteArray.size_append,(show ∀x_:UInt8,(⟨#[x_]⟩:ByteArray).size=1 from fun _=>rfl),(show ∀x_ y_:UInt8,(⟨#[x_,y_]⟩:ByteArray).size=2 from fun _ _=>rfl)]at I
     try have J:=B
     try simp only[ByteArray.size_append,ByteArray.size_extract,(show ∀x_:UInt8,(⟨#[x_]⟩:ByteArray).size=1 from fun _=>rfl),(show ∀x_ y_:UInt8,(⟨#[x_,y_]⟩:ByteArray).size=2 from fun _ _=>rfl)]at J
     replace H:=Option.bind_eq_some_iff.mp H;obtain⟨s,G,H⟩:=H;replace H:(some s)=some r:=H;have aa:=QA G;clear G;obtain rfl:=Option.some.inj H
     go_enter Tryz.func71,Tryz.ntmps71
     try go_wp2_with (first |((with_reducible refine Qgt (N:=1) rfl ?_);refine qq_e 1 #[.int .u32 q,.slice t d.length u] 131 ?_;intro p hg ab hbox hb;have n_:=qn4 (Qgi qq_b hb) (hbox) (qq_s hg:w.heap.size≤p) (qq_s hg:w.heap.size≤p);clear HB;obtain⟨HB,a,af,ag⟩:=n_;clear hb hbox hg))
     have n_:=qn2 (Qfb a.out) (Qgp HB.out);clear a HB;obtain⟨a,HB⟩:=n_;refine Qhg (n:=12) (S:=fun w'=>w'.cell? ⟨p,0,none⟩=some (.int .u32 q)∧w'.cell? ⟨p,1,none⟩=some (.slice t d.length u)) (ds:=[]) (bm 12 0) qq_7 rfl rfl ⟨(Qeo a.out 0).trans rfl,(Qeo a.out 1).trans rfl⟩ (fun m=>?_);refine Qiz Qca.tab1 Qca.bits1 (fun HT_ HW_=>?_);generalize ab.drew=w13 at a HB m ⊢;refine Qhj (i:=0) (N:=some 4) (v:=?_) (a':=?_) (bm 12 1) rfl rfl (Qir HT_.out qq_7) (fun _ _ _ h=>h) (Or.inl ⟨by rfl,?_⟩) ?_ ?_;rotate_left
     ·intro w';go_simp;with_reducible rfl
     rotate_left
     ·exact qq_2
     refine Qhj (i:=6) (N:=some 10) (v:=?_) (a':=?_) (bm 12 65) rfl rfl (Qir HT_.out qq_7) (fun _ _ _ h=>h) (Or.inl ⟨by rfl,?_⟩) ?_ ?_;rotate_left
     ·intro w';go_simp;with_reducible rfl
     rotate_left
     ·exact qq_2
     refine Qhi (i:=1) (N:=some 5) (v:=?_) (a':=?_) (bm 12 67) rfl rfl (Qiy HT_.out HW_.out qq_7) (fun _ _ _ h=>h) (Or.inl ⟨by rfl,?_⟩) m ?_ ?_;rotate_left
     ·rintro w' ⟨s0,s1⟩;go_simp;with_reducible rfl
     rotate_left
     ·exact qq_2
     refine Qhj (i:=2) (N:=some 6) (v:=?_) (a':=?_) (bm 12 71) rfl rfl (Qir HT_.out qq_7) (fun _ _ _ h=>h) (Or.inl ⟨by rfl,?_⟩) ?_ ?_;rotate_left
     ·intro w';go_simp;with_reducible rfl
     rotate_left
     ·exact qq_2
     refine Qhj (i:=3) (N:=some 7) (v:=?_) (a':=?_) (bm 12 79) rfl rfl (Qir HT_.out qq_7) (fun _ _ _ h=>h) (Or.inl ⟨by rfl,?_⟩) ?_ ?_;rotate_left
     ·intro w';go_simp;with_reducible rfl
     rotate_left
     ·exact qq_2
     refine Qhi (i:=7) (N:=some 11) (v:=?_) (a':=?_) (bm 12 207) rfl rfl (Qiy HT_.out HW_.out qq_7) (fun _ _ _ h=>h) (Or.inl ⟨by rfl,?_⟩) m ?_ ?_;rotate_left
     ·rintro w' ⟨s0,s1⟩;go_simp;with_reducible rfl
     rotate_left
     ·exact qq_2
     refine Qhj (i:=8) (N:=some 12) (v:=?_) (a':=?_) (bm 12 463) rfl rfl (Qir HT_.out qq_7) (fun _ _ _ h=>h) (Or.inl ⟨by rfl,?_⟩) ?_ ?_;rotate_left
     ·intro w';go_simp;with_reducible rfl
     rotate_left
     ·exact qq_2
     refine one_ (i:=4) (N:=some 8) (bm 12 479) rfl rfl (Qis HT_.out qq_7) (by decide) (fun K hK=>?_);refine Qhr Tryz.func103 qq_7 rfl #[.int .u64 (IntKind.u64.wrap ((d.length:Int))),.int .i64 4] (by rfl) rfl rfl qq_1 ?_;with_reducible refine(Qau.calls k (IntKind.u64.wrap ((d.length:Int))) 4 b _ A2.out).mono ?_
     rintro e ap ⟨rfl,hb⟩;refine⟨_,rfl,?_⟩;have n_:=qn2 (Qfd (g:=p) (o:=.cells #[.int .u32 q,.slice t d.length u] 131 (0,0)) qq_0 hb) (Qgi qq_b hb);clear a HB;obtain⟨a,HB⟩:=n_
     (try clear hb)
     (try clear hb2)
     (try clear hk)
     (try clear hi)
     refine hK.out _ _ ⟨(Qeo a.out 0).trans rfl,(Qeo a.out 1).trans rfl⟩ (fun m=>?_);clear hK K;refine nzp_ 8 ?_;refine Qhj (i:=5) (N:=some 9) (v:=?_) (a':=?_) (bm 12 511) rfl rfl (Qir HT_.out qq_7) (fun _ _ _ h=>h) (Or.inl ⟨by rfl,?_⟩) ?_ ?_;rotate_left
     ·intro w';go_simp;with_reducible rfl
     rotate_left
     ·exact qq_2
     refine one_ (i:=9) (N:=some 13) (bm 12 1023) rfl rfl (Qis HT_.out qq_7) (by decide) (fun K hK=>?_);refine Qhr Tryz.func103 qq_7 rfl #[.int .u64 (IntKind.u64.wrap (q)),.int .i64 4] (by rfl) rfl rfl qq_1 ?_;with_reducible refine(Qau.calls k (IntKind.u64.wrap (q)) 4 c _ A4.out).mono ?_
     rintro e ac ⟨rfl,hb⟩;refine⟨_,rfl,?_⟩;have n_:=qn2 (Qfd (g:=p) (o:=.cells #[.int .u32 q,.slice t d.length u] 131 (0,0)) qq_0 hb) (Qgi qq_b hb);clear a HB;obtain⟨a,HB⟩:=n_
     (try clear hb)
     (try clear hb2)
     (try clear hk)
     (try clear hi)
     refine hK.out _ _ ⟨(Qeo a.out 0).trans rfl,(Qeo a.out 1).trans rfl⟩ (fun m=>?_);clear hK K;refine nzp_ 13 ?_;refine Qhj (i:=10) (N:=some 14) (v:=?_) (a':=?_) (bm 12 2047) rfl rfl (Qir HT_.out qq_7) (fun _ _ _ h=>h) (Or.inl ⟨by rfl,?_⟩) ?_ ?_;rotate_left
     ·intro w';go_simp;with_reducible rfl
     rotate_left
     ·exact qq_2
     refine Qhj (i:=11) (N:=some 3) (v:=?_) (a':=?_) (bm 12 4095) rfl rfl (Qir HT_.out qq_7) (fun _ _ _ h=>h) (Or.inl ⟨by rfl,?_⟩) ?_ ?_;rotate_left
     ·intro w';go_simp;with_reducible rfl
     rotate_left
     ·exact qq_2
     refine Qhl (Qiu HT_.out qq_7) ?_
     try go_wp2
     have n_:=qn2 (Qfb a.out) (Qgp HB.out);clear a HB;obtain⟨a,HB⟩:=n_;refine Qhg (n:=12) (S:=fun w'=>w'.cell? ⟨p,0,none⟩=some (.int .u32 q)∧w'.cell? ⟨p,1,none⟩=some (.slice t d.length u)) (ds:=[]) (bm 12 0) qq_7 rfl rfl ⟨(Qeo a.out 0).trans rfl,(Qeo a.out 1).trans rfl⟩ (fun m=>?_);refine Qiz Qca.tab2 Qca.bits2 (fun HT_ HW_=>?_);generalize ac.drew=w16 at a HB m ⊢;refine Qhj (i:=0) (N:=some 15) (v:=?_) (a':=?_) (bm 12 1) rfl rfl (Qir HT_.out qq_7) (fun _ _ _ h=>h) (Or.inl ⟨by rfl,?_⟩) ?_ ?_;rotate_left
     ·intro w';go_simp;with_reducible rfl
     rotate_left
     ·exact qq_2
     refine Qhj (i:=1) (N:=some 16) (v:=?_) (a':=?_) (bm 12 3) rfl rfl (Qir HT_.out qq_7) (fun _ _ _ h=>h) (Or.inl ⟨by rfl,?_⟩) ?_ ?_;rotate_left
     ·intro w';go_simp;with_reducible rfl
     rotate_left
     ·exact qq_2
     refine Qhj (i:=5) (N:=some 20) (v:=?_) (a':=?_) (bm 12 35) rfl rfl (Qir HT_.out qq_7) (fun _ _ _ h=>h) (Or.inl ⟨by rfl,?_⟩) ?_ ?_;rotate_left
     ·intro w';go_simp;with_reducible rfl
     rotate_left
     ·exact qq_2
     refine Qhi (i:=2) (N:=some 17) (v:=?_) (a':=?_) (bm 12 39) rfl rfl (Qiy HT_.out HW_.out qq_7) (fun _ _ _ h=>h) (Or.inl ⟨by rfl,?_⟩) m ?_ ?_;rotate_left
     ·rintro w' ⟨s0,s1⟩;go_simp;with_reducible rfl
     rotate_left
     ·exact qq_2
     refine Qhi (i:=6) (N:=some 21) (v:=?_) (a':=?_) (bm 12 103) rfl rfl (Qiy HT_.out HW_.out qq_7) (fun _ _ _ h=>h) (Or.inl ⟨by rfl,?_⟩) m ?_ ?_;rotate_left
     ·rintro w' ⟨s0,s1⟩;go_simp;with_reducible rfl
     rotate_left
     ·exact qq_2
     refine one_ (i:=3) (N:=some 18) (bm 12 111) rfl rfl (Qis HT_.out qq_7) (by decide) (fun K hK=>?_);refine Qhr Tryz.func121 qq_7 rfl #[.slice t d.length u] (by rfl) rfl rfl qq_1 ?_;with_reducible refine(Qbv.calls k _ _ d j _ ?side1 ?side2 A6.out).mono ?_
     (case side1=>repeat(first|exact(Kd.C_below z.out HB.out) |(with_reducible refine Kd.C_alloc ?_ _) |(with_reducible refine Kd.C_drewN ?_ _) |(with_reducible refine Kd.C_drew ?_)))
     (case side2=>exact A.out)
     rintro e aq ⟨rfl,hb⟩;refine⟨_,rfl,?_⟩;have n_:=qn2 (Qfd (g:=p) (o:=.cells #[.int .u32 q,.slice t d.length u] 131 (0,0)) qq_0 hb) (Qgi qq_b hb);clear a HB;obtain⟨a,HB⟩:=n_
     (try clear hb)
     (try clear hb2)
     (try clear hk)
     (try clear hi)
     refine hK.out _ _ ⟨(Qeo a.out 0).trans rfl,(Qeo a.out 1).trans rfl⟩ (fun m=>?_);clear hK K;refine nzp_ 18 ?_;refine Qhj (i:=4) (N:=some 19) (v:=?_) (a':=?_) (bm 12 127) rfl rfl (Qir HT_.out qq_7) (fun _ _ _ h=>h) (Or.inl ⟨by rfl,?_⟩) ?_ ?_;rotate_left
     ·intro w';go_simp;with_reducible rfl
     rotate_left
     ·exact qq_2
     refine one_ (i:=7) (N:=some 22) (bm 12 255) rfl rfl (Qis HT_.out qq_7) (by decide) (fun K hK=>?_);refine Qhr Tryz.func123 qq_7 rfl #[.slice t d.length u] (by rfl) rfl rfl qq_1 ?_;with_reducible refine(Qbx.calls k _ _ d x _ ?side1 ?side2 A8.out).mono ?_
     (case side1=>repeat(first|exact(Kd.C_below z.out HB.out) |(with_reducible refine Kd.C_alloc ?_ _) |(with_reducible refine Kd.C_drewN ?_ _) |(with_reducible refine Kd.C_drew ?_)))
     (case side2=>exact A.out)
     rintro e ar ⟨ao,rfl,U,hb⟩;refine⟨_,rfl,?_⟩;have n_:=qn3 (Kd.R_lower U (Qgh qq_b)) (Qfd (g:=p) (o:=.cells #[.int .u32 q,.slice t d.length u] 131 (0,0)) qq_0 hb) (Qgi qq_b hb);clear a HB;obtain⟨y,a,HB⟩:=n_
     (try clear hb)
     (try clear hb2)
     (try clear hk)
     (try clear hi)
     (try clear U)
     obtain⟨Ao19,co19,eo19⟩:=Kd.R_slice y.out
     (first|subst eo19 |(injection eo19 with f1_ f2_ f3_;have f4_:=f1_.symm;have f5_:=f3_.symm;clear f1_ f2_ f3_;subst f4_;subst f5_))
     refine hK.out _ _ ⟨(Qeo a.out 0).trans rfl,(Qeo a.out 1).trans rfl⟩ (fun m=>?_);clear hK K;refine nzp_ 22 ?_;refine one_ (i:=8) (N:=some 23) (bm 12 511) rfl rfl (Qis HT_.out qq_7) (by decide) (fun K hK=>?_);refine Qhr Tryz.func122 qq_7 rfl #[.slice Ao19 x.length co19] (by rfl) rfl rfl qq_1 ?_;with_reducible refine(Qby.calls k _ _ x l _ ?side1 ?side2 A9.out).mono ?_
     (case side1=>repeat(first|exact(Kd.R_reads' y.out).2.2 |(with_reducible refine Kd.C_alloc ?_ _) |(with_reducible refine Kd.C_drewN ?_ _) |(with_reducible refine Kd.C_drew ?_)))
     (case side2=>exact(Kd.R_reads' y.out).2.1)
     rintro e au ⟨rfl,hb⟩;refine⟨_,rfl,?_⟩;have n_:=qn3 (Kd.R_below qq_5 hb) (Qfd (g:=p) (o:=.cells #[.int .u32 q,.slice t d.length u] 131 (0,0)) qq_0 hb) (Qgi qq_b hb);clear y a HB;obtain⟨y,a,HB⟩:=n_
     (try clear hb)
     (try clear hb2)
     (try clear hk)
     (try clear hi)
     refine hK.out _ _ ⟨(Qeo a.out 0).trans rfl,(Qeo a.out 1).trans rfl⟩ (fun m=>?_);clear hK K;refine nzp_ 23 ?_;refine Qhj (i:=9) (N:=some 24) (v:=?_) (a':=?_) (bm 12 1023) rfl rfl (Qir HT_.out qq_7) (fun _ _ _ h=>h) (Or.inl ⟨by rfl,?_⟩) ?_ ?_;rotate_left
     ·intro w';go_simp;with_reducible rfl
     rotate_left
     ·exact qq_2
     refine one_ (i:=10) (N:=some 25) (bm 12 2047) rfl rfl (Qis HT_.out qq_7) (by decide) (fun K hK=>?_);refine Qhr Tryz.func61 qq_7 rfl #[.string (((((⟨#[4]⟩:ByteArray)++b)++c)++j)++l)] (by rfl) rfl rfl qq_1 ?_;with_reducible refine(Qbp.calls k (((((⟨#[4]⟩:ByteArray)++b)++c)++j)++l) s _ aa.out).mono ?_
     rintro e av ⟨rfl,hb⟩;refine⟨_,rfl,?_⟩;have n_:=qn3 (Kd.R_below qq_5 hb) (Qfd (g:=p) (o:=.cells #[.int .u32 q,.slice t d.length u] 131 (0,0)) qq_0 hb) (Qgi qq_b hb);clear y a HB;obtain⟨y,a,HB⟩:=n_
     (try clear hb)
     (try clear hb2)
     (try clear hk)
     (try clear hi)
     refine hK.out _ _ ⟨(Qeo a.out 0).trans rfl,(Qeo a.out 1).trans rfl⟩ (fun m=>?_);clear hK K;refine nzp_ 25 ?_;refine Qhj (i:=11) (N:=some 2) (v:=?_) (a':=?_) (bm 12 4095) rfl rfl (Qir HT_.out qq_7) (fun _ _ _ h=>h) (Or.inl ⟨by rfl,?_⟩) ?_ ?_;rotate_left
     ·intro w';go_simp;with_reducible rfl
     rotate_left
     ·exact qq_2
     refine Qhl (Qiu HT_.out qq_7) ?_
     try go_wp2
     go_ret
     exact⟨by first|rfl |(simp[Qjz,Qka]<;>rfl) |(simp[*,Qjz,Qka]<;>rfl),qq_b⟩
    ·rw[if_neg c10]at H;exact absurd H (by simp)
   ·rw[if_neg c7]at H;exact absurd H (by simp)
  ·rw[if_neg c5]at H;exact absurd H (by simp)
 ·rw[if_neg c3]at H;exact absurd H (by simp)
def Qbn.f(k:Nat)(a0_0:Int)(a0_1:Int)(a1:Int):Option (ByteArray):=(some (([a0_0]:List Int):List Int)).bind fun y317=>(if 2+(strOfNums y317).size≤9223372036854775807 then((Qaw.f k (IntKind.u64.wrap (a0_1))).bind fun t320=>(if((⟨#[1,2]⟩:ByteArray)++(strOfNums y317)).size+t320.size≤9223372036854775807 then((Qaw.f k a1).bind fun t321=>(if(((⟨#[1,2]⟩:ByteArray)++(strOfNums y317))++t320).size+t321.size≤9223372036854775807 then((Qbp.f k ((((⟨#[1,2]⟩:ByteArray)++(strOfNums y317))++t320)++t321)).bind fun t322=>(some t322))else(none)))else(none)))else(none))
def Qbn.T1:Bool × List (List Nat × List Nat):=(true,[([],[]),([0],[0]),([1],[1]),([2],[2]),([3],[3]),([],[]),([5],[5]),([6],[6]),([7],[7]),([4,8],[4,8]),([],[]),([10,8],[10]),([9,11],[9,11]),([12,11],[12]),([13,13,0,1,2,3,4,5,6,7,8,9,10,11,12,13],[13])])
def Qbn.B1:List Nat:=[0,1,3,7,15,0,32,96,224,511,0,1504,4095,8191,16383]
theorem Qbn.tab1:rtab .any (Qjb Tryz.f55 1)=Qbn.T1:=by kernel_rfl
theorem Qbn.bits1:Qiv Qbn.T1.2 Qbn.B1=true:=by kernel_rfl
theorem Qbn.calls (k:Nat) (c:Int) (d:Int) (a1:Int) (r:ByteArray) (w:World) (h:Qbn.f k c d a1=some r) :
  Calls Tryz.prog 55 #[.agg #[.int .u8 c,.int .u32 d],.int .u64 a1] w fun e w'=>e=.returned (.string r)∧Below w.heap.size w w':=by
 have hu27:=Tryz.underlying27;have HB:=QA (Below.refl w.heap.size w);have H:((some (([c]:List Int):List Int)).bind fun m=>(if 2+(strOfNums m).size≤9223372036854775807 then((Qaw.f k (IntKind.u64.wrap (d))).bind fun p=>(if((⟨#[1,2]⟩:ByteArray)++(strOfNums m)).size+p.size≤9223372036854775807 then((Qaw.f k a1).bind fun t=>(if(((⟨#[1,2]⟩:ByteArray)++(strOfNums m))++p).size+t.size≤9223372036854775807 then((Qbp.f k ((((⟨#[1,2]⟩:ByteArray)++(strOfNums m))++p)++t)).bind fun D=>(some D))else(none)))else(none)))else(none)))=some r:=h;clear h;obtain⟨m,L⟩:∃y_:List Int,y_=(([c]:List Int)):=⟨_,rfl⟩;replace H:(if 2+(strOfNums m).size≤9223372036854775807 then((Qaw.f k (IntKind.u64.wrap (d))).bind fun p=>(if((⟨#[1,2]⟩:ByteArray)++(strOfNums m)).size+p.size≤9223372036854775807 then((Qaw.f k a1).bind fun t=>(if(((⟨#[1,2]⟩:ByteArray)++(strOfNums m))++p).size+t.size≤9223372036854775807 then((Qbp.f k ((((⟨#[1,2]⟩:ByteArray)++(strOfNums m))++p)++t)).bind fun D=>(some D))else(none)))else(none)))else(none))=some r:=by first |(rw[L];with_reducible exact H) |(have Y:=(Option.bind_some _ _).symm.trans H;rw[L];with_reducible exact Y) |(have Y:=(Option.bind_some _ _).symm.trans H;with_reducible exact Y)|with_reducible exact H |(rw[L];exact H)|exact H
 have J:=QA L;clear L
 by_cases c3:2+(strOfNums m).size≤9223372036854775807
 ·rw [if_pos c3]at H;have ao:=eq_true c3;have ap:decide (2+(strOfNums m).size≤9223372036854775807)=true:=decide_eq_true c3
  try have aq:(9223372036854775807<2+(strOfNums m).size)=False:=eq_false (Nat.not_lt.2 c3)
  replace H:=Option.bind_eq_some_iff.mp H;obtain⟨p,ae,H⟩:=H;replace H:(if((⟨#[1,2]⟩:ByteArray)++(strOfNums m)).size+p.size≤9223372036854775807 then((Qaw.f k a1).bind fun t=>(if(((⟨#[1,2]⟩:ByteArray)++(strOfNums m))++p).size+t.size≤9223372036854775807 then((Qbp.f k ((((⟨#[1,2]⟩:ByteArray)++(strOfNums m))++p)++t)).bind fun D=>(some D))else(none)))else(none))=some r:=H;have A4:=QA ae;clear ae
  by_cases c5:((⟨#[1,2]⟩:ByteArray)++(strOfNums m)).size+p.size≤9223372036854775807
  ·rw [if_pos c5]at H;have ar:=eq_true c5;have au:decide (((⟨#[1,2]⟩:ByteArray)++(strOfNums m)).size+p.size≤9223372036854775807)=true:=decide_eq_true c5
   try have Z:(9223372036854775807<((⟨#[1,2]⟩:ByteArray)++(strOfNums m)).size+p.size)=False:=eq_false (Nat.not_lt.2 c5)
   try have ah:=Z
   try simp only[ByteArray.size_append,(show ∀x_:UInt8,(⟨#[x_]⟩:ByteArray).size=1 from fun _=>rfl),(show ∀x_ y_:UInt8,(⟨#[x_,y_]⟩:ByteArray).size=2 from fun _ _=>rfl)]at ah
   try have ai:=Z
   try simp only[ByteArray.size_append,ByteArray.size_extract,(show ∀x_:UInt8,(⟨#[x_]⟩:ByteArray).size=1 from fun _=>rfl),(show ∀x_ y_:UInt8,(⟨#[x_,y_]⟩:ByteArray).size=2 from fun _ _=>rfl)]at ai
   replace H:=Option.bind_eq_some_iff.mp H;obtain⟨t,af,H⟩:=H;replace H:(if(((⟨#[1,2]⟩:ByteArray)++(strOfNums m))++p).size+t.size≤9223372036854775807 then((Qbp.f k ((((⟨#[1,2]⟩:ByteArray)++(strOfNums m))++p)++t)).bind fun D=>(some D))else(none))=some r:=H;have A6:=QA af;clear af
   by_cases c7:(((⟨#[1,2]⟩:ByteArray)++(strOfNums m))++p).size+t.size≤9223372036854775807
   ·rw [if_pos c7]at H;have av:=eq_true c7;have aw:decide ((((⟨#[1,2]⟩:ByteArray)++(strOfNums m))++p).size+t.size≤9223372036854775807)=true:=decide_eq_true c7
    try have aa:(9223372036854775807<(((⟨#[1,2]⟩:ByteArray)++(strOfNums m))++p).size+t.size)=False:=eq_false (Nat.not_lt.2 c7)
    try have aj:=aa
    try simp only[ByteArray.size_append,(show ∀x_:UInt8,(⟨#[x_]⟩:ByteArray).size=1 from fun _=>rfl),(show ∀x_ y_:UInt8,(⟨#[x_,y_]⟩:ByteArray).size=2 from fun _ _=>rfl)]at aj
    try have ak:=aa
    try simp only[ByteArray.size_append,ByteArray.size_extract,(show ∀x_:UInt8,(⟨#[x_]⟩:ByteArray).size=1 from fun _=>rfl),(show ∀x_ y_:UInt8,(⟨#[x_,y_]⟩:ByteArray).size=2 from fun _ _=>rfl)]at ak
    replace H:=Option.bind_eq_some_iff.mp H;obtain⟨D,ag,H⟩:=H;replace H:(some D)=some r:=H;have A8:=QA ag;clear ag;obtain rfl:=Option.some.inj H
    go_enter Tryz.func55,Tryz.ntmps55
    try go_wp2_with (first |((with_reducible refine Qgt (N:=2) rfl ?_);refine qq_e 2 #[.int .u8 c,.int .u32 d] 27 ?_;intro b hg w9 hbox hb;have n_:=qn4 (Qgi qq_b hb) (hbox) (qq_s hg:w.heap.size≤b) (qq_s hg:w.heap.size≤b);clear HB;obtain⟨HB,a,am,an⟩:=n_;clear hb hbox hg))
    have n_:=qn2 (Qfb a.out) (Qgp HB.out);clear a HB;obtain⟨a,HB⟩:=n_;refine Qhg (n:=15) (S:=fun w'=>w'.cell? ⟨b,0,none⟩=some (.int .u8 c)∧w'.cell? ⟨b,1,none⟩=some (.int .u32 d)) (ds:=[]) (bm 15 0) qq_7 rfl rfl ⟨(Qeo a.out 0).trans rfl,(Qeo a.out 1).trans rfl⟩ (fun l=>?_);refine Qiz Qbn.tab1 Qbn.bits1 (fun HT_ HW_=>?_);generalize w9.drew=w10 at a HB l ⊢;refine Qhj (i:=0) (N:=some 5) (v:=?_) (a':=?_) (bm 15 1) rfl rfl (Qir HT_.out qq_7) (fun _ _ _ h=>h) (Or.inl ⟨by rfl,?_⟩) ?_ ?_;rotate_left
    ·intro w';go_simp;with_reducible rfl
    rotate_left
    ·exact qq_2
    refine Qhj (i:=5) (N:=some 10) (v:=?_) (a':=?_) (bm 15 33) rfl rfl (Qir HT_.out qq_7) (fun _ _ _ h=>h) (Or.inl ⟨by rfl,?_⟩) ?_ ?_;rotate_left
    ·intro w';go_simp;with_reducible rfl
    rotate_left
    ·exact qq_2
    refine Qhj (i:=10) (N:=some 15) (v:=?_) (a':=?_) (bm 15 1057) rfl rfl (Qir HT_.out qq_7) (fun _ _ _ h=>h) (Or.inl ⟨by rfl,?_⟩) ?_ ?_;rotate_left
    ·intro w';go_simp;with_reducible rfl
    rotate_left
    ·exact qq_2
    refine Qhi (i:=1) (N:=some 6) (v:=?_) (a':=?_) (bm 15 1059) rfl rfl (Qiy HT_.out HW_.out qq_7) (fun _ _ _ h=>h) (Or.inl ⟨by rfl,?_⟩) l ?_ ?_;rotate_left
    ·rintro w' ⟨s0,s1⟩;go_simp;with_reducible rfl
    rotate_left
    ·exact qq_2
    refine Qhi (i:=6) (N:=some 11) (v:=?_) (a':=?_) (bm 15 1123) rfl rfl (Qiy HT_.out HW_.out qq_7) (fun _ _ _ h=>h) (Or.inl ⟨by rfl,?_⟩) l ?_ ?_;rotate_left
    ·rintro w' ⟨s0,s1⟩;go_simp;with_reducible rfl
    rotate_left
    ·exact qq_2
    refine Qhj (i:=7) (N:=some 12) (v:=?_) (a':=?_) (bm 15 1251) rfl rfl (Qir HT_.out qq_7) (fun _ _ _ h=>h) (Or.inl ⟨by rfl,?_⟩) ?_ ?_;rotate_left
    ·intro w';go_simp;with_reducible rfl
    rotate_left
    ·exact qq_2
    refine Qho (σ:=Value) 3 (bm 15 4095) (fun s_=>[(7,s_),(8,.string (strOfNums m)),(13,.string p),(16,.string t),(9,.string ((⟨#[1,2]⟩:ByteArray)++(strOfNums m))),(14,.string (((⟨#[1,2]⟩:ByteArray)++(strOfNums m))++p))]) (fun s_ w'=>(w'.cell? ⟨b,0,none⟩=some (.int .u8 c)∧w'.cell? ⟨b,1,none⟩=some (.int .u32 d))∧(Kd.R (Kd.int .u8) 5 w' w.heap.size (fun _=>True) s_ m)∧(w'.heap[b]? = some (.cells #[.int .u8 c,.int .u32 d] 27 (0,0)))∧(Below w.heap.size w w')) ?_ ?_;rotate_left
    ·intro hJ2_3_8_11;refine Qho (σ:=Value) 4 (bm 15 2047) (fun s_=>[(7,s_),(8,.string (strOfNums m)),(13,.string p),(9,.string ((⟨#[1,2]⟩:ByteArray)++(strOfNums m))),(14,.string (((⟨#[1,2]⟩:ByteArray)++(strOfNums m))++p))]) (fun s_ w'=>(w'.cell? ⟨b,0,none⟩=some (.int .u8 c)∧w'.cell? ⟨b,1,none⟩=some (.int .u32 d))∧(Kd.R (Kd.int .u8) 5 w' w.heap.size (fun _=>True) s_ m)∧(w'.heap[b]? = some (.cells #[.int .u8 c,.int .u32 d] 27 (0,0)))∧(Below w.heap.size w w')) ?_ ?_;rotate_left
     ·intro hJ2_3_8;refine Qho (σ:=Value) 6 (bm 15 3559) (fun s_=>[(7,s_),(13,.string p),(16,.string t)]) (fun s_ w'=>(w'.cell? ⟨b,0,none⟩=some (.int .u8 c)∧w'.cell? ⟨b,1,none⟩=some (.int .u32 d))∧(Kd.R (Kd.int .u8) 5 w' w.heap.size (fun _=>True) s_ m)∧(w'.heap[b]? = some (.cells #[.int .u8 c,.int .u32 d] 27 (0,0)))∧(Below w.heap.size w w')) ?_ ?_;rotate_left
      ·intro hJ2_8_11;refine Qho (σ:=Value) 6 (bm 15 1279) (fun s_=>[(7,s_),(8,.string (strOfNums m)),(9,.string ((⟨#[1,2]⟩:ByteArray)++(strOfNums m)))]) (fun s_ w'=>(w'.cell? ⟨b,0,none⟩=some (.int .u8 c)∧w'.cell? ⟨b,1,none⟩=some (.int .u32 d))∧(Kd.R (Kd.int .u8) 5 w' w.heap.size (fun _=>True) s_ m)∧(w'.heap[b]? = some (.cells #[.int .u8 c,.int .u32 d] 27 (0,0)))∧(Below w.heap.size w w')) ?_ ?_;rotate_left
       ·intro hJ2_3;refine Qho (σ:=Value) 7 (bm 15 1511) (fun s_=>[(7,s_),(13,.string p)]) (fun s_ w'=>(w'.cell? ⟨b,0,none⟩=some (.int .u8 c)∧w'.cell? ⟨b,1,none⟩=some (.int .u32 d))∧(Kd.R (Kd.int .u8) 5 w' w.heap.size (fun _=>True) s_ m)∧(w'.heap[b]? = some (.cells #[.int .u8 c,.int .u32 d] 27 (0,0)))∧(Below w.heap.size w w')) ?_ ?_;rotate_left
        ·intro hJ2_8;refine Qho (σ:=Unit) 7 (bm 15 3555) (fun s_=>[(13,.string p),(16,.string t)]) (fun s_ w'=>(w'.cell? ⟨b,0,none⟩=some (.int .u8 c)∧w'.cell? ⟨b,1,none⟩=some (.int .u32 d))∧(w'.heap[b]? = some (.cells #[.int .u8 c,.int .u32 d] 27 (0,0)))∧(Below w.heap.size w w')) ?_ ?_;rotate_left
         ·intro hJ8_11;refine Qho (σ:=Value) 8 (bm 15 1255) (fun s_=>[(7,s_)]) (fun s_ w'=>(w'.cell? ⟨b,0,none⟩=some (.int .u8 c)∧w'.cell? ⟨b,1,none⟩=some (.int .u32 d))∧(Kd.R (Kd.int .u8) 5 w' w.heap.size (fun _=>True) s_ m)∧(w'.heap[b]? = some (.cells #[.int .u8 c,.int .u32 d] 27 (0,0)))∧(Below w.heap.size w w')) ?_ ?_;rotate_left
          ·intro hJ2;refine Qho (σ:=Unit) 8 (bm 15 1507) (fun s_=>[(13,.string p)]) (fun s_ w'=>(w'.cell? ⟨b,0,none⟩=some (.int .u8 c)∧w'.cell? ⟨b,1,none⟩=some (.int .u32 d))∧(w'.heap[b]? = some (.cells #[.int .u8 c,.int .u32 d] 27 (0,0)))∧(Below w.heap.size w w')) ?_ ?_;rotate_left
           ·intro hJ8;refine two_ (i:=2) (j:=8) (Ni:=some 7) (Nj:=some 13) (bm 15 1255) (bm 15 1507) rfl rfl rfl rfl (Qit HT_.out qq_7) (by decide) (by decide) (fun K hK=>?_) (fun K hK=>?_)
            ·skip
             refine Kd.R_lit_step (Kd.int .u8) _ 5 ?hg (N:=7) ?hd (xs:=([c]:List Int)) (inner:=[.int .u8 c]) (ok:=fun _=>True) (okp:=fun _=>True) ?hr ?hp (fun _ hk=>hk) trivial (Below.refl _ _) (Nat.le_refl _) (by simp) ?_;(case hd=>rfl);(case hg=>rfl);(case hr=>exact qq_13);(case hp=>exact(Reps.one (show Kd.M (Kd.int .u8) _ _ _ c [.int .u8 c] from rfl) (Reps.none _ _)));intro s al O hb hg_ hnew_;clear hg_ hnew_
             (first|rw[← J.out]at O |(simp only[Int.reduceToNat]at O;rw[← J.out]at O))
             have n_:=qn3 (Kd.R_lower O (Qgh qq_b)) (Qfd (g:=b) (o:=.cells #[.int .u8 c,.int .u32 d] 27 (0,0)) qq_0 hb) (Qgi qq_b hb);clear a HB;obtain⟨q,a,HB⟩:=n_;clear hb O;refine hK.out _ _ ⟨(Qeo a.out 0).trans rfl,(Qeo a.out 1).trans rfl⟩ (fun l=>?_);clear hK K;refine nzp_ 7 ?_;exact Qhp qq_3 (hJ2 (s) _ ⟨l,qq_5,qq_0,qq_b⟩)
            ·skip
             refine Qhr Tryz.func98 qq_7 rfl #[.int .u64 (IntKind.u64.wrap (d))] (by rfl) rfl rfl qq_1 ?_;with_reducible refine(Qaw.calls k (IntKind.u64.wrap (d)) p _ A4.out).mono ?_
             rintro e al ⟨rfl,hb⟩;refine⟨_,rfl,?_⟩;have n_:=qn2 (Qfd (g:=b) (o:=.cells #[.int .u8 c,.int .u32 d] 27 (0,0)) qq_0 hb) (Qgi qq_b hb);clear a HB;obtain⟨a,HB⟩:=n_
             (try clear hb)
             (try clear hb2)
             (try clear hk)
             (try clear hi)
             refine hK.out _ _ ⟨(Qeo a.out 0).trans rfl,(Qeo a.out 1).trans rfl⟩ (fun l=>?_);clear hK K;refine nzp_ 13 ?_;exact Qhp qq_3 (hJ8 () _ ⟨l,qq_0,qq_b⟩)
           ·skip
            rintro _ X ⟨hS_,u,x⟩;have y:Aside0 (X.heap[b]? = some (.cells #[.int .u8 c,.int .u32 d] 27 (0,0))):=⟨u⟩;have z:Aside0 (Below w.heap.size w X):=⟨x⟩;clear a HB u x;have a:=y;have HB:=z;clear y z;have l:X.cell? ⟨b,0,none⟩=some (.int .u8 c)∧X.cell? ⟨b,1,none⟩=some (.int .u32 d):=hS_;refine nza_ ?_;refine two_ (i:=2) (j:=11) (Ni:=some 7) (Nj:=some 16) (bm 15 1511) (bm 15 3555) rfl rfl rfl rfl (Qit HT_.out qq_7) (by decide) (by decide) (fun K hK=>?_) (fun K hK=>?_)
            ·skip
             refine Kd.R_lit_step (Kd.int .u8) _ 5 ?hg (N:=7) ?hd (xs:=([c]:List Int)) (inner:=[.int .u8 c]) (ok:=fun _=>True) (okp:=fun _=>True) ?hr ?hp (fun _ hk=>hk) trivial (Below.refl _ _) (Nat.le_refl _) (by simp) ?_;(case hd=>rfl);(case hg=>rfl);(case hr=>exact qq_13);(case hp=>exact(Reps.one (show Kd.M (Kd.int .u8) _ _ _ c [.int .u8 c] from rfl) (Reps.none _ _)));intro s I T hb hg_ hnew_;clear hg_ hnew_
             (first|rw[← J.out]at T |(simp only[Int.reduceToNat]at T;rw[← J.out]at T))
             have n_:=qn3 (Kd.R_lower T (Qgh qq_b)) (Qfd (g:=b) (o:=.cells #[.int .u8 c,.int .u32 d] 27 (0,0)) qq_0 hb) (Qgi qq_b hb);clear a HB;obtain⟨q,a,HB⟩:=n_;clear hb T;refine hK.out _ _ ⟨(Qeo a.out 0).trans rfl,(Qeo a.out 1).trans rfl⟩ (fun l=>?_);clear hK K;refine nzp_ 7 ?_;exact Qhp qq_3 (hJ2_8 (s) _ ⟨l,qq_5,qq_0,qq_b⟩)
            ·skip
             refine Qhr Tryz.func98 qq_7 rfl #[.int .u64 a1] (by rfl) rfl rfl qq_1 ?_;with_reducible refine(Qaw.calls k a1 t _ A6.out).mono ?_
             rintro e I ⟨rfl,hb⟩;refine⟨_,rfl,?_⟩;have n_:=qn2 (Qfd (g:=b) (o:=.cells #[.int .u8 c,.int .u32 d] 27 (0,0)) qq_0 hb) (Qgi qq_b hb);clear a HB;obtain⟨a,HB⟩:=n_
             (try clear hb)
             (try clear hb2)
             (try clear hk)
             (try clear hi)
             refine hK.out _ _ ⟨(Qeo a.out 0).trans rfl,(Qeo a.out 1).trans rfl⟩ (fun l=>?_);clear hK K;refine nzp_ 16 ?_;exact Qhp qq_3 (hJ8_11 () _ ⟨l,qq_0,qq_b⟩)
          ·skip
           rintro s I ⟨hS_,u,x,A⟩;have y:Aside0 (Kd.R (Kd.int .u8) 5 I w.heap.size (fun _=>True) s m):=⟨u⟩;have z:Aside0 (I.heap[b]? = some (.cells #[.int .u8 c,.int .u32 d] 27 (0,0))):=⟨x⟩;have B:Aside0 (Below w.heap.size w I):=⟨A⟩;clear a HB u x A;have q:=y;have a:=z;have HB:=B;clear y z B;have l:I.cell? ⟨b,0,none⟩=some (.int .u8 c)∧I.cell? ⟨b,1,none⟩=some (.int .u32 d):=hS_;refine nza_ ?_;refine two_ (i:=3) (j:=8) (Ni:=some 8) (Nj:=some 13) (bm 15 1263) (bm 15 1511) rfl rfl rfl rfl (Qit HT_.out qq_7) (by decide) (by decide) (fun K hK=>?_) (fun K hK=>?_)
           ·skip
            have ab:=Qdz (P:=Tryz.prog) Tryz.underlying52 Tryz.underlying5 Tryz.underlying9 (Kd.own_of_R q.out);refine Qht (w1:=?_) (v:=?_) (by rfl) rfl ?_ ?_;rotate_left 2
            ·go_simp
             constructor
             ·rfl
             ·rfl
            clear ab;refine hK.out _ _ ⟨(Qeo a.out 0).trans rfl,(Qeo a.out 1).trans rfl⟩ (fun l=>?_);clear hK K;refine nzp_ 8 ?_;refine Qhj (i:=4) (N:=some 9) (v:=?_) (a':=?_) (bm 15 1279) rfl rfl (Qir HT_.out qq_7) (fun _ _ _ h=>h) (Or.inl ⟨by rfl,?_⟩) ?_ ?_;rotate_left
            ·intro w';go_simp;with_reducible rfl
            rotate_left
            ·exact qq_2
            exact Qhp qq_3 (hJ2_3 (s) _ ⟨l,qq_5,qq_0,qq_b⟩)
           ·skip
            refine Qhr Tryz.func98 qq_7 rfl #[.int .u64 (IntKind.u64.wrap (d))] (by rfl) rfl rfl qq_1 ?_;with_reducible refine(Qaw.calls k (IntKind.u64.wrap (d)) p _ A4.out).mono ?_
            rintro e E ⟨rfl,hb⟩;refine⟨_,rfl,?_⟩;have n_:=qn3 (Kd.R_below qq_5 hb) (Qfd (g:=b) (o:=.cells #[.int .u8 c,.int .u32 d] 27 (0,0)) qq_0 hb) (Qgi qq_b hb);clear q a HB;obtain⟨q,a,HB⟩:=n_
            (try clear hb)
            (try clear hb2)
            (try clear hk)
            (try clear hi)
            refine hK.out _ _ ⟨(Qeo a.out 0).trans rfl,(Qeo a.out 1).trans rfl⟩ (fun l=>?_);clear hK K;refine nzp_ 13 ?_;exact Qhp qq_3 (hJ2_8 (s) _ ⟨l,qq_5,qq_0,qq_b⟩)
         ·skip
          rintro _ I ⟨hS_,u,x⟩;have y:Aside0 (I.heap[b]? = some (.cells #[.int .u8 c,.int .u32 d] 27 (0,0))):=⟨u⟩;have z:Aside0 (Below w.heap.size w I):=⟨x⟩;clear a HB u x;have a:=y;have HB:=z;clear y z;have l:I.cell? ⟨b,0,none⟩=some (.int .u8 c)∧I.cell? ⟨b,1,none⟩=some (.int .u32 d):=hS_;refine nza_ ?_;refine one_ (i:=2) (N:=some 7) (bm 15 3559) rfl rfl (Qis HT_.out qq_7) (by decide) (fun K hK=>?_);refine Kd.R_lit_step (Kd.int .u8) _ 5 ?hg (N:=7) ?hd (xs:=([c]:List Int)) (inner:=[.int .u8 c]) (ok:=fun _=>True) (okp:=fun _=>True) ?hr ?hp (fun _ hk=>hk) trivial (Below.refl _ _) (Nat.le_refl _) (by simp) ?_;(case hd=>rfl);(case hg=>rfl);(case hr=>exact qq_13);(case hp=>exact(Reps.one (show Kd.M (Kd.int .u8) _ _ _ c [.int .u8 c] from rfl) (Reps.none _ _)));intro s E U hb hg_ hnew_;clear hg_ hnew_
          (first|rw[← J.out]at U |(simp only[Int.reduceToNat]at U;rw[← J.out]at U))
          have n_:=qn3 (Kd.R_lower U (Qgh qq_b)) (Qfd (g:=b) (o:=.cells #[.int .u8 c,.int .u32 d] 27 (0,0)) qq_0 hb) (Qgi qq_b hb);clear a HB;obtain⟨q,a,HB⟩:=n_;clear hb U;refine hK.out _ _ ⟨(Qeo a.out 0).trans rfl,(Qeo a.out 1).trans rfl⟩ (fun l=>?_);clear hK K;refine nzp_ 7 ?_;exact Qhp qq_3 (hJ2_8_11 (s) _ ⟨l,qq_5,qq_0,qq_b⟩)
        ·skip
         rintro s E ⟨hS_,u,x,A⟩;have y:Aside0 (Kd.R (Kd.int .u8) 5 E w.heap.size (fun _=>True) s m):=⟨u⟩;have z:Aside0 (E.heap[b]? = some (.cells #[.int .u8 c,.int .u32 d] 27 (0,0))):=⟨x⟩;have B:Aside0 (Below w.heap.size w E):=⟨A⟩;clear a HB u x A;have q:=y;have a:=z;have HB:=B;clear y z B;have l:E.cell? ⟨b,0,none⟩=some (.int .u8 c)∧E.cell? ⟨b,1,none⟩=some (.int .u32 d):=hS_;refine nza_ ?_;refine two_ (i:=3) (j:=11) (Ni:=some 8) (Nj:=some 16) (bm 15 1519) (bm 15 3559) rfl rfl rfl rfl (Qit HT_.out qq_7) (by decide) (by decide) (fun K hK=>?_) (fun K hK=>?_)
         ·skip
          have ac:=Qdz (P:=Tryz.prog) Tryz.underlying52 Tryz.underlying5 Tryz.underlying9 (Kd.own_of_R q.out);refine Qht (w1:=?_) (v:=?_) (by rfl) rfl ?_ ?_;rotate_left 2
          ·go_simp
           constructor
           ·rfl
           ·rfl
          clear ac;refine hK.out _ _ ⟨(Qeo a.out 0).trans rfl,(Qeo a.out 1).trans rfl⟩ (fun l=>?_);clear hK K;refine nzp_ 8 ?_;refine Qhj (i:=4) (N:=some 9) (v:=?_) (a':=?_) (bm 15 1535) rfl rfl (Qir HT_.out qq_7) (fun _ _ _ h=>h) (Or.inl ⟨by rfl,?_⟩) ?_ ?_;rotate_left
          ·intro w';go_simp;with_reducible rfl
          rotate_left
          ·exact qq_2
          refine Qhj (i:=9) (N:=some 14) (v:=?_) (a':=?_) (bm 15 2047) rfl rfl (Qir HT_.out qq_7) (fun _ _ _ h=>h) (Or.inl ⟨by rfl,?_⟩) ?_ ?_;rotate_left
          ·intro w';go_simp;with_reducible rfl
          rotate_left
          ·exact qq_2
          exact Qhp qq_3 (hJ2_3_8 (s) _ ⟨l,qq_5,qq_0,qq_b⟩)
         ·skip
          refine Qhr Tryz.func98 qq_7 rfl #[.int .u64 a1] (by rfl) rfl rfl qq_1 ?_;with_reducible refine(Qaw.calls k a1 t _ A6.out).mono ?_
          rintro e G ⟨rfl,hb⟩;refine⟨_,rfl,?_⟩;have n_:=qn3 (Kd.R_below qq_5 hb) (Qfd (g:=b) (o:=.cells #[.int .u8 c,.int .u32 d] 27 (0,0)) qq_0 hb) (Qgi qq_b hb);clear q a HB;obtain⟨q,a,HB⟩:=n_
          (try clear hb)
          (try clear hb2)
          (try clear hk)
          (try clear hi)
          refine hK.out _ _ ⟨(Qeo a.out 0).trans rfl,(Qeo a.out 1).trans rfl⟩ (fun l=>?_);clear hK K;refine nzp_ 16 ?_;exact Qhp qq_3 (hJ2_8_11 (s) _ ⟨l,qq_5,qq_0,qq_b⟩)
       ·skip
        rintro s E ⟨hS_,u,x,A⟩;have y:Aside0 (Kd.R (Kd.int .u8) 5 E w.heap.size (fun _=>True) s m):=⟨u⟩;have z:Aside0 (E.heap[b]? = some (.cells #[.int .u8 c,.int .u32 d] 27 (0,0))):=⟨x⟩;have B:Aside0 (Below w.heap.size w E):=⟨A⟩;clear a HB u x A;have q:=y;have a:=z;have HB:=B;clear y z B;have l:E.cell? ⟨b,0,none⟩=some (.int .u8 c)∧E.cell? ⟨b,1,none⟩=some (.int .u32 d):=hS_;refine nza_ ?_;refine one_ (i:=8) (N:=some 13) (bm 15 1535) rfl rfl (Qis HT_.out qq_7) (by decide) (fun K hK=>?_);refine Qhr Tryz.func98 qq_7 rfl #[.int .u64 (IntKind.u64.wrap (d))] (by rfl) rfl rfl qq_1 ?_;with_reducible refine(Qaw.calls k (IntKind.u64.wrap (d)) p _ A4.out).mono ?_
        rintro e G ⟨rfl,hb⟩;refine⟨_,rfl,?_⟩;have n_:=qn3 (Kd.R_below qq_5 hb) (Qfd (g:=b) (o:=.cells #[.int .u8 c,.int .u32 d] 27 (0,0)) qq_0 hb) (Qgi qq_b hb);clear q a HB;obtain⟨q,a,HB⟩:=n_
        (try clear hb)
        (try clear hb2)
        (try clear hk)
        (try clear hi)
        refine hK.out _ _ ⟨(Qeo a.out 0).trans rfl,(Qeo a.out 1).trans rfl⟩ (fun l=>?_);clear hK K;refine nzp_ 13 ?_;refine Qhj (i:=9) (N:=some 14) (v:=?_) (a':=?_) (bm 15 2047) rfl rfl (Qir HT_.out qq_7) (fun _ _ _ h=>h) (Or.inl ⟨by rfl,?_⟩) ?_ ?_;rotate_left
        ·intro w';go_simp;with_reducible rfl
        rotate_left
        ·exact qq_2
        exact Qhp qq_3 (hJ2_3_8 (s) _ ⟨l,qq_5,qq_0,qq_b⟩)
      ·skip
       rintro s G ⟨hS_,u,x,A⟩;have y:Aside0 (Kd.R (Kd.int .u8) 5 G w.heap.size (fun _=>True) s m):=⟨u⟩;have z:Aside0 (G.heap[b]? = some (.cells #[.int .u8 c,.int .u32 d] 27 (0,0))):=⟨x⟩;have B:Aside0 (Below w.heap.size w G):=⟨A⟩;clear a HB u x A;have q:=y;have a:=z;have HB:=B;clear y z B;have l:G.cell? ⟨b,0,none⟩=some (.int .u8 c)∧G.cell? ⟨b,1,none⟩=some (.int .u32 d):=hS_;refine nza_ ?_;refine one_ (i:=3) (N:=some 8) (bm 15 3567) rfl rfl (Qis HT_.out qq_7) (by decide) (fun K hK=>?_);have ad:=Qdz (P:=Tryz.prog) Tryz.underlying52 Tryz.underlying5 Tryz.underlying9 (Kd.own_of_R q.out);refine Qht (w1:=?_) (v:=?_) (by rfl) rfl ?_ ?_;rotate_left 2
       ·go_simp
        constructor
        ·rfl
        ·rfl
       clear ad;refine hK.out _ _ ⟨(Qeo a.out 0).trans rfl,(Qeo a.out 1).trans rfl⟩ (fun l=>?_);clear hK K;refine nzp_ 8 ?_;refine Qhj (i:=4) (N:=some 9) (v:=?_) (a':=?_) (bm 15 3583) rfl rfl (Qir HT_.out qq_7) (fun _ _ _ h=>h) (Or.inl ⟨by rfl,?_⟩) ?_ ?_;rotate_left
       ·intro w';go_simp;with_reducible rfl
       rotate_left
       ·exact qq_2
       refine Qhj (i:=9) (N:=some 14) (v:=?_) (a':=?_) (bm 15 4095) rfl rfl (Qir HT_.out qq_7) (fun _ _ _ h=>h) (Or.inl ⟨by rfl,?_⟩) ?_ ?_;rotate_left
       ·intro w';go_simp;with_reducible rfl
       rotate_left
       ·exact qq_2
       exact Qhp qq_3 (hJ2_3_8_11 (s) _ ⟨l,qq_5,qq_0,qq_b⟩)
     ·skip
      rintro s G ⟨hS_,u,x,A⟩;have y:Aside0 (Kd.R (Kd.int .u8) 5 G w.heap.size (fun _=>True) s m):=⟨u⟩;have z:Aside0 (G.heap[b]? = some (.cells #[.int .u8 c,.int .u32 d] 27 (0,0))):=⟨x⟩;have B:Aside0 (Below w.heap.size w G):=⟨A⟩;clear a HB u x A;have q:=y;have a:=z;have HB:=B;clear y z B;have l:G.cell? ⟨b,0,none⟩=some (.int .u8 c)∧G.cell? ⟨b,1,none⟩=some (.int .u32 d):=hS_;refine nza_ ?_;refine one_ (i:=11) (N:=some 16) (bm 15 4095) rfl rfl (Qis HT_.out qq_7) (by decide) (fun K hK=>?_);refine Qhr Tryz.func98 qq_7 rfl #[.int .u64 a1] (by rfl) rfl rfl qq_1 ?_;with_reducible refine(Qaw.calls k a1 t _ A6.out).mono ?_
      rintro e W ⟨rfl,hb⟩;refine⟨_,rfl,?_⟩;have n_:=qn3 (Kd.R_below qq_5 hb) (Qfd (g:=b) (o:=.cells #[.int .u8 c,.int .u32 d] 27 (0,0)) qq_0 hb) (Qgi qq_b hb);clear q a HB;obtain⟨q,a,HB⟩:=n_
      (try clear hb)
      (try clear hb2)
      (try clear hk)
      (try clear hi)
      refine hK.out _ _ ⟨(Qeo a.out 0).trans rfl,(Qeo a.out 1).trans rfl⟩ (fun l=>?_);clear hK K;refine nzp_ 16 ?_;exact Qhp qq_3 (hJ2_3_8_11 (s) _ ⟨l,qq_5,qq_0,qq_b⟩)
    rintro s W ⟨hS_,u,x,A⟩;have y:Aside0 (Kd.R (Kd.int .u8) 5 W w.heap.size (fun _=>True) s m):=⟨u⟩;have z:Aside0 (W.heap[b]? = some (.cells #[.int .u8 c,.int .u32 d] 27 (0,0))):=⟨x⟩;have B:Aside0 (Below w.heap.size w W):=⟨A⟩;clear a HB u x A;have q:=y;have a:=z;have HB:=B;clear y z B;have l:W.cell? ⟨b,0,none⟩=some (.int .u8 c)∧W.cell? ⟨b,1,none⟩=some (.int .u32 d):=hS_;refine nza_ ?_;refine Qhj (i:=12) (N:=some 17) (v:=?_) (a':=?_) (bm 15 8191) rfl rfl (Qir HT_.out qq_7) (fun _ _ _ h=>h) (Or.inl ⟨by rfl,?_⟩) ?_ ?_;rotate_left
    ·intro w';go_simp;with_reducible rfl
    rotate_left
    ·exact qq_2
    refine one_ (i:=13) (N:=some 18) (bm 15 16383) rfl rfl (Qis HT_.out qq_7) (by decide) (fun K hK=>?_);refine Qhr Tryz.func61 qq_7 rfl #[.string ((((⟨#[1,2]⟩:ByteArray)++(strOfNums m))++p)++t)] (by rfl) rfl rfl qq_1 ?_;with_reducible refine(Qbp.calls k ((((⟨#[1,2]⟩:ByteArray)++(strOfNums m))++p)++t) D _ A8.out).mono ?_
    rintro e ax ⟨rfl,hb⟩;refine⟨_,rfl,?_⟩;have n_:=qn3 (Kd.R_below qq_5 hb) (Qfd (g:=b) (o:=.cells #[.int .u8 c,.int .u32 d] 27 (0,0)) qq_0 hb) (Qgi qq_b hb);clear q a HB;obtain⟨q,a,HB⟩:=n_
    (try clear hb)
    (try clear hb2)
    (try clear hk)
    (try clear hi)
    refine hK.out _ _ ⟨(Qeo a.out 0).trans rfl,(Qeo a.out 1).trans rfl⟩ (fun l=>?_);clear hK K;refine nzp_ 18 ?_;refine Qhj (i:=14) (N:=some 4) (v:=?_) (a':=?_) (bm 15 32767) rfl rfl (Qir HT_.out qq_7) (fun _ _ _ h=>h) (Or.inl ⟨by rfl,?_⟩) ?_ ?_;rotate_left
    ·intro w';go_simp;with_reducible rfl
    rotate_left
    ·exact qq_2
    refine Qhl (Qiu HT_.out qq_7) ?_
    try go_wp2
    go_ret
    exact⟨by first|rfl |(simp[Qjz,Qka]<;>rfl) |(simp[*,Qjz,Qka]<;>rfl),qq_b⟩
   ·rw[if_neg c7]at H;exact absurd H (by simp)
  ·rw[if_neg c5]at H;exact absurd H (by simp)
 ·rw[if_neg c3]at H;exact absurd H (by simp)
def Qbi.f(k:Nat)(a0_0:Bool)(a0_1:Int)(a0_2:ByteArray)(a0_3:ByteArray):Option (ByteArray):=if a0_0=true then((Qaw.f k a0_1).bind fun t300=>(if 1+t300.size≤9223372036854775807 then((Qax.f k a0_2).bind fun t301=>(if((⟨#[3]⟩:ByteArray)++t300).size+t301.size≤9223372036854775807 then(some (((⟨#[3]⟩:ByteArray)++t300)++t301))else(none)))else(none)))else((Qaw.f k a0_1).bind fun t302=>(if 1+t302.size≤9223372036854775807 then((Qax.f k a0_2).bind fun t303=>(if((⟨#[2]⟩:ByteArray)++t302).size+t303.size≤9223372036854775807 then((Qax.f k a0_3).bind fun t304=>(if(((⟨#[2]⟩:ByteArray)++t302)++t303).size+t304.size≤9223372036854775807 then(some ((((⟨#[2]⟩:ByteArray)++t302)++t303)++t304))else(none)))else(none)))else(none)))
def Qbi.T2:Bool × List (List Nat × List Nat):=(true,[([],[]),([0],[0]),([1],[1]),([2],[2]),([],[]),([4],[4]),([5,2],[5]),([3,6],[3,6]),([7,6,0,1,2,3,4,5,6,7],[7])])
def Qbi.B2:List Nat:=[0,1,3,7,0,16,55,127,255]
theorem Qbi.tab2:rtab .any (Qjb Tryz.f62 2)=Qbi.T2:=by kernel_rfl
theorem Qbi.bits2:Qiv Qbi.T2.2 Qbi.B2=true:=by kernel_rfl
def Qbi.T3:Bool × List (List Nat × List Nat):=(true,[([],[]),([0],[0]),([1],[1]),([2],[2]),([],[]),([4],[4]),([5,2],[5]),([3,6],[3,6]),([],[]),([8],[8]),([9,6],[9]),([7,10],[7,10]),([11,10,0,1,2,3,4,5,6,7,8,9,10,11],[11])])
def Qbi.B3:List Nat:=[0,1,3,7,0,16,55,127,0,256,887,2047,4095]
theorem Qbi.tab3:rtab .any (Qjb Tryz.f62 3)=Qbi.T3:=by kernel_rfl
theorem Qbi.bits3:Qiv Qbi.T3.2 Qbi.B3=true:=by kernel_rfl
theorem Qbi.calls(k:Nat)(u:Bool)(m:Int)(j:ByteArray)(q:ByteArray)(r:ByteArray)(w:World)(h:Qbi.f k u m j q=some r) :
  Calls Tryz.prog 62 #[.agg #[.bool u,.int .u64 m,.string j,.string q]] w fun e w'=>e=.returned (.string r)∧Below w.heap.size w w':=by
 have hu39:=Tryz.underlying39;have HB:=QA (Below.refl w.heap.size w);have H:(if u=true then((Qaw.f k m).bind fun l=>(if 1+l.size≤9223372036854775807 then((Qax.f k j).bind fun t=>(if((⟨#[3]⟩:ByteArray)++l).size+t.size≤9223372036854775807 then(some (((⟨#[3]⟩:ByteArray)++l)++t))else(none)))else(none)))else((Qaw.f k m).bind fun b=>(if 1+b.size≤9223372036854775807 then((Qax.f k j).bind fun c=>(if((⟨#[2]⟩:ByteArray)++b).size+c.size≤9223372036854775807 then((Qax.f k q).bind fun p=>(if(((⟨#[2]⟩:ByteArray)++b)++c).size+p.size≤9223372036854775807 then(some ((((⟨#[2]⟩:ByteArray)++b)++c)++p))else(none)))else(none)))else(none))))=some r:=h;clear h
 by_cases c2:u=true
 ·subst c2;have H1:((Qaw.f k m).bind fun l=>(if 1+l.size≤9223372036854775807 then((Qax.f k j).bind fun t=>(if((⟨#[3]⟩:ByteArray)++l).size+t.size≤9223372036854775807 then(some (((⟨#[3]⟩:ByteArray)++l)++t))else(none)))else(none)))=some r:=by rw[if_pos rfl]at H;exact H
  clear H;have H:=H1;clear H1;replace H:=Option.bind_eq_some_iff.mp H;obtain⟨l,U,H⟩:=H;replace H:(if 1+l.size≤9223372036854775807 then((Qax.f k j).bind fun t=>(if((⟨#[3]⟩:ByteArray)++l).size+t.size≤9223372036854775807 then(some (((⟨#[3]⟩:ByteArray)++l)++t))else(none)))else(none))=some r:=H;have A3:=QA U;clear U
  by_cases c4:1+l.size≤9223372036854775807
  ·rw[if_pos c4]at H;have av:=eq_true c4;have aw:decide (1+l.size≤9223372036854775807)=true:=decide_eq_true c4
   try have ax:(9223372036854775807<1+l.size)=False:=eq_false (Nat.not_lt.2 c4)
   replace H:=Option.bind_eq_some_iff.mp H;obtain⟨t,W,H⟩:=H;replace H:(if((⟨#[3]⟩:ByteArray)++l).size+t.size≤9223372036854775807 then(some (((⟨#[3]⟩:ByteArray)++l)++t))else(none))=some r:=H;have A5:=QA W;clear W
   by_cases c6:((⟨#[3]⟩:ByteArray)++l).size+t.size≤9223372036854775807
   ·rw[if_pos c6]at H;have ay:=eq_true c6;have az:decide (((⟨#[3]⟩:ByteArray)++l).size+t.size≤9223372036854775807)=true:=decide_eq_true c6
    try have D:(9223372036854775807<((⟨#[3]⟩:ByteArray)++l).size+t.size)=False:=eq_false (Nat.not_lt.2 c6)
    try have X:=D
    try simp only[ByteArray.size_append,(show ∀x_:UInt8,(⟨#[x_]⟩:ByteArray).size=1 from fun _=>rfl),(show ∀x_ y_:UInt8,(⟨#[x_,y_]⟩:ByteArray).size=2 from fun _ _=>rfl)]at X
    try have Y:=D
    try simp only[ByteArray.size_append,ByteArray.size_extract,(show ∀x_:UInt8,(⟨#[x_]⟩:ByteArray).size=1 from fun _=>rfl),(show ∀x_ y_:UInt8,(⟨#[x_,y_]⟩:ByteArray).size=2 from fun _ _=>rfl)]at Y
    obtain rfl:=Option.some.inj H
    go_enter Tryz.func62,Tryz.ntmps62
    try go_wp2_with (first |((with_reducible refine Qgt (N:=1) rfl ?_);refine qq_e 1 #[.bool true,.int .u64 m,.string j,.string q] 39 ?_;intro d hg w7 hbox hb;have n_:=qn4 (Qgi qq_b hb) (hbox) (qq_s hg:w.heap.size≤d) (qq_s hg:w.heap.size≤d);clear HB;obtain⟨HB,a,J,L⟩:=n_;clear hb hbox hg;obtain⟨ad,ae,af,ag⟩:=qc4 a.out;have aA:=Qep a.out))
    have n_:=qn2 (Qfb a.out) (Qgp HB.out);clear a HB;obtain⟨a,HB⟩:=n_;refine Qhg (n:=9) (S:=fun w'=>w'.cell? ⟨d,0,none⟩=some (.bool true)∧w'.cell? ⟨d,1,none⟩=some (.int .u64 m)∧w'.cell? ⟨d,2,none⟩=some (.string j)∧w'.cell? ⟨d,3,none⟩=some (.string q)) (ds:=[]) (bm 9 0) qq_7 rfl rfl ⟨(Qeo a.out 0).trans rfl,(Qeo a.out 1).trans rfl,(Qeo a.out 2).trans rfl,(Qeo a.out 3).trans rfl⟩ (fun s=>?_);refine Qiz Qbi.tab2 Qbi.bits2 (fun HT_ HW_=>?_);generalize w7.drew=w9 at a HB s ⊢;refine Qhj (i:=0) (N:=some 5) (v:=?_) (a':=?_) (bm 9 1) rfl rfl (Qir HT_.out qq_7) (fun _ _ _ h=>h) (Or.inl ⟨by rfl,?_⟩) ?_ ?_;rotate_left
    ·intro w';go_simp;with_reducible rfl
    rotate_left
    ·exact qq_2
    refine Qhj (i:=4) (N:=some 9) (v:=?_) (a':=?_) (bm 9 17) rfl rfl (Qir HT_.out qq_7) (fun _ _ _ h=>h) (Or.inl ⟨by rfl,?_⟩) ?_ ?_;rotate_left
    ·intro w';go_simp;with_reducible rfl
    rotate_left
    ·exact qq_2
    refine Qhi (i:=1) (N:=some 6) (v:=?_) (a':=?_) (bm 9 19) rfl rfl (Qiy HT_.out HW_.out qq_7) (fun _ _ _ h=>h) (Or.inl ⟨by rfl,?_⟩) s ?_ ?_;rotate_left
    ·rintro w' ⟨s0,s1,s2,s3⟩;go_simp;with_reducible rfl
    rotate_left
    ·exact qq_2
    refine Qhi (i:=5) (N:=some 10) (v:=?_) (a':=?_) (bm 9 51) rfl rfl (Qiy HT_.out HW_.out qq_7) (fun _ _ _ h=>h) (Or.inl ⟨by rfl,?_⟩) s ?_ ?_;rotate_left
    ·rintro w' ⟨s0,s1,s2,s3⟩;go_simp;with_reducible rfl
    rotate_left
    ·exact qq_2
    refine one_ (i:=2) (N:=some 7) (bm 9 55) rfl rfl (Qis HT_.out qq_7) (by decide) (fun K hK=>?_);refine Qhr Tryz.func98 qq_7 rfl #[.int .u64 m] (by rfl) rfl rfl qq_1 ?_;with_reducible refine(Qaw.calls k m l _ A3.out).mono ?_
    rintro e aB ⟨rfl,hb⟩;refine⟨_,rfl,?_⟩;have n_:=qn2 (Qfd (g:=d) (o:=.cells #[.bool true,.int .u64 m,.string j,.string q] 39 (0,0)) qq_0 hb) (Qgi qq_b hb);clear a HB;obtain⟨a,HB⟩:=n_
    (try clear hb)
    (try clear hb2)
    (try clear hk)
    (try clear hi)
    refine hK.out _ _ ⟨(Qeo a.out 0).trans rfl,(Qeo a.out 1).trans rfl,(Qeo a.out 2).trans rfl,(Qeo a.out 3).trans rfl⟩ (fun s=>?_);clear hK K;refine nzp_ 7 ?_;refine Qhj (i:=3) (N:=some 8) (v:=?_) (a':=?_) (bm 9 63) rfl rfl (Qir HT_.out qq_7) (fun _ _ _ h=>h) (Or.inl ⟨by rfl,?_⟩) ?_ ?_;rotate_left
    ·intro w';go_simp;with_reducible rfl
    rotate_left
    ·exact qq_2
    refine one_ (i:=6) (N:=some 11) (bm 9 127) rfl rfl (Qis HT_.out qq_7) (by decide) (fun K hK=>?_);refine Qhr Tryz.func104 qq_7 rfl #[.string j] (by rfl) rfl rfl qq_1 ?_;with_reducible refine(Qax.calls k j t _ A5.out).mono ?_
    rintro e aC ⟨rfl,hb⟩;refine⟨_,rfl,?_⟩;have n_:=qn2 (Qfd (g:=d) (o:=.cells #[.bool true,.int .u64 m,.string j,.string q] 39 (0,0)) qq_0 hb) (Qgi qq_b hb);clear a HB;obtain⟨a,HB⟩:=n_
    (try clear hb)
    (try clear hb2)
    (try clear hk)
    (try clear hi)
    refine hK.out _ _ ⟨(Qeo a.out 0).trans rfl,(Qeo a.out 1).trans rfl,(Qeo a.out 2).trans rfl,(Qeo a.out 3).trans rfl⟩ (fun s=>?_);clear hK K;refine nzp_ 11 ?_;refine Qhj (i:=7) (N:=some 12) (v:=?_) (a':=?_) (bm 9 255) rfl rfl (Qir HT_.out qq_7) (fun _ _ _ h=>h) (Or.inl ⟨by rfl,?_⟩) ?_ ?_;rotate_left
    ·intro w';go_simp;with_reducible rfl
    rotate_left
    ·exact qq_2
    refine Qhj (i:=8) (N:=some 2) (v:=?_) (a':=?_) (bm 9 511) rfl rfl (Qir HT_.out qq_7) (fun _ _ _ h=>h) (Or.inl ⟨by rfl,?_⟩) ?_ ?_;rotate_left
    ·intro w';go_simp;with_reducible rfl
    rotate_left
    ·exact qq_2
    refine Qhl (Qiu HT_.out qq_7) ?_
    try go_wp2
    go_ret
    exact⟨by first|rfl |(simp[Qjz,Qka]<;>rfl) |(simp[*,Qjz,Qka]<;>rfl),qq_b⟩
   ·rw[if_neg c6]at H;exact absurd H (by simp)
  ·rw[if_neg c4]at H;exact absurd H (by simp)
 ·replace c2:=Bool.eq_false_iff.mpr c2;subst c2;have H1:((Qaw.f k m).bind fun b=>(if 1+b.size≤9223372036854775807 then((Qax.f k j).bind fun c=>(if((⟨#[2]⟩:ByteArray)++b).size+c.size≤9223372036854775807 then((Qax.f k q).bind fun p=>(if(((⟨#[2]⟩:ByteArray)++b)++c).size+p.size≤9223372036854775807 then(some ((((⟨#[2]⟩:ByteArray)++b)++c)++p))else(none)))else(none)))else(none)))=some r:=by rw[if_neg (show ¬(false=true)by decide)]at H;exact H
  clear H;have H:=H1;clear H1;replace H:=Option.bind_eq_some_iff.mp H;obtain⟨b,E,H⟩:=H;replace H:(if 1+b.size≤9223372036854775807 then((Qax.f k j).bind fun c=>(if((⟨#[2]⟩:ByteArray)++b).size+c.size≤9223372036854775807 then((Qax.f k q).bind fun p=>(if(((⟨#[2]⟩:ByteArray)++b)++c).size+p.size≤9223372036854775807 then(some ((((⟨#[2]⟩:ByteArray)++b)++c)++p))else(none)))else(none)))else(none))=some r:=H;have ah:=QA E;clear E
  by_cases x:1+b.size≤9223372036854775807
  ·rw [if_pos x]at H;have al:=eq_true x;have am:decide (1+b.size≤9223372036854775807)=true:=decide_eq_true x
   try have an:(9223372036854775807<1+b.size)=False:=eq_false (Nat.not_lt.2 x)
   replace H:=Option.bind_eq_some_iff.mp H;obtain⟨c,G,H⟩:=H;replace H:(if((⟨#[2]⟩:ByteArray)++b).size+c.size≤9223372036854775807 then((Qax.f k q).bind fun p=>(if(((⟨#[2]⟩:ByteArray)++b)++c).size+p.size≤9223372036854775807 then(some ((((⟨#[2]⟩:ByteArray)++b)++c)++p))else(none)))else(none))=some r:=H;have ai:=QA G;clear G
   by_cases y:((⟨#[2]⟩:ByteArray)++b).size+c.size≤9223372036854775807
   ·rw[if_pos y]at H;have ao:=eq_true y;have ap:decide (((⟨#[2]⟩:ByteArray)++b).size+c.size≤9223372036854775807)=true:=decide_eq_true y
    try have A:(9223372036854775807<((⟨#[2]⟩:ByteArray)++b).size+c.size)=False:=eq_false (Nat.not_lt.2 y)
    try have M:=A
    try simp only[ByteArray.size_append,(show ∀x_:UInt8,(⟨#[x_]⟩:ByteArray).size=1 from fun _=>rfl),(show ∀x_ y_:UInt8,(⟨#[x_,y_]⟩:ByteArray).size=2 from fun _ _=>rfl)]at M
    try have O:=A
    try simp only[ByteArray.size_append,ByteArray.size_extract,(show ∀x_:UInt8,(⟨#[x_]⟩:ByteArray).size=1 from fun _=>rfl),(show ∀x_ y_:UInt8,(⟨#[x_,y_]⟩:ByteArray).size=2 from fun _ _=>rfl)]at O
    replace H:=Option.bind_eq_some_iff.mp H;obtain⟨p,I,H⟩:=H;replace H:(if(((⟨#[2]⟩:ByteArray)++b)++c).size+p.size≤9223372036854775807 then(some ((((⟨#[2]⟩:ByteArray)++b)++c)++p))else(none))=some r:=H;have aj:=QA I;clear I
    by_cases z:(((⟨#[2]⟩:ByteArray)++b)++c).size+p.size≤9223372036854775807
    ·rw[if_pos z]at H;have aq:=eq_true z;have ar:decide ((((⟨#[2]⟩:ByteArray)++b)++c).size+p.size≤9223372036854775807)=true:=decide_eq_true z
     try have B:(9223372036854775807<(((⟨#[2]⟩:ByteArray)++b)++c).size+p.size)=False:=eq_false (Nat.not_lt.2 z)
     try have P:=B
     try simp only[ByteArray.size_append,(show ∀x_:UInt8,(⟨#[x_]⟩:ByteArray).size=1 from fun _=>rfl),(show ∀x_ y_:UInt8,(⟨#[x_,y_]⟩:ByteArray).size=2 from fun _ _=>rfl)]at P
     try have T:=B
     try simp only[ByteArray.size_append,ByteArray.size_extract,(show ∀x_:UInt8,(⟨#[x_]⟩:ByteArray).size=1 from fun _=>rfl),(show ∀x_ y_:UInt8,(⟨#[x_,y_]⟩:ByteArray).size=2 from fun _ _=>rfl)]at T
     obtain rfl:=Option.some.inj H
     go_enter Tryz.func62,Tryz.ntmps62
     try go_wp2_with (first |((with_reducible refine Qgt (N:=1) rfl ?_);refine qq_e 1 #[.bool false,.int .u64 m,.string j,.string q] 39 ?_;intro d hg ak hbox hb;have n_:=qn4 (Qgi qq_b hb) (hbox) (qq_s hg:w.heap.size≤d) (qq_s hg:w.heap.size≤d);clear HB;obtain⟨HB,a,J,L⟩:=n_;clear hb hbox hg;obtain⟨Z,aa,ab,ac⟩:=qc4 a.out;have au:=Qep a.out))
     have n_:=qn2 (Qfb a.out) (Qgp HB.out);clear a HB;obtain⟨a,HB⟩:=n_;refine Qhg (n:=13) (S:=fun w'=>w'.cell? ⟨d,0,none⟩=some (.bool false)∧w'.cell? ⟨d,1,none⟩=some (.int .u64 m)∧w'.cell? ⟨d,2,none⟩=some (.string j)∧w'.cell? ⟨d,3,none⟩=some (.string q)) (ds:=[]) (bm 13 0) qq_7 rfl rfl ⟨(Qeo a.out 0).trans rfl,(Qeo a.out 1).trans rfl,(Qeo a.out 2).trans rfl,(Qeo a.out 3).trans rfl⟩ (fun s=>?_);refine Qiz Qbi.tab3 Qbi.bits3 (fun HT_ HW_=>?_);generalize ak.drew=w20 at a HB s ⊢;refine Qhj (i:=0) (N:=some 13) (v:=?_) (a':=?_) (bm 13 1) rfl rfl (Qir HT_.out qq_7) (fun _ _ _ h=>h) (Or.inl ⟨by rfl,?_⟩) ?_ ?_;rotate_left
     ·intro w';go_simp;with_reducible rfl
     rotate_left
     ·exact qq_2
     refine Qhj (i:=4) (N:=some 17) (v:=?_) (a':=?_) (bm 13 17) rfl rfl (Qir HT_.out qq_7) (fun _ _ _ h=>h) (Or.inl ⟨by rfl,?_⟩) ?_ ?_;rotate_left
     ·intro w';go_simp;with_reducible rfl
     rotate_left
     ·exact qq_2
     refine Qhj (i:=8) (N:=some 21) (v:=?_) (a':=?_) (bm 13 273) rfl rfl (Qir HT_.out qq_7) (fun _ _ _ h=>h) (Or.inl ⟨by rfl,?_⟩) ?_ ?_;rotate_left
     ·intro w';go_simp;with_reducible rfl
     rotate_left
     ·exact qq_2
     refine Qhi (i:=1) (N:=some 14) (v:=?_) (a':=?_) (bm 13 275) rfl rfl (Qiy HT_.out HW_.out qq_7) (fun _ _ _ h=>h) (Or.inl ⟨by rfl,?_⟩) s ?_ ?_;rotate_left
     ·rintro w' ⟨s0,s1,s2,s3⟩;go_simp;with_reducible rfl
     rotate_left
     ·exact qq_2
     refine Qhi (i:=5) (N:=some 18) (v:=?_) (a':=?_) (bm 13 307) rfl rfl (Qiy HT_.out HW_.out qq_7) (fun _ _ _ h=>h) (Or.inl ⟨by rfl,?_⟩) s ?_ ?_;rotate_left
     ·rintro w' ⟨s0,s1,s2,s3⟩;go_simp;with_reducible rfl
     rotate_left
     ·exact qq_2
     refine Qhi (i:=9) (N:=some 22) (v:=?_) (a':=?_) (bm 13 819) rfl rfl (Qiy HT_.out HW_.out qq_7) (fun _ _ _ h=>h) (Or.inl ⟨by rfl,?_⟩) s ?_ ?_;rotate_left
     ·rintro w' ⟨s0,s1,s2,s3⟩;go_simp;with_reducible rfl
     rotate_left
     ·exact qq_2
     refine one_ (i:=2) (N:=some 15) (bm 13 823) rfl rfl (Qis HT_.out qq_7) (by decide) (fun K hK=>?_);refine Qhr Tryz.func98 qq_7 rfl #[.int .u64 m] (by rfl) rfl rfl qq_1 ?_;with_reducible refine(Qaw.calls k m b _ ah.out).mono ?_
     rintro e aD ⟨rfl,hb⟩;refine⟨_,rfl,?_⟩;have n_:=qn2 (Qfd (g:=d) (o:=.cells #[.bool false,.int .u64 m,.string j,.string q] 39 (0,0)) qq_0 hb) (Qgi qq_b hb);clear a HB;obtain⟨a,HB⟩:=n_
     (try clear hb)
     (try clear hb2)
     (try clear hk)
     (try clear hi)
     refine hK.out _ _ ⟨(Qeo a.out 0).trans rfl,(Qeo a.out 1).trans rfl,(Qeo a.out 2).trans rfl,(Qeo a.out 3).trans rfl⟩ (fun s=>?_);clear hK K;refine nzp_ 15 ?_;refine Qhj (i:=3) (N:=some 16) (v:=?_) (a':=?_) (bm 13 831) rfl rfl (Qir HT_.out qq_7) (fun _ _ _ h=>h) (Or.inl ⟨by rfl,?_⟩) ?_ ?_;rotate_left
     ·intro w';go_simp;with_reducible rfl
     rotate_left
     ·exact qq_2
     refine one_ (i:=6) (N:=some 19) (bm 13 895) rfl rfl (Qis HT_.out qq_7) (by decide) (fun K hK=>?_);refine Qhr Tryz.func104 qq_7 rfl #[.string j] (by rfl) rfl rfl qq_1 ?_;with_reducible refine(Qax.calls k j c _ ai.out).mono ?_
     rintro e aE ⟨rfl,hb⟩;refine⟨_,rfl,?_⟩;have n_:=qn2 (Qfd (g:=d) (o:=.cells #[.bool false,.int .u64 m,.string j,.string q] 39 (0,0)) qq_0 hb) (Qgi qq_b hb);clear a HB;obtain⟨a,HB⟩:=n_
     (try clear hb)
     (try clear hb2)
     (try clear hk)
     (try clear hi)
     refine hK.out _ _ ⟨(Qeo a.out 0).trans rfl,(Qeo a.out 1).trans rfl,(Qeo a.out 2).trans rfl,(Qeo a.out 3).trans rfl⟩ (fun s=>?_);clear hK K;refine nzp_ 19 ?_;refine Qhj (i:=7) (N:=some 20) (v:=?_) (a':=?_) (bm 13 1023) rfl rfl (Qir HT_.out qq_7) (fun _ _ _ h=>h) (Or.inl ⟨by rfl,?_⟩) ?_ ?_;rotate_left
     ·intro w';go_simp;with_reducible rfl
     rotate_left
     ·exact qq_2
     refine one_ (i:=10) (N:=some 23) (bm 13 2047) rfl rfl (Qis HT_.out qq_7) (by decide) (fun K hK=>?_);refine Qhr Tryz.func104 qq_7 rfl #[.string q] (by rfl) rfl rfl qq_1 ?_;with_reducible refine(Qax.calls k q p _ aj.out).mono ?_
     rintro e aF ⟨rfl,hb⟩;refine⟨_,rfl,?_⟩;have n_:=qn2 (Qfd (g:=d) (o:=.cells #[.bool false,.int .u64 m,.string j,.string q] 39 (0,0)) qq_0 hb) (Qgi qq_b hb);clear a HB;obtain⟨a,HB⟩:=n_
     (try clear hb)
     (try clear hb2)
     (try clear hk)
     (try clear hi)
     refine hK.out _ _ ⟨(Qeo a.out 0).trans rfl,(Qeo a.out 1).trans rfl,(Qeo a.out 2).trans rfl,(Qeo a.out 3).trans rfl⟩ (fun s=>?_);clear hK K;refine nzp_ 23 ?_;refine Qhj (i:=11) (N:=some 24) (v:=?_) (a':=?_) (bm 13 4095) rfl rfl (Qir HT_.out qq_7) (fun _ _ _ h=>h) (Or.inl ⟨by rfl,?_⟩) ?_ ?_;rotate_left
     ·intro w';go_simp;with_reducible rfl
     rotate_left
     ·exact qq_2
     refine Qhj (i:=12) (N:=some 2) (v:=?_) (a':=?_) (bm 13 8191) rfl rfl (Qir HT_.out qq_7) (fun _ _ _ h=>h) (Or.inl ⟨by rfl,?_⟩) ?_ ?_;rotate_left
     ·intro w';go_simp;with_reducible rfl
     rotate_left
     ·exact qq_2
     refine Qhl (Qiu HT_.out qq_7) ?_
     try go_wp2
     go_ret
     exact⟨by first|rfl |(simp[Qjz,Qka]<;>rfl) |(simp[*,Qjz,Qka]<;>rfl),qq_b⟩
    ·rw[if_neg z]at H;exact absurd H (by simp)
   ·rw[if_neg y]at H;exact absurd H (by simp)
  ·rw[if_neg x]at H;exact absurd H (by simp)
def Qbo.f(k:Nat)(a0_0:Bool)(a0_1:Int)(a0_2:ByteArray)(a0_3:ByteArray):Option (ByteArray):=(Qbi.f k a0_0 a0_1 a0_2 a0_3).bind fun t306=>((Qbp.f k t306).bind fun t307=>(some t307))
theorem Qbo.calls(k:Nat)(a:Bool)(b:Int)(c:ByteArray)(d:ByteArray)(r:ByteArray)(w:World)(h:Qbo.f k a b c d=some r) :
  Calls Tryz.prog 22 #[.agg #[.bool a,.int .u64 b,.string c,.string d]] w fun e w'=>e=.returned (.string r)∧Below w.heap.size w w':=by
 have hu39:=Tryz.underlying39;have HB:=QA (Below.refl w.heap.size w);have H:((Qbi.f k a b c d).bind fun l=>((Qbp.f k l).bind fun m=>(some m)))=some r:=h;clear h;replace H:=Option.bind_eq_some_iff.mp H;obtain⟨l,p,H⟩:=H;replace H:((Qbp.f k l).bind fun m=>(some m))=some r:=H;have A2:=QA p;clear p;replace H:=Option.bind_eq_some_iff.mp H;obtain⟨m,q,H⟩:=H;replace H:(some m)=some r:=H;have A3:=QA q;clear q;obtain rfl:=Option.some.inj H
 go_enter Tryz.func22,Tryz.ntmps22
 go_wp2_with (first |((with_reducible refine Qgt (N:=1) rfl ?_);refine qq_e 1 #[.bool a,.int .u64 b,.string c,.string d] 39 ?_;intro n hg w4 hbox hb;have n_:=qn4 (Qgi qq_b hb) (hbox) (qq_s hg:w.heap.size≤n) (qq_s hg:w.heap.size≤n);clear HB;obtain⟨HB,j,x,y⟩:=n_;clear hb hbox hg;obtain⟨s,t,u,v⟩:=qc4 j.out;have z:=Qep j.out) |((with_reducible refine Qjs (f:=62) rfl ?_);refine Qhs (some 4) rfl rfl Tryz.func62 qq_7 rfl #[.agg #[.bool a,.int .u64 b,.string c,.string d]] rfl qq_1 ?_;(with_reducible refine(Qbi.calls k a b c d l _ A2.out).mono ?_);rintro e w6 ⟨rfl,hb⟩;refine⟨_,rfl,?_⟩;have n_:=qn2 (Qfd (g:=n) (o:=.cells #[.bool a,.int .u64 b,.string c,.string d] 39 (0,0)) qq_0 hb) (Qgi qq_b hb);clear j HB;obtain⟨j,HB⟩:=n_;(try clear hb);(try clear hb2);(try clear hk);(try clear hi)) |((with_reducible refine Qjs (f:=61) rfl ?_);refine Qhs (some 5) rfl rfl Tryz.func61 qq_7 rfl #[.string l] rfl qq_1 ?_;(with_reducible refine(Qbp.calls k l m _ A3.out).mono ?_);rintro e w7 ⟨rfl,hb⟩;refine⟨_,rfl,?_⟩;have n_:=qn2 (Qfd (g:=n) (o:=.cells #[.bool a,.int .u64 b,.string c,.string d] 39 (0,0)) qq_0 hb) (Qgi qq_b hb);clear j HB;obtain⟨j,HB⟩:=n_;(try clear hb);(try clear hb2);(try clear hk);(try clear hi)))
 go_ret
 exact⟨by first|rfl |(simp[Qjz,Qka]<;>rfl) |(simp[*,Qjz,Qka]<;>rfl),qq_b⟩
def Qcb.f(k:Nat)(a0_0:Int)(a0_1:Int)(a1:Int):Option (Int × Int × Int × Int × Int):=(Qbn.f k a0_0 a0_1 a1).bind fun t325=>(some (a0_0,a0_1,a1,(t325.size:Int),0))
def Qcb.T1:Bool × List (List Nat × List Nat):=(true,[([],[]),([],[]),([],[]),([],[]),([2,3],[2,3]),([4],[4]),([0,1,5],[0,1,5]),([6,4,0,1,2,3,4,5,6],[6])])
def Qcb.B1:List Nat:=[0,0,0,0,12,28,63,127]
theorem Qcb.tab1:rtab .any (Qjb Tryz.f20 1)=Qcb.T1:=by kernel_rfl
theorem Qcb.bits1:Qiv Qcb.T1.2 Qcb.B1=true:=by kernel_rfl
theorem Qcb.calls(k:Nat)(j:Int)(l:Int)(a1:Int)(r1:Int)(r2:Int)(r3:Int)(r4:Int)(r5:Int)(w:World)(h:Qcb.f k j l a1=some (r1,r2,r3,r4,r5)) :
  Calls Tryz.prog 20 #[.agg #[.int .u8 j,.int .u32 l],.int .u64 a1] w fun e w'=>e=.returned (.agg #[.int .u8 r1,.int .u32 r2,.int .u64 r3,.int .i64 r4,.int .i64 r5])∧Below w.heap.size w w':=by
 have hu27:=Tryz.underlying27;have hu36:=Tryz.underlying36;have HB:=QA (Below.refl w.heap.size w);have H:((Qbn.f k j l a1).bind fun s=>(some (j,l,a1,(s.size:Int),0)))=some (r1,r2,r3,r4,r5):=h;clear h;replace H:=Option.bind_eq_some_iff.mp H;obtain⟨s,t,H⟩:=H;replace H:(some (j,l,a1,(s.size:Int),0))=some (r1,r2,r3,r4,r5):=H;have A3:=QA t;clear t;simp only[Option.some.injEq,Prod.mk.injEq]at H;obtain⟨rfl,rfl,rfl,rfl,rfl⟩:=H
 go_enter Tryz.func20,Tryz.ntmps20
 try go_wp2_with (first |((with_reducible refine Qgt (N:=2) rfl ?_);refine qq_e 2 #[.int .u8 j,.int .u32 l] 27 ?_;intro m hg w4 hbox hb;have n_:=qn4 (Qgi qq_b hb) (hbox) (qq_s hg:w.heap.size≤m) (qq_s hg:w.heap.size≤m);clear HB;obtain⟨HB,d,u,x⟩:=n_;clear hb hbox hg) |((with_reducible refine Qgt (N:=4) rfl ?_);refine qq_e 4 #[.int .u8 0,.int .u32 0,.int .u64 0,.int .i64 0,.int .i64 0] 36 ?_;intro b hg w5 hbox hb;have n_:=qn7 (Qfd (g:=m) (o:=.cells #[.int .u8 j,.int .u32 l] 27 (0,0)) qq_0 hb) (Qgi qq_b hb) (hbox) (qq_s hg:w.heap.size≤b) (qq_s hg:w.heap.size≤b) ((by rw[hg];exact Nat.ne_of_lt (Qen (g:=m) (o:=.cells #[.int .u8 j,.int .u32 l] 27 (0,0)) qq_0):m≠b)) ((by rw[hg];exact Nat.ne_of_gt (Qen (g:=m) (o:=.cells #[.int .u8 j,.int .u32 l] 27 (0,0)) qq_0):b≠m));clear d HB;obtain⟨d,HB,c,y,z,a,q⟩:=n_;clear hb hbox hg))
 have n_:=qn3 (Qfb d.out) (Qfb c.out) (Qgp HB.out);clear d c HB;obtain⟨d,c,HB⟩:=n_;refine Qhg (n:=8) (S:=fun w'=>w'.cell? ⟨m,0,none⟩=some (.int .u8 j)∧w'.cell? ⟨m,1,none⟩=some (.int .u32 l)) (ds:=[]) (bm 8 0) qq_7 rfl rfl ⟨(Qeo d.out 0).trans rfl,(Qeo d.out 1).trans rfl⟩ (fun r=>?_);refine Qiz Qcb.tab1 Qcb.bits1 (fun HT_ HW_=>?_);generalize w5.drew=w6 at d c HB r ⊢;refine Qhj (i:=1) (N:=some 6) (v:=?_) (a':=?_) (bm 8 2) rfl rfl (Qir HT_.out qq_7) (fun _ _ _ h=>h) (Or.inl ⟨by rfl,?_⟩) ?_ ?_;rotate_left
 ·intro w';go_simp;with_reducible rfl
 rotate_left
 ·exact qq_2
 refine Qhj (i:=3) (N:=some 8) (v:=?_) (a':=?_) (bm 8 10) rfl rfl (Qir HT_.out qq_7) (fun _ _ _ h=>h) (Or.inl ⟨by rfl,?_⟩) ?_ ?_;rotate_left
 ·intro w';go_simp;with_reducible rfl
 rotate_left
 ·exact qq_2
 refine Qhi (i:=0) (N:=some 5) (v:=?_) (a':=?_) (bm 8 11) rfl rfl (Qiy HT_.out HW_.out qq_7) (fun _ _ _ h=>h) (Or.inl ⟨by rfl,?_⟩) r ?_ ?_;rotate_left
 ·rintro w' ⟨s0,s1⟩;go_simp;with_reducible rfl
 rotate_left
 ·exact qq_2
 refine Qhi (i:=2) (N:=some 7) (v:=?_) (a':=?_) (bm 8 15) rfl rfl (Qiy HT_.out HW_.out qq_7) (fun _ _ _ h=>h) (Or.inl ⟨by rfl,?_⟩) r ?_ ?_;rotate_left
 ·rintro w' ⟨s0,s1⟩;go_simp;with_reducible rfl
 rotate_left
 ·exact qq_2
 refine one_ (i:=4) (N:=some 9) (bm 8 31) rfl rfl (Qis HT_.out qq_7) (by decide) (fun K hK=>?_);refine Qhr Tryz.func55 qq_7 rfl #[.agg #[.int .u8 j,.int .u32 l],.int .u64 a1] (by rfl) rfl rfl qq_1 ?_;with_reducible refine(Qbn.calls k j l a1 s _ A3.out).mono ?_
 rintro e w7 ⟨rfl,hb⟩;refine⟨_,rfl,?_⟩;have n_:=qn3 (Qfd (g:=m) (o:=.cells #[.int .u8 j,.int .u32 l] 27 (0,0)) qq_0 hb) (Qfd (g:=b) (o:=.cells #[.int .u8 0,.int .u32 0,.int .u64 0,.int .i64 0,.int .i64 0] 36 (0,0)) qq_0 hb) (Qgi qq_b hb);clear d c HB;obtain⟨d,c,HB⟩:=n_
 (try clear hb)
 (try clear hb2)
 (try clear hk)
 (try clear hi)
 refine hK.out _ _ ⟨(Qeo d.out 0).trans rfl,(Qeo d.out 1).trans rfl⟩ (fun r=>?_);clear hK K;refine nzp_ 9 ?_;refine Qhj (i:=5) (N:=some 10) (v:=?_) (a':=?_) (bm 8 63) rfl rfl (Qir HT_.out qq_7) (fun _ _ _ h=>h) (Or.inl ⟨by rfl,?_⟩) ?_ ?_;rotate_left
 ·intro w';go_simp;with_reducible rfl
 rotate_left
 ·exact qq_2
 refine Qhj (i:=6) (N:=some 11) (v:=?_) (a':=?_) (bm 8 127) rfl rfl (Qir HT_.out qq_7) (fun _ _ _ h=>h) (Or.inl ⟨by rfl,?_⟩) ?_ ?_;rotate_left
 ·intro w';go_simp;with_reducible rfl
 rotate_left
 ·exact qq_2
 refine one_ (i:=7) (N:=none) (bm 8 255) rfl rfl (Qis HT_.out qq_7) (by decide) (fun K hK=>?_);have hs8:w7.cell? ⟨b,0,none⟩=some (.int .u8 0):=(Qeo c.out 0).trans rfl;have hfs8:=Qep c.out 0;have hns8_0:=a.out;have hms8_0:=q.out;have hs9:w7.cell? ⟨b,1,none⟩=some (.int .u32 0):=(Qeo c.out 1).trans rfl;have hfs9:=Qep c.out 1;have hns9_0:=a.out;have hms9_0:=q.out;have hs10:w7.cell? ⟨b,2,none⟩=some (.int .u64 0):=(Qeo c.out 2).trans rfl;have hfs10:=Qep c.out 2;have hns10_0:=a.out;have hms10_0:=q.out;have hs11:w7.cell? ⟨b,3,none⟩=some (.int .i64 0):=(Qeo c.out 3).trans rfl;have hfs11:=Qep c.out 3;have hns11_0:=a.out;have hms11_0:=q.out;have hs12:w7.cell? ⟨b,4,none⟩=some (.int .i64 0):=(Qeo c.out 4).trans rfl;have hfs12:=Qep c.out 4;have hns12_0:=a.out;have hms12_0:=q.out;refine Qhu (w1:=?_) (by rfl) rfl ?_ ?_;rotate_left
 ·go_simp;rfl
 refine hK.out _ _ ⟨((Qgn (p:=⟨b,_,none⟩) a.out _).trans (((Qgn (p:=⟨b,_,none⟩) a.out _).trans (((Qgn (p:=⟨b,_,none⟩) a.out _).trans (((Qgn (p:=⟨b,_,none⟩) a.out _).trans (((Qgn (p:=⟨b,_,none⟩) a.out _).trans (r.1)))))))))),((Qgn (p:=⟨b,_,none⟩) a.out _).trans (((Qgn (p:=⟨b,_,none⟩) a.out _).trans (((Qgn (p:=⟨b,_,none⟩) a.out _).trans (((Qgn (p:=⟨b,_,none⟩) a.out _).trans (((Qgn (p:=⟨b,_,none⟩) a.out _).trans (r.2))))))))))⟩ (fun r=>?_);clear hK K;refine Qhl (Qiu HT_.out qq_7) ?_
 try go_wp2
 refine bodyPost_ret (results_cell_row rfl _ _ b 36 #[.int .u8 j,.int .u32 l,.int .u64 a1,.int .i64 (s.size:Int),.int .i64 0] (0,0) _ rfl qq_x Tryz.underlying36 rfl qq_7) rfl ?_;exact⟨by first|rfl |(simp[Qjz,Qka]<;>rfl) |(simp[*,Qjz,Qka]<;>rfl),qq_b⟩
end Go.Proofs.YtnnofopfbeklbaaGreat.C
end
