/- Merged texts. -/
import Derived.Test.YteaocbonofboeaaGreatMB02
import Derived.Test.YteaocbonofboeaaGreatMB05
import Derived.Test.YteaocbonofboeaaGreatMB09
import Derived.Test.YteaocbonofboeaaGreatMB06
import Derived.Test.YteaocbonofboeaaGreatMB11
import Derived.Test.YteaocbonofboeaaGreatMB07
set_option linter.unusedVariables false
set_option linter.unusedSimpArgs false
set_option maxHeartbeats 8000000
set_option maxRecDepth 100000
section
namespace Go.Proofs.YteaocbonofboeaaGreat.C
open Go.RowKit Go.Proofs.YteaocbonofboeaaGreatW.PrintWords Go.Proofs.YteaocbonofboeaaGreatW.PrintLast Go.Proofs.YteaocbonofboeaaGreatW.PrintMore
attribute [local go_sem] Qim Qin Qio Qip Qiq Qir Qis Qit
def Qbp.f(k:Nat)(a0_0:Bool)(a0_1:Int)(a0_2:ByteArray)(a0_3:ByteArray):Option (ByteArray):=if a0_0=true then((Qbh.f k a0_1).bind fun t156=>(if 1+t156.size≤9223372036854775807 then((Qbi.f k a0_2).bind fun t157=>(if((⟨#[3]⟩:ByteArray)++t156).size+t157.size≤9223372036854775807 then(some (((⟨#[3]⟩:ByteArray)++t156)++t157))else(none)))else(none)))else((Qbh.f k a0_1).bind fun t158=>(if 1+t158.size≤9223372036854775807 then((Qbi.f k a0_2).bind fun t159=>(if((⟨#[2]⟩:ByteArray)++t158).size+t159.size≤9223372036854775807 then((Qbi.f k a0_3).bind fun t160=>(if(((⟨#[2]⟩:ByteArray)++t158)++t159).size+t160.size≤9223372036854775807 then(some ((((⟨#[2]⟩:ByteArray)++t158)++t159)++t160))else(none)))else(none)))else(none)))
def Qbp.T2:Bool × List (List Nat × List Nat):=(true,[([],[]),([0],[0]),([1],[1]),([2],[2]),([],[]),([4],[4]),([5,2],[5]),([3,6],[3,6]),([7,6,0,1,2,3,4,5,6,7],[7])])
def Qbp.B2:List Nat:=[0,1,3,7,0,16,55,127,255]
theorem Qbp.tab2:rtab .any (Qia Tryz.f82 2)=Qbp.T2:=by kernel_rfl
theorem Qbp.bits2:Qhu Qbp.T2.2 Qbp.B2=true:=by kernel_rfl
def Qbp.T3:Bool × List (List Nat × List Nat):=(true,[([],[]),([0],[0]),([1],[1]),([2],[2]),([],[]),([4],[4]),([5,2],[5]),([3,6],[3,6]),([],[]),([8],[8]),([9,6],[9]),([7,10],[7,10]),([11,10,0,1,2,3,4,5,6,7,8,9,10,11],[11])])
def Qbp.B3:List Nat:=[0,1,3,7,0,16,55,127,0,256,887,2047,4095]
theorem Qbp.tab3:rtab .any (Qia Tryz.f82 3)=Qbp.T3:=by kernel_rfl
theorem Qbp.bits3:Qhu Qbp.T3.2 Qbp.B3=true:=by kernel_rfl
theorem Qbp.calls(k:Nat)(u:Bool)(c:Int)(d:ByteArray)(l:ByteArray)(r:ByteArray)(w:World)(h:Qbp.f k u c d l=some r) :
  Calls Tryz.prog 82 #[.agg #[.bool u,.int .u64 c,.string d,.string l]] w fun e w'=>e=.returned (.string r)∧Below w.heap.size w w':=by
 have hu37:=Tryz.underlying37;have HB:=QA (Below.refl w.heap.size w);have H:(if u=true then((Qbh.f k c).bind fun p=>(if 1+p.size≤9223372036854775807 then((Qbi.f k d).bind fun s=>(if((⟨#[3]⟩:ByteArray)++p).size+s.size≤9223372036854775807 then(some (((⟨#[3]⟩:ByteArray)++p)++s))else(none)))else(none)))else((Qbh.f k c).bind fun m=>(if 1+m.size≤9223372036854775807 then((Qbi.f k d).bind fun q=>(if((⟨#[2]⟩:ByteArray)++m).size+q.size≤9223372036854775807 then((Qbi.f k l).bind fun t=>(if(((⟨#[2]⟩:ByteArray)++m)++q).size+t.size≤9223372036854775807 then(some ((((⟨#[2]⟩:ByteArray)++m)++q)++t))else(none)))else(none)))else(none))))=some r:=h;clear h
 by_cases c2:u=true
 ·subst c2;rw[if_pos rfl]at H;replace H:=Option.bind_eq_some_iff.mp H;obtain⟨p,T,H⟩:=H;have A3:=QA T;clear T
  by_cases c4:1+p.size≤9223372036854775807
  ·rw[if_pos c4]at H;have au:=eq_true c4;have av:=decide_eq_true c4
   try have aw:(9223372036854775807<1+p.size)=False:=eq_false (Nat.not_lt.2 c4)
   replace H:=Option.bind_eq_some_iff.mp H;obtain⟨s,U,H⟩:=H;have A5:=QA U;clear U
   by_cases c6:((⟨#[3]⟩:ByteArray)++p).size+s.size≤9223372036854775807
   ·rw[if_pos c6]at H;have ax:=eq_true c6;have ay:=decide_eq_true c6
    try have B:(9223372036854775807<((⟨#[3]⟩:ByteArray)++p).size+s.size)=False:=eq_false (Nat.not_lt.2 c6)
    try have W:=B
    try simp only[ByteArray.size_append,(show ∀x_:UInt8,(⟨#[x_]⟩:ByteArray).size=1 from fun _=>rfl),(show ∀x_ y_:UInt8,(⟨#[x_,y_]⟩:ByteArray).size=2 from fun _ _=>rfl)]at W
    try have X:=B
    try simp only[ByteArray.size_append,ByteArray.size_extract,(show ∀x_:UInt8,(⟨#[x_]⟩:ByteArray).size=1 from fun _=>rfl),(show ∀x_ y_:UInt8,(⟨#[x_,y_]⟩:ByteArray).size=2 from fun _ _=>rfl)]at X
    obtain rfl:=Option.some.inj H
    go_enter Tryz.func82,Tryz.ntmps82
    try go_wp2_with (first |((with_reducible refine Qfx (N:=1) rfl ?_);refine qq_e 1 #[.bool true,.int .u64 c,.string d,.string l] 37 ?_;intro b hg w7 hbox hb;have n_:=qn4 (Qfn qq_b hb) (hbox) (qq_s hg:w.heap.size≤b) (qq_s hg:w.heap.size≤b);clear HB;obtain⟨HB,a,I,J⟩:=n_;clear hb hbox hg;obtain⟨ac,ad,ae,af⟩:=qc4 a.out;have az:=Qdx a.out))
    have n_:=qn2 (Qej a.out) (Qft HB.out);clear a HB;obtain⟨a,HB⟩:=n_;refine Qgj (n:=9) (S:=fun w'=>w'.cell? ⟨b,0,none⟩=some (.bool true)∧w'.cell? ⟨b,1,none⟩=some (.int .u64 c)∧w'.cell? ⟨b,2,none⟩=some (.string d)∧w'.cell? ⟨b,3,none⟩=some (.string l)) (ds:=[]) (bm 9 0) qq_6 rfl rfl ⟨(Qdw a.out 0).trans rfl,(Qdw a.out 1).trans rfl,(Qdw a.out 2).trans rfl,(Qdw a.out 3).trans rfl⟩ (fun j=>?_);refine Qhy Qbp.tab2 Qbp.bits2 (fun HT_ HW_=>?_);generalize w7.drew=w9 at a HB j ⊢;refine pz_ (i:=0) (N:=some 5) (bm 9 1) (Qhq HT_.out qq_6) ?_;refine pz_ (i:=4) (N:=some 9) (bm 9 17) (Qhq HT_.out qq_6) ?_;refine tz_ (i:=1) (N:=some 6) (bm 9 19) (Qhx HT_.out HW_.out qq_6) j ?_;refine tz_ (i:=5) (N:=some 10) (bm 9 51) (Qhx HT_.out HW_.out qq_6) j ?_;refine one_ (i:=2) (N:=some 7) (bm 9 55) rfl rfl (Qhr HT_.out qq_6) (by decide) (fun K hK=>?_);refine Qgr Tryz.func135 qq_6 rfl #[.int .u64 c] (by rfl) rfl rfl qq_1 ?_;with_reducible refine(Qbh.calls k c p _ A3.out).mono ?_
    rintro e aA ⟨rfl,hb⟩;refine⟨_,rfl,?_⟩;have n_:=qn2 (Qel (g:=b) (o:=.cells #[.bool true,.int .u64 c,.string d,.string l] 37 (0,0)) qq_0 hb) (Qfn qq_b hb);clear a HB;obtain⟨a,HB⟩:=n_
    (try clear hb)
    (try clear hb2)
    (try clear hk)
    (try clear hi)
    refine hK.out _ _ ⟨(Qdw a.out 0).trans rfl,(Qdw a.out 1).trans rfl,(Qdw a.out 2).trans rfl,(Qdw a.out 3).trans rfl⟩ (fun j=>?_);clear hK K;refine nzp_ 7 ?_;refine pz_ (i:=3) (N:=some 8) (bm 9 63) (Qhq HT_.out qq_6) ?_;refine one_ (i:=6) (N:=some 11) (bm 9 127) rfl rfl (Qhr HT_.out qq_6) (by decide) (fun K hK=>?_);refine Qgr Tryz.func136 qq_6 rfl #[.string d] (by rfl) rfl rfl qq_1 ?_;with_reducible refine(Qbi.calls k d s _ A5.out).mono ?_
    rintro e aB ⟨rfl,hb⟩;refine⟨_,rfl,?_⟩;have n_:=qn2 (Qel (g:=b) (o:=.cells #[.bool true,.int .u64 c,.string d,.string l] 37 (0,0)) qq_0 hb) (Qfn qq_b hb);clear a HB;obtain⟨a,HB⟩:=n_
    (try clear hb)
    (try clear hb2)
    (try clear hk)
    (try clear hi)
    refine hK.out _ _ ⟨(Qdw a.out 0).trans rfl,(Qdw a.out 1).trans rfl,(Qdw a.out 2).trans rfl,(Qdw a.out 3).trans rfl⟩ (fun j=>?_);clear hK K;refine nzp_ 11 ?_;refine pz_ (i:=7) (N:=some 12) (bm 9 255) (Qhq HT_.out qq_6) ?_;refine pz_ (i:=8) (N:=some 2) (bm 9 511) (Qhq HT_.out qq_6) ?_;refine Qgn (Qht HT_.out qq_6) ?_
    try go_wp2
    go_ret
    exact⟨qq_3,qq_b⟩
   ·rw[if_neg c6]at H;exact absurd H (by simp)
  ·rw[if_neg c4]at H;exact absurd H (by simp)
 ·replace c2:=Bool.eq_false_iff.mpr c2;subst c2;rw[if_neg (show ¬(false=true)by decide)]at H;replace H:=Option.bind_eq_some_iff.mp H;obtain⟨m,D,H⟩:=H;have ag:=QA D;clear D
  by_cases v:1+m.size≤9223372036854775807
  ·rw[if_pos v]at H;have ak:=eq_true v;have al:=decide_eq_true v
   try have am:(9223372036854775807<1+m.size)=False:=eq_false (Nat.not_lt.2 v)
   replace H:=Option.bind_eq_some_iff.mp H;obtain⟨q,E,H⟩:=H;have ah:=QA E;clear E
   by_cases x:((⟨#[2]⟩:ByteArray)++m).size+q.size≤9223372036854775807
   ·rw[if_pos x]at H;have an:=eq_true x;have ao:=decide_eq_true x
    try have z:(9223372036854775807<((⟨#[2]⟩:ByteArray)++m).size+q.size)=False:=eq_false (Nat.not_lt.2 x)
    try have L:=z
    try simp only[ByteArray.size_append,(show ∀x_:UInt8,(⟨#[x_]⟩:ByteArray).size=1 from fun _=>rfl),(show ∀x_ y_:UInt8,(⟨#[x_,y_]⟩:ByteArray).size=2 from fun _ _=>rfl)]at L
    try have M:=z
    try simp only[ByteArray.size_append,ByteArray.size_extract,(show ∀x_:UInt8,(⟨#[x_]⟩:ByteArray).size=1 from fun _=>rfl),(show ∀x_ y_:UInt8,(⟨#[x_,y_]⟩:ByteArray).size=2 from fun _ _=>rfl)]at M
    replace H:=Option.bind_eq_some_iff.mp H;obtain⟨t,G,H⟩:=H;have ai:=QA G;clear G
    by_cases y:(((⟨#[2]⟩:ByteArray)++m)++q).size+t.size≤9223372036854775807
    ·rw[if_pos y]at H;have ap:=eq_true y;have aq:=decide_eq_true y
     try have A:(9223372036854775807<(((⟨#[2]⟩:ByteArray)++m)++q).size+t.size)=False:=eq_false (Nat.not_lt.2 y)
     try have O:=A
     try simp only[ByteArray.size_append,(show ∀x_:UInt8,(⟨#[x_]⟩:ByteArray).size=1 from fun _=>rfl),(show ∀x_ y_:UInt8,(⟨#[x_,y_]⟩:ByteArray).size=2 from fun _ _=>rfl)]at O
     try have P:=A
     try simp only[ByteArray.size_append,ByteArray.size_extract,(show ∀x_:UInt8,(⟨#[x_]⟩:ByteArray).size=1 from fun _=>rfl),(show ∀x_ y_:UInt8,(⟨#[x_,y_]⟩:ByteArray).size=2 from fun _ _=>rfl)]at P
     obtain rfl:=Option.some.inj H
     go_enter Tryz.func82,Tryz.ntmps82
     try go_wp2_with (first |((with_reducible refine Qfx (N:=1) rfl ?_);refine qq_e 1 #[.bool false,.int .u64 c,.string d,.string l] 37 ?_;intro b hg aj hbox hb;have n_:=qn4 (Qfn qq_b hb) (hbox) (qq_s hg:w.heap.size≤b) (qq_s hg:w.heap.size≤b);clear HB;obtain⟨HB,a,I,J⟩:=n_;clear hb hbox hg;obtain⟨Y,Z,aa,ab⟩:=qc4 a.out;have ar:=Qdx a.out))
     have n_:=qn2 (Qej a.out) (Qft HB.out);clear a HB;obtain⟨a,HB⟩:=n_;refine Qgj (n:=13) (S:=fun w'=>w'.cell? ⟨b,0,none⟩=some (.bool false)∧w'.cell? ⟨b,1,none⟩=some (.int .u64 c)∧w'.cell? ⟨b,2,none⟩=some (.string d)∧w'.cell? ⟨b,3,none⟩=some (.string l)) (ds:=[]) (bm 13 0) qq_6 rfl rfl ⟨(Qdw a.out 0).trans rfl,(Qdw a.out 1).trans rfl,(Qdw a.out 2).trans rfl,(Qdw a.out 3).trans rfl⟩ (fun j=>?_);refine Qhy Qbp.tab3 Qbp.bits3 (fun HT_ HW_=>?_);generalize aj.drew=w20 at a HB j ⊢;refine pz_ (i:=0) (N:=some 13) (bm 13 1) (Qhq HT_.out qq_6) ?_;refine pz_ (i:=4) (N:=some 17) (bm 13 17) (Qhq HT_.out qq_6) ?_;refine pz_ (i:=8) (N:=some 21) (bm 13 273) (Qhq HT_.out qq_6) ?_;refine tz_ (i:=1) (N:=some 14) (bm 13 275) (Qhx HT_.out HW_.out qq_6) j ?_;refine tz_ (i:=5) (N:=some 18) (bm 13 307) (Qhx HT_.out HW_.out qq_6) j ?_;refine tz_ (i:=9) (N:=some 22) (bm 13 819) (Qhx HT_.out HW_.out qq_6) j ?_;refine one_ (i:=2) (N:=some 15) (bm 13 823) rfl rfl (Qhr HT_.out qq_6) (by decide) (fun K hK=>?_);refine Qgr Tryz.func135 qq_6 rfl #[.int .u64 c] (by rfl) rfl rfl qq_1 ?_;with_reducible refine(Qbh.calls k c m _ ag.out).mono ?_
     rintro e aC ⟨rfl,hb⟩;refine⟨_,rfl,?_⟩;have n_:=qn2 (Qel (g:=b) (o:=.cells #[.bool false,.int .u64 c,.string d,.string l] 37 (0,0)) qq_0 hb) (Qfn qq_b hb);clear a HB;obtain⟨a,HB⟩:=n_
     (try clear hb)
     (try clear hb2)
     (try clear hk)
     (try clear hi)
     refine hK.out _ _ ⟨(Qdw a.out 0).trans rfl,(Qdw a.out 1).trans rfl,(Qdw a.out 2).trans rfl,(Qdw a.out 3).trans rfl⟩ (fun j=>?_);clear hK K;refine nzp_ 15 ?_;refine pz_ (i:=3) (N:=some 16) (bm 13 831) (Qhq HT_.out qq_6) ?_;refine one_ (i:=6) (N:=some 19) (bm 13 895) rfl rfl (Qhr HT_.out qq_6) (by decide) (fun K hK=>?_);refine Qgr Tryz.func136 qq_6 rfl #[.string d] (by rfl) rfl rfl qq_1 ?_;with_reducible refine(Qbi.calls k d q _ ah.out).mono ?_
     rintro e aD ⟨rfl,hb⟩;refine⟨_,rfl,?_⟩;have n_:=qn2 (Qel (g:=b) (o:=.cells #[.bool false,.int .u64 c,.string d,.string l] 37 (0,0)) qq_0 hb) (Qfn qq_b hb);clear a HB;obtain⟨a,HB⟩:=n_
     (try clear hb)
     (try clear hb2)
     (try clear hk)
     (try clear hi)
     refine hK.out _ _ ⟨(Qdw a.out 0).trans rfl,(Qdw a.out 1).trans rfl,(Qdw a.out 2).trans rfl,(Qdw a.out 3).trans rfl⟩ (fun j=>?_);clear hK K;refine nzp_ 19 ?_;refine pz_ (i:=7) (N:=some 20) (bm 13 1023) (Qhq HT_.out qq_6) ?_;refine one_ (i:=10) (N:=some 23) (bm 13 2047) rfl rfl (Qhr HT_.out qq_6) (by decide) (fun K hK=>?_);refine Qgr Tryz.func136 qq_6 rfl #[.string l] (by rfl) rfl rfl qq_1 ?_;with_reducible refine(Qbi.calls k l t _ ai.out).mono ?_
     rintro e aE ⟨rfl,hb⟩;refine⟨_,rfl,?_⟩;have n_:=qn2 (Qel (g:=b) (o:=.cells #[.bool false,.int .u64 c,.string d,.string l] 37 (0,0)) qq_0 hb) (Qfn qq_b hb);clear a HB;obtain⟨a,HB⟩:=n_
     (try clear hb)
     (try clear hb2)
     (try clear hk)
     (try clear hi)
     refine hK.out _ _ ⟨(Qdw a.out 0).trans rfl,(Qdw a.out 1).trans rfl,(Qdw a.out 2).trans rfl,(Qdw a.out 3).trans rfl⟩ (fun j=>?_);clear hK K;refine nzp_ 23 ?_;refine pz_ (i:=11) (N:=some 24) (bm 13 4095) (Qhq HT_.out qq_6) ?_;refine pz_ (i:=12) (N:=some 2) (bm 13 8191) (Qhq HT_.out qq_6) ?_;refine Qgn (Qht HT_.out qq_6) ?_
     try go_wp2
     go_ret
     exact⟨qq_3,qq_b⟩
    ·rw[if_neg y]at H;exact absurd H (by simp)
   ·rw[if_neg x]at H;exact absurd H (by simp)
  ·rw[if_neg v]at H;exact absurd H (by simp)
def Qbr.f(k:Nat)(a0:ByteArray):Option (ByteArray):=(Qbj.f k 0 a0).bind fun t145=>((Qbf.f k t145 8).bind fun t146=>(if a0.size+t146.size≤9223372036854775807 then((Qbo.f k (a0++t146)).bind fun t147=>(if t147.size+1≤9223372036854775807 then(some (t147++(⟨#[0]⟩:ByteArray)))else(none)))else(none)))
theorem Qbr.calls(k:Nat)(a0:ByteArray)(r:ByteArray)(w:World)(h:Qbr.f k a0=some r) :
  Calls Tryz.prog 81 #[.string a0] w fun e w'=>e=.returned (.string r)∧Below w.heap.size w w':=by
 have HB:=QA (Below.refl w.heap.size w);have H:((Qbj.f k 0 a0).bind fun c=>((Qbf.f k c 8).bind fun a=>(if a0.size+a.size≤9223372036854775807 then((Qbo.f k (a0++a)).bind fun b=>(if b.size+1≤9223372036854775807 then(some (b++(⟨#[0]⟩:ByteArray)))else(none)))else(none))))=some r:=h;clear h;replace H:=Option.bind_eq_some_iff.mp H;obtain⟨c,d,H⟩:=H;have A2:=QA d;clear d;replace H:=Option.bind_eq_some_iff.mp H;obtain⟨a,g,H⟩:=H;have A3:=QA g;clear g
 by_cases c4:a0.size+a.size≤9223372036854775807
 ·rw[if_pos c4]at H;have l:=eq_true c4;have m:=decide_eq_true c4
  try have n:(9223372036854775807<a0.size+a.size)=False:=eq_false (Nat.not_lt.2 c4)
  replace H:=Option.bind_eq_some_iff.mp H;obtain⟨b,j,H⟩:=H;have A5:=QA j;clear j
  by_cases c6:b.size+1≤9223372036854775807
  ·rw[if_pos c6]at H;have o:=eq_true c6;have p:=decide_eq_true c6
   try have q:(9223372036854775807<b.size+1)=False:=eq_false (Nat.not_lt.2 c6)
   obtain rfl:=Option.some.inj H
   go_enter Tryz.func81,Tryz.ntmps81
   go_wp2_with (first |((with_reducible refine Qiu (f:=134) rfl ?_);refine Qgs (some 5) rfl rfl Tryz.func134 qq_6 rfl #[.int .u64 0,.string a0] rfl qq_1 ?_;(with_reducible refine(Qbj.calls k 0 a0 c _ A2.out).mono ?_);rintro e w7 ⟨rfl,hb⟩;refine⟨_,rfl,?_⟩;have n_:=qn1 (Qfn qq_b hb);clear HB;have HB:=n_;clear n_;(try clear hb);(try clear hb2);(try clear hk);(try clear hi)) |((with_reducible refine Qiu (f:=133) rfl ?_);refine Qgs (some 6) rfl rfl Tryz.func133 qq_6 rfl #[.int .u64 c,.int .i64 8] rfl qq_1 ?_;(with_reducible refine(Qbf.calls k c 8 a _ A3.out).mono ?_);rintro e w8 ⟨rfl,hb⟩;refine⟨_,rfl,?_⟩;have n_:=qn1 (Qfn qq_b hb);clear HB;have HB:=n_;clear n_;(try clear hb);(try clear hb2);(try clear hk);(try clear hi)) |((with_reducible refine Qiu (f:=132) rfl ?_);refine Qgs (some 8) rfl rfl Tryz.func132 qq_6 rfl #[.string (a0++a)] rfl qq_1 ?_;(with_reducible refine(Qbo.calls k (a0++a) b _ A5.out).mono ?_);rintro e w9 ⟨rfl,hb⟩;refine⟨_,rfl,?_⟩;have n_:=qn1 (Qfn qq_b hb);clear HB;have HB:=n_;clear n_;(try clear hb);(try clear hb2);(try clear hk);(try clear hi)))
   go_ret
   exact⟨qq_3,qq_b⟩
  ·rw[if_neg c6]at H;exact absurd H (by simp)
 ·rw[if_neg c4]at H;exact absurd H (by simp)
def Qbq.f(k:Nat)(a0_0:Bool)(a0_1:Int)(a0_2:ByteArray)(a0_3:ByteArray):Option (ByteArray):=(Qbp.f k a0_0 a0_1 a0_2 a0_3).bind fun t162=>((Qbr.f k t162).bind fun t163=>(some t163))
theorem Qbq.calls(k:Nat)(a:Bool)(b:Int)(c:ByteArray)(d:ByteArray)(r:ByteArray)(w:World)(h:Qbq.f k a b c d=some r) :
  Calls Tryz.prog 37 #[.agg #[.bool a,.int .u64 b,.string c,.string d]] w fun e w'=>e=.returned (.string r)∧Below w.heap.size w w':=by
 have hu37:=Tryz.underlying37;have HB:=QA (Below.refl w.heap.size w);have H:((Qbp.f k a b c d).bind fun m=>((Qbr.f k m).bind fun n=>(some n)))=some r:=h;clear h;replace H:=Option.bind_eq_some_iff.mp H;obtain⟨m,p,H⟩:=H;have A2:=QA p;clear p;replace H:=Option.bind_eq_some_iff.mp H;obtain⟨n,q,H⟩:=H;have A3:=QA q;clear q;obtain rfl:=Option.some.inj H
 go_enter Tryz.func37,Tryz.ntmps37
 go_wp2_with (first |((with_reducible refine Qfx (N:=1) rfl ?_);refine qq_e 1 #[.bool a,.int .u64 b,.string c,.string d] 37 ?_;intro l hg w4 hbox hb;have n_:=qn4 (Qfn qq_b hb) (hbox) (qq_s hg:w.heap.size≤l) (qq_s hg:w.heap.size≤l);clear HB;obtain⟨HB,j,x,y⟩:=n_;clear hb hbox hg;obtain⟨s,t,u,v⟩:=qc4 j.out;have z:=Qdx j.out) |((with_reducible refine Qiu (f:=82) rfl ?_);refine Qgs (some 4) rfl rfl Tryz.func82 qq_6 rfl #[.agg #[.bool a,.int .u64 b,.string c,.string d]] rfl qq_1 ?_;(with_reducible refine(Qbp.calls k a b c d m _ A2.out).mono ?_);rintro e w6 ⟨rfl,hb⟩;refine⟨_,rfl,?_⟩;have n_:=qn2 (Qel (g:=l) (o:=.cells #[.bool a,.int .u64 b,.string c,.string d] 37 (0,0)) qq_0 hb) (Qfn qq_b hb);clear j HB;obtain⟨j,HB⟩:=n_;(try clear hb);(try clear hb2);(try clear hk);(try clear hi)) |((with_reducible refine Qiu (f:=81) rfl ?_);refine Qgs (some 5) rfl rfl Tryz.func81 qq_6 rfl #[.string m] rfl qq_1 ?_;(with_reducible refine(Qbr.calls k m n _ A3.out).mono ?_);rintro e w7 ⟨rfl,hb⟩;refine⟨_,rfl,?_⟩;have n_:=qn2 (Qel (g:=l) (o:=.cells #[.bool a,.int .u64 b,.string c,.string d] 37 (0,0)) qq_0 hb) (Qfn qq_b hb);clear j HB;obtain⟨j,HB⟩:=n_;(try clear hb);(try clear hb2);(try clear hk);(try clear hi)))
 go_ret
 exact⟨qq_3,qq_b⟩
def fascicleref09_Head.T1:Bool × List (List Nat × List Nat):=(true,[([],[]),([0],[0]),([1],[1]),([2],[2]),([3],[3]),([],[]),([5],[5]),([6],[6]),([7],[7]),([4,8],[4,8]),([],[]),([10,8],[10]),([9,11],[9,11]),([12,11],[12]),([13,13,0,1,2,3,4,5,6,7,8,9,10,11,12,13],[13])])
def fascicleref09_Head.B1:List Nat:=[0,1,3,7,15,0,32,96,224,511,0,1504,4095,8191,16383]
def fascicleref14_Empty.T1:Bool × List (List Nat × List Nat):=(true,[([],[]),([],[]),([],[]),([],[]),([2,3],[2,3]),([4],[4]),([0,1,5],[0,1,5]),([6,4,0,1,2,3,4,5,6],[6])])
def fascicleref14_Empty.B1:List Nat:=[0,0,0,0,12,28,63,127]
def fascicleref13_Text.T1:Bool × List (List Nat × List Nat):=(true,[([],[]),([0],[0]),([1],[1]),([2],[2]),([3],[3]),([4],[4]),([],[]),([6],[6]),([7],[7]),([8,4],[8]),([5,9],[5,9]),([10,9,0,1,2,3,4,5,6,7,8,9,10],[10])])
def fascicleref13_Text.B1:List Nat:=[0,1,3,7,15,31,0,64,192,479,1023,2047]
def fascicleref13_Text.T2:Bool × List (List Nat × List Nat):=(true,[([],[]),([],[]),([1],[1]),([2],[2]),([0,3],[0,3]),([],[]),([5],[5]),([6,3],[6]),([7,7],[7]),([4,8],[4,8]),([9,8],[9]),([10,10,0,1,2,3,4,5,6,7,8,9,10],[10])])
def fascicleref13_Text.B2:List Nat:=[0,0,2,6,15,0,32,110,238,511,1023,2047]
end Go.Proofs.YteaocbonofboeaaGreat.C
end
section
namespace Go.Proofs.YteaocbonofboeaaGreat.C
open Go.RowKit Go.Proofs.YteaocbonofboeaaGreatW.PrintWords Go.Proofs.YteaocbonofboeaaGreatW.PrintLast Go.Proofs.YteaocbonofboeaaGreatW.PrintMore
attribute [local go_sem] Qim Qin Qio Qip Qiq Qir Qis Qit
attribute [local go_sem high] eqA37
def Qaa.l0:Nat→List (S37)→Int→Int→Bool→Int→ByteArray→ByteArray→Option (Int)
 | 0,_,_,_,_,_,_,_=>none
 | k+1,x0,x7,x8,x380000,x380001,x380002,x380003=>if x8<x7 then(if 0≤x8 then(if x8<(x0.length:Int)then(if(x380000 == ((Qjh x0 x8).f0) && (x380001 == ((Qjh x0 x8).f1) && (x380002.toList == (((Qjh x0 x8).f2).toList) && (x380003.toList == (((Qjh x0 x8).f3).toList)))))=true then(some x8)else(Qaa.l0 k x0 x7 (wrap64 (x8+1)) x380000 x380001 x380002 x380003))else(none))else(none))else(some (-1))
def Qaa.f(k:Nat)(l0:List (S37))(a1_0:Bool)(a1_1:Int)(a1_2:ByteArray)(a1_3:ByteArray):Option (Int):=Qaa.l0 k l0 (l0.length:Int) 0 a1_0 a1_1 a1_2 a1_3
theorem Qaa.calls(k:Nat)(A0:Option Addr)(c0:Nat)(l0:List (S37))(b:Bool)(c:Int)(d:ByteArray)(g:ByteArray)(r:Int)(w:World)(hr0:Kd.C k37 w A0 l0.length l0)(hc0:l0.length≤c0)(h:Qaa.f k l0 b c d g=some r) :
  Calls Tryz.prog 86 #[.slice A0 l0.length c0,.agg #[.bool b,.int .u64 c,.string d,.string g]] w fun e w'=>e=.returned (.int .i64 r)∧Below w.heap.size w w':=by
 have hu37:=Tryz.underlying37;have y:=QA hr0;have Y:=QA hc0;clear hr0 hc0;have HB:=QA (Below.refl w.heap.size w);have H:(Qaa.l0 k l0 (l0.length:Int) 0 b c d g)=some r:=h;clear h;have H':=QA H;clear H
 go_enter Tryz.func86,Tryz.ntmps86
 go_wp2_with (first |((with_reducible refine Qfx (N:=3) rfl ?_);refine qq_e 3 #[.bool b,.int .u64 c,.string d,.string g] 37 ?_;intro j hg w3 hbox hb;have n_:=qn4 (Qfn qq_b hb) (hbox) (qq_s hg:w.heap.size≤j) (qq_s hg:w.heap.size≤j);clear HB;obtain⟨HB,l,u,v⟩:=n_;clear hb hbox hg))
 repeat(go_quiet (first |((with_reducible refine Qfx (N:=3) rfl ?_);refine qq_e 3 #[.bool b,.int .u64 c,.string d,.string g] 37 ?_;intro j hg w3 hbox hb;have n_:=qn4 (Qfn qq_b hb) (hbox) (qq_s hg:w.heap.size≤j) (qq_s hg:w.heap.size≤j);clear HB;obtain⟨HB,l,u,v⟩:=n_;clear hb hbox hg));try go_wp2_with (first |((with_reducible refine Qfx (N:=3) rfl ?_);refine qq_e 3 #[.bool b,.int .u64 c,.string d,.string g] 37 ?_;intro j hg w3 hbox hb;have n_:=qn4 (Qfn qq_b hb) (hbox) (qq_s hg:w.heap.size≤j) (qq_s hg:w.heap.size≤j);clear HB;obtain⟨HB,l,u,v⟩:=n_;clear hb hbox hg)))
 go_loopg [8] k (fun kq v8 w'=>∃(a:Int),v8=.int .i64 a∧Aside0 (Qaa.l0 kq l0 (l0.length:Int) a b c d g=some r)∧Aside0 (kq≤k)∧Aside0 (w'.heap[j]? = some (.cells #[.bool b,.int .u64 c,.string d,.string g] 37 (0,0)))∧Aside0 (Below w.heap.size w w'))
 case atStart=>exact⟨(0),qq_4,H',⟨Nat.le_refl _⟩,⟨by(with_reducible repeat(first|apply Qek|apply Qej|apply Qei));exact l.out⟩,⟨qq_b⟩⟩
 case round =>
  clear H';obtain⟨a,rfl,HA,HK1,l,HB⟩:=hrel
  cases gk with
  | zero=>exact absurd HA.out (by simp[Qaa.l0])
  | succ k1 =>
   have H:=HA.out;clear HA;simp only[Qaa.l0]at H
   by_cases c4:a<(l0.length:Int)
   ·rw [if_pos c4]at H;have z:=decide_eq_true c4;clear c4
    by_cases c5:0≤a
    ·rw[if_pos c5]at H;have P:=decide_eq_true c5;clear c5
     by_cases c6:a<(l0.length:Int)
     ·rw[if_pos c6]at H;have T:=decide_eq_true c6;clear c6
      by_cases c7:(b == ((Qjh l0 a).f0) && (c == ((Qjh l0 a).f1) && (d.toList == (((Qjh l0 a).f2).toList) && (g.toList == (((Qjh l0 a).f3).toList)))))=true
      ·rw[if_pos c7]at H;have A:(b == ((Qjh l0 a).f0) && (c == ((Qjh l0 a).f1) && (d.toList == (((Qjh l0 a).f2).toList) && (g.toList == (((Qjh l0 a).f3).toList)))))=true:=c7
       (try(have B:decide (b=((Qjh l0 a).f0) && (c == ((Qjh l0 a).f1) && (d.toList == (((Qjh l0 a).f2).toList) && (g.toList == (((Qjh l0 a).f3).toList)))))=true:=by simpa using c7))
       (try(have D:(b == ((Qjh l0 a).f0) && (c == ((Qjh l0 a).f1) && (d.toList == (((Qjh l0 a).f2).toList) && (g.toList == (((Qjh l0 a).f3).toList)))))=true:=by simpa using c7))
       clear c7;obtain rfl:=Option.some.inj H;obtain⟨E,G,I,J⟩:=qc4 l.out;have U:=Qdx l.out;have q:0≤(a:Int):=of_decide_eq_true qq_2;have s:a<(l0.length:Int):=of_decide_eq_true qq_2;obtain⟨x,t,m,n,o,p⟩:=Qji y.out a q s
       cases t
       replace m:=qq_h HB.out m;replace n:=qq_h HB.out n;replace o:=qq_h HB.out o;replace p:=qq_h HB.out p;replace q:=eq_true q;replace s:=eq_true s;go_wp2
       repeat(go_quiet (fail);try go_wp2)
       go_ret
       exact⟨qq_3,qq_b⟩
      ·rw[if_neg c7]at H;have A:(b == ((Qjh l0 a).f0) && (c == ((Qjh l0 a).f1) && (d.toList == (((Qjh l0 a).f2).toList) && (g.toList == (((Qjh l0 a).f3).toList)))))=false:=by simpa using c7
       (try(have B:decide (b=((Qjh l0 a).f0) && (c == ((Qjh l0 a).f1) && (d.toList == (((Qjh l0 a).f2).toList) && (g.toList == (((Qjh l0 a).f3).toList)))))=false:=by simpa using c7))
       (try(have D:(b == ((Qjh l0 a).f0) && (c == ((Qjh l0 a).f1) && (d.toList == (((Qjh l0 a).f2).toList) && (g.toList == (((Qjh l0 a).f3).toList)))))=false:=by simpa using c7))
       (try(have W:¬(b=((Qjh l0 a).f0) && (c == ((Qjh l0 a).f1) && (d.toList == (((Qjh l0 a).f2).toList) && (g.toList == (((Qjh l0 a).f3).toList))))):=by simpa using c7))
       clear c7;have H':=QA H;clear H;obtain⟨K,L,M,O⟩:=qc4 l.out;have X:=Qdx l.out;have q:0≤(a:Int):=of_decide_eq_true qq_2;have s:a<(l0.length:Int):=of_decide_eq_true qq_2;obtain⟨x,t,m,n,o,p⟩:=Qji y.out a q s
       cases t
       replace m:=qq_h HB.out m;replace n:=qq_h HB.out n;replace o:=qq_h HB.out o;replace p:=qq_h HB.out p;replace q:=eq_true q;replace s:=eq_true s;go_wp2
       repeat(go_quiet (fail);try go_wp2)
       go_roundg k1
       case measure=>have:=HK1.out;omega
       case rel=>exact⟨(wrap64 (a+1)),qq_4,H',⟨by have:=HK1.out;omega⟩,⟨by(with_reducible repeat(first|apply Qek|apply Qej|apply Qei));exact l.out⟩,⟨qq_b⟩⟩
     ·rw[if_neg c6]at H;exact absurd H (by simp)
    ·rw[if_neg c5]at H;exact absurd H (by simp)
   ·rw[if_neg c4]at H;have z:=decide_eq_false c4;clear c4;obtain rfl:=Option.some.inj H;go_wp2
    repeat(go_quiet (fail);try go_wp2)
    go_ret
    exact⟨qq_3,qq_b⟩
end Go.Proofs.YteaocbonofboeaaGreat.C
end
section
namespace Go.Proofs.YteaocbonofboeaaGreat.C
open Go.RowKit Go.Proofs.YteaocbonofboeaaGreatW.PrintWords Go.Proofs.YteaocbonofboeaaGreatW.PrintLast Go.Proofs.YteaocbonofboeaaGreatW.PrintMore
attribute [local go_sem] Qim Qin Qio Qip Qiq Qir Qis Qit
def Qau.l0:Nat→List (S37)→List (S37)→Int→Int→Option (Bool)
 | 0,_,_,_,_=>none
 | k+1,x1,x8,x9,x10=>if x10<x9 then(if 0≤x10 then(if x10<(x8.length:Int)then((Qaa.f k x1 ((Qjh x8 x10).f0) ((Qjh x8 x10).f1) ((Qjh x8 x10).f2) ((Qjh x8 x10).f3)).bind fun t383=>(if t383<0 then(some false)else(if 0≤(wrap64 (t383+1))then(if(wrap64 (t383+1))≤(x1.length:Int)then(Qau.l0 k (x1.drop ((wrap64 (t383+1)):Int).toNat) x8 x9 (wrap64 (x10+1)))else(none))else(none))))else(none))else(none))else(some true)
def Qau.f(k:Nat)(l0:List (S37))(l1:List (S37)):Option (Bool):=Qau.l0 k l1 l0 (l0.length:Int) 0
theorem Qau.calls (k:Nat) (A0:Option Addr) (c0:Nat) (l0:List (S37)) (P1_:Nat→Prop) (A1:Option Addr) (c1:Nat) (l1:List (S37)) (r:Bool) (w:World) (hr0:Kd.C k37 w A0 l0.length l0) (hc0:l0.length≤c0) (hs1:Kd.V k37 37 w w.heap.size (fun k_=>P1_ k_) (.slice A1 l1.length c1) l1) (h:Qau.f k l0 l1=some r) :
  Calls Tryz.prog 44 #[.slice A0 l0.length c0,.slice A1 l1.length c1] w fun e w'=>e=.returned (.bool r)∧Below w.heap.size w w':=by
 have hu37:=Tryz.underlying37;have O:=QA hr0;have ax:=QA hc0;clear hr0 hc0;have ae:=QA (show Kd.V k37 37 w w.heap.size (fun k_=>(P1_ k_∨w.heap.size≤k_)) (.slice A1 l1.length c1) l1 from Kd.V_mono hs1 (fun k_ hk=>.inl hk));have HB:=QA (Below.refl w.heap.size w);have H:(Qau.l0 k l1 l0 (l0.length:Int) 0)=some r:=h;clear h;have H':=QA H;clear H
 go_enter Tryz.func44,Tryz.ntmps44
 go_wp2
 go_loopg [1,10] k (fun kq v1 af w'=>∃(a:List (S37)) (x10_1:Int),af=.int .i64 x10_1∧Aside0 (Qau.l0 kq a l0 (l0.length:Int) x10_1=some r)∧Aside0 (kq≤k)∧Aside0 (Kd.V k37 37 w' w.heap.size (fun k_=>(P1_ k_∨w.heap.size≤k_)) v1 a)∧Aside0 (Below w.heap.size w w'))
 case atStart=>exact⟨(l1),(0),qq_4,H',⟨Nat.le_refl _⟩,⟨by(with_reducible repeat(first|apply Kd.V_alloc|apply Kd.V_drewN|apply Kd.V_drew));exact ae.out⟩,⟨qq_b⟩⟩
 case round =>
  clear H'
  try clear c1
  obtain⟨a,x10_1,rfl,HA,HK1,HO_1,HB⟩:=hrel
  cases gk with
  | zero=>exact absurd HA.out (by simp[Qau.l0])
  | succ k1 =>
   have H:=HA.out;clear HA;simp only[Qau.l0]at H
   by_cases c3:x10_1<(l0.length:Int)
   ·rw [if_pos c3]at H;have X:=decide_eq_true c3;clear c3
    by_cases c4:0≤x10_1
    ·rw [if_pos c4]at H;have ar:=decide_eq_true c4;clear c4
     by_cases c5:x10_1<(l0.length:Int)
     ·rw [if_pos c5]at H;have au:=decide_eq_true c5;clear c5;replace H:=Option.bind_eq_some_iff.mp H;obtain⟨y,T,H⟩:=H;have A6:=QA T;clear T
      by_cases c7:y<0
      ·rw[if_pos c7]at H;have Y:=decide_eq_true c7;clear c7;obtain rfl:=Option.some.inj H;have t:0≤(x10_1:Int):=of_decide_eq_true qq_2;have u:x10_1<(l0.length:Int):=of_decide_eq_true qq_2;obtain⟨J,D,j,l,p,q⟩:=Qji O.out x10_1 t u
       cases D
       replace j:=qq_h HB.out j;replace l:=qq_h HB.out l;replace p:=qq_h HB.out p;replace q:=qq_h HB.out q;replace t:=eq_true t;replace u:=eq_true u
       go_wp2_with (first |((with_reducible refine Qfx (N:=6) rfl ?_);refine qq_e 6 #[.bool false,.int .u64 0,.string (⟨#[]⟩:ByteArray),.string (⟨#[]⟩:ByteArray)] 37 ?_;intro gb382 hg w8 hbox hb;have n_:=qn5 (Kd.V_below (Kd.V_elderB (by(with_reducible repeat(first|apply Kd.V_alloc|apply Kd.V_drewN|apply Kd.V_drew));exact HO_1.out) gb382 (Nat.le_of_eq hg.symm)) hb) (Qfn qq_b hb) (hbox) (qq_s hg:w.heap.size≤gb382) (qq_s hg:w.heap.size≤gb382);clear HO_1 HB;obtain⟨HO_1,HB,d,K,L⟩:=n_;clear hb hbox hg;obtain⟨ag,ah,ai,aj⟩:=qc4 d.out;have av:=Qdx d.out;obtain⟨Ao10,co10,eo10⟩:=Kd.V_slice HO_1.out;subst eo10) |((with_reducible refine Qiu (f:=86) rfl ?_);refine Qgs (some 16) rfl rfl Tryz.func86 qq_6 rfl #[.slice Ao10 a.length co10,.agg #[.bool ((Qjh l0 x10_1).f0),.int .u64 ((Qjh l0 x10_1).f1),.string ((Qjh l0 x10_1).f2),.string ((Qjh l0 x10_1).f3)]] rfl qq_1 ?_;(with_reducible refine(Qaa.calls k1 _ _ a ((Qjh l0 x10_1).f0) ((Qjh l0 x10_1).f1) ((Qjh l0 x10_1).f2) ((Qjh l0 x10_1).f3) y _ ?side1 ?side2 A6.out).mono ?_);(case side1=>refine(Kd.V_reads' (e:=37) (base:=w.heap.size) (ok:=fun k_=>((P1_ k_∨w.heap.size≤k_)∧k_≠gb382)) (n:=a.length) (c:=co10) ?_).2.2;exact qq_9);(case side2=>exact(Kd.V_reads' HO_1.out).2.1);rintro e ay ⟨rfl,hb⟩;refine⟨_,rfl,?_⟩;have n_:=qn3 (Kd.V_below qq_9 hb) (Qel (g:=gb382) (o:=.cells #[.bool ((Qjh l0 x10_1).f0),.int .u64 ((Qjh l0 x10_1).f1),.string ((Qjh l0 x10_1).f2),.string ((Qjh l0 x10_1).f3)] 37 (0,0)) qq_x hb) (Qfn qq_b hb);clear HO_1 d HB;obtain⟨HO_1,d,HB⟩:=n_;(try clear hb);(try clear hb2);(try clear hk);(try clear hi)))
       go_ret
       exact⟨qq_3,qq_b⟩
      ·rw[if_neg c7]at H;have Y:=decide_eq_false c7;clear c7;obtain⟨b,x⟩:∃j_:Int,(wrap64 (y+1))=j_:=⟨_,rfl⟩;replace H:(if 0≤(b)then(if(b)≤(a.length:Int)then(Qau.l0 k1 (a.drop ((b):Int).toNat) l0 (l0.length:Int) (wrap64 (x10_1+1)))else(none))else(none))=some r:=by first |(rw[x]at H;exact H) |(simp only[x]at H ⊢;exact H)
       (try rw[x]at A6)
       have ak:(IntKind.i64.wrap (y+1))=b:=(Qgu _).trans x
       by_cases A:0≤(b)
       ·rw[if_pos A]at H;have al:=eq_true A;have am:=decide_eq_true A;clear A
        by_cases B:(b)≤(a.length:Int)
        ·rw[if_pos B]at H;have an:=eq_true B;have ao:=decide_eq_true B;clear B;obtain⟨s,v⟩:∃y_:List (S37),y_=(a.drop ((b):Int).toNat):=⟨_,rfl⟩;replace H:(Qau.l0 k1 s l0 (l0.length:Int) (wrap64 (x10_1+1)))=some r:=by first |(rw[v];with_reducible exact H) |(have G:=(Option.bind_some _ _).symm.trans H;rw[v];with_reducible exact G) |(have G:=(Option.bind_some _ _).symm.trans H;with_reducible exact G)|with_reducible exact H |(rw[v];exact H)|exact H
         have E:=QA v;clear v;have H':=QA H;clear H;have t:0≤(x10_1:Int):=of_decide_eq_true qq_2;have u:x10_1<(l0.length:Int):=of_decide_eq_true qq_2;obtain⟨J,D,j,l,p,q⟩:=Qji O.out x10_1 t u
         cases D
         replace j:=qq_h HB.out j;replace l:=qq_h HB.out l;replace p:=qq_h HB.out p;replace q:=qq_h HB.out q;replace t:=eq_true t;replace u:=eq_true u
         go_wp2_with (first |((with_reducible refine Qfx (N:=6) rfl ?_);refine qq_e 6 #[.bool false,.int .u64 0,.string (⟨#[]⟩:ByteArray),.string (⟨#[]⟩:ByteArray)] 37 ?_;intro gb382 hg az hbox hb;have n_:=qn5 (Kd.V_below (Kd.V_elderB (by(with_reducible repeat(first|apply Kd.V_alloc|apply Kd.V_drewN|apply Kd.V_drew));exact HO_1.out) gb382 (Nat.le_of_eq hg.symm)) hb) (Qfn qq_b hb) (hbox) (qq_s hg:w.heap.size≤gb382) (qq_s hg:w.heap.size≤gb382);clear HO_1 HB;obtain⟨HO_1,HB,d,K,L⟩:=n_;clear hb hbox hg;obtain⟨aa,ab,ac,ad⟩:=qc4 d.out;have ap:=Qdx d.out;obtain⟨Ao17,co17,eo17⟩:=Kd.V_slice HO_1.out;subst eo17) |((with_reducible refine Qiu (f:=86) rfl ?_);refine Qgs (some 16) rfl rfl Tryz.func86 qq_6 rfl #[.slice Ao17 a.length co17,.agg #[.bool ((Qjh l0 x10_1).f0),.int .u64 ((Qjh l0 x10_1).f1),.string ((Qjh l0 x10_1).f2),.string ((Qjh l0 x10_1).f3)]] rfl qq_1 ?_;(with_reducible refine(Qaa.calls k1 _ _ a ((Qjh l0 x10_1).f0) ((Qjh l0 x10_1).f1) ((Qjh l0 x10_1).f2) ((Qjh l0 x10_1).f3) y _ ?side1 ?side2 A6.out).mono ?_);(case side1=>refine(Kd.V_reads' (e:=37) (base:=w.heap.size) (ok:=fun k_=>((P1_ k_∨w.heap.size≤k_)∧k_≠gb382)) (n:=a.length) (c:=co17) ?_).2.2;exact qq_9);(case side2=>exact(Kd.V_reads' HO_1.out).2.1);rintro e aA ⟨rfl,hb⟩;refine⟨_,rfl,?_⟩;have n_:=qn3 (Kd.V_below qq_9 hb) (Qel (g:=gb382) (o:=.cells #[.bool ((Qjh l0 x10_1).f0),.int .u64 ((Qjh l0 x10_1).f1),.string ((Qjh l0 x10_1).f2),.string ((Qjh l0 x10_1).f3)] 37 (0,0)) qq_x hb) (Qfn qq_b hb);clear HO_1 d HB;obtain⟨HO_1,d,HB⟩:=n_;(try clear hb);(try clear hb2);(try clear hk);(try clear hi);have I:((b):Int)≤((a.length:Int):Int):=of_decide_eq_true qq_2;obtain⟨aw,hi019,_,hsz19,_⟩:=info_parts Qjd;have hroom19:a.length≤co17:=(Kd.V_reads' HO_1.out).2.1;have hC19:Kd.F k37 _ _ Ao17 a.length a:=(Kd.V_at (base:=w.heap.size) HO_1.out).2.2;have Z:(0:Int)≤((b):Int):=of_decide_eq_true qq_2;have hcut19:=Qez (P:=Tryz.prog) 22 37 .i64 Tryz.underlying22 hi019 4 hsz19 Ao17 a.length co17 (b) Z I;have hr19:=Kd.F_cut (m:=((b):Int).toNat) (c:=co17) hC19 (by omega) hroom19;obtain⟨U,hA19⟩:∃A1,A1=(if co17=((b):Int).toNat then Ao17 else(Ao17:Option Addr).map (·.add (((b):Int).toNat*4))):=⟨_,rfl⟩;obtain⟨W,hc19⟩:∃c1,c1=co17-((b):Int).toNat:=⟨_,rfl⟩;have z:s.length=a.length-((b):Int).toNat:=(by rw[E.out,List.length_drop]<;>omega);rw[show(a).drop ((b):Int).toNat=s from E.out.symm]at hr19;replace hr19:Kd.F k37 _ _ U s.length s:=(by rw[hA19];exact hr19);rw[← z,← hA19,← hc19]at hcut19;have M:=QA (show Kd.V k37 37 _ w.heap.size _ (.slice U s.length W) s from Kd.V_mk (by rw[z,hc19];exact Nat.sub_le_sub_right hroom19 _) hr19);have aq:=QA (show s.length≤W from by rw[z,hc19];exact Nat.sub_le_sub_right hroom19 _);clear hr19 hC19 hroom19 hi019 hsz19 hc19;have KY19:=QA z;have KA19:=QA hA19;clear z hA19;replace I:=eq_true I))
         go_roundg k1
         case measure=>have:=HK1.out;omega
         case rel=>exact⟨(s),(wrap64 (x10_1+1)),qq_4,H',⟨by have:=HK1.out;omega⟩,⟨by(with_reducible repeat(first|apply Kd.V_alloc|apply Kd.V_drewN|apply Kd.V_drew));exact Kd.V_mono M.out (fun _ hk=>hk.1)⟩,⟨qq_b⟩⟩
        ·rw[if_neg B]at H;exact absurd H (by simp)
       ·rw[if_neg A]at H;exact absurd H (by simp)
     ·rw[if_neg c5]at H;exact absurd H (by simp)
    ·rw[if_neg c4]at H;exact absurd H (by simp)
   ·rw[if_neg c3]at H;have X:=decide_eq_false c3;clear c3;obtain rfl:=Option.some.inj H;go_wp2;go_ret
    exact⟨qq_3,qq_b⟩
end Go.Proofs.YteaocbonofboeaaGreat.C
end
