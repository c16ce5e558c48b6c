/- Merged texts. -/
import Derived.Test.YtnnofopfbeklbaaGreatMJ01
import Derived.Test.YtnnofopfbeklbaaGreatMJ03
import Derived.Test.YtnnofopfbeklbaaGreatMJ08
import Derived.Test.YtnnofopfbeklbaaGreatMJ14
import Derived.Test.YtnnofopfbeklbaaGreatMJ04
import Derived.Test.YtnnofopfbeklbaaGreatMJ09
import Derived.Test.YtnnofopfbeklbaaGreatMJ05
import Derived.Test.YtnnofopfbeklbaaGreatMJ12
import Derived.Test.YtnnofopfbeklbaaGreatMJ06
import Derived.Test.YtnnofopfbeklbaaGreatMJ00
import Derived.SizedLaws
import Derived.Deep.Slices
import Derived.Lib.SmallJoins
import Derived.ChangeArms
import Derived.Test.YtnnofopfbeklbaaGreatMJ13
set_option linter.unusedVariables false
set_option linter.unusedSimpArgs false
set_option maxHeartbeats 8000000
set_option maxRecDepth 100000
section
namespace Go.Proofs.YtnnofopfbeklbaaGreat.C
open Go.RowKit Go.Proofs.YtnnofopfbeklbaaGreatW.PrintWords Go.Proofs.YtnnofopfbeklbaaGreatW.PrintLast Go.Proofs.YtnnofopfbeklbaaGreatW.PrintMore
attribute [local go_sem] Qjk Qjl Qjm Qjn Qjo Qjp Qjq Qjr
def Qch.f(k:Nat)(a0_0:Int)(a0_1:Int)(a1:Int)(l2:List (S39))(a3:Bool):Option (ByteArray):=(Qcg.f k a0_0 a0_1 a1 l2).bind fun bt488=>(if a3=true then((Qca.f k (((bt488.1.size:Int))%4294967296) bt488.2).bind fun t492=>(if bt488.1.size+t492.size≤9223372036854775807 then((Qbm.f k a0_0 a0_1).bind fun t493=>((Qcf.f k (wrap64 ((wrap64 (t493))-((bt488.1++t492).size:Int)))).bind fun t494=>(if(bt488.1++t492).size+t494.size≤9223372036854775807 then(some ((bt488.1++t492)++t494))else(none))))else(none)))else((Qbm.f k a0_0 a0_1).bind fun t495=>((Qcf.f k (wrap64 ((wrap64 (t495))-(bt488.1.size:Int)))).bind fun t496=>(if bt488.1.size+t496.size≤9223372036854775807 then(some (bt488.1++t496))else(none)))))
theorem Qch.calls(k:Nat)(d:Int)(j:Int)(a1:Int)(A2:Option Addr)(c2:Nat)(l2:List (S39))(a3:Bool)(r:ByteArray)(w:World)(hr2:Kd.C k39 w A2 l2.length l2)(hc2:l2.length≤c2)(h:Qch.f k d j a1 l2 a3=some r) :
  Calls Tryz.prog 31 #[.agg #[.int .u8 d,.int .u32 j],.int .u64 a1,.slice A2 l2.length c2,.bool a3] w fun e w'=>e=.returned (.string r)∧Below w.heap.size w w':=by
 have hu27:=Tryz.underlying27;have hu131:=Tryz.underlying131;have J:=QA hr2;have K:=QA hc2;clear hr2 hc2;have HB:=QA (Below.refl w.heap.size w);have H:((Qcg.f k d j a1 l2).bind fun bt488=>(if a3=true then((Qca.f k (((bt488.1.size:Int))%4294967296) bt488.2).bind fun b=>(if bt488.1.size+b.size≤9223372036854775807 then((Qbm.f k d j).bind fun q=>((Qcf.f k (wrap64 ((wrap64 (q))-((bt488.1++b).size:Int)))).bind fun l=>(if(bt488.1++b).size+l.size≤9223372036854775807 then(some ((bt488.1++b)++l))else(none))))else(none)))else((Qbm.f k d j).bind fun s=>((Qcf.f k (wrap64 ((wrap64 (s))-(bt488.1.size:Int)))).bind fun m=>(if bt488.1.size+m.size≤9223372036854775807 then(some (bt488.1++m))else(none))))))=some r:=h;clear h;replace H:=Option.bind_eq_some_iff.mp H;obtain⟨⟨a,t⟩,L,H⟩:=H;replace H:(if a3=true then((Qca.f k (((a.size:Int))%4294967296) t).bind fun b=>(if a.size+b.size≤9223372036854775807 then((Qbm.f k d j).bind fun q=>((Qcf.f k (wrap64 ((wrap64 (q))-((a++b).size:Int)))).bind fun l=>(if(a++b).size+l.size≤9223372036854775807 then(some ((a++b)++l))else(none))))else(none)))else((Qbm.f k d j).bind fun s=>((Qcf.f k (wrap64 ((wrap64 (s))-(a.size:Int)))).bind fun m=>(if a.size+m.size≤9223372036854775807 then(some (a++m))else(none)))))=some r:=H;have A5:=QA L;clear L
 by_cases c6:a3=true
 ·subst c6;have H1:((Qca.f k (((a.size:Int))%4294967296) t).bind fun b=>(if a.size+b.size≤9223372036854775807 then((Qbm.f k d j).bind fun q=>((Qcf.f k (wrap64 ((wrap64 (q))-((a++b).size:Int)))).bind fun l=>(if(a++b).size+l.size≤9223372036854775807 then(some ((a++b)++l))else(none))))else(none)))=some r:=by rw[if_pos rfl]at H;exact H
  clear H;have H:=H1;clear H1;replace H:=Option.bind_eq_some_iff.mp H;obtain⟨b,M,H⟩:=H;replace H:(if a.size+b.size≤9223372036854775807 then((Qbm.f k d j).bind fun q=>((Qcf.f k (wrap64 ((wrap64 (q))-((a++b).size:Int)))).bind fun l=>(if(a++b).size+l.size≤9223372036854775807 then(some ((a++b)++l))else(none))))else(none))=some r:=H;have A7:=QA M;clear M
  by_cases c8:a.size+b.size≤9223372036854775807
  ·rw[if_pos c8]at H;have ao:=eq_true c8;have ap:decide (a.size+b.size≤9223372036854775807)=true:=decide_eq_true c8
   try have aq:(9223372036854775807<a.size+b.size)=False:=eq_false (Nat.not_lt.2 c8)
   replace H:=Option.bind_eq_some_iff.mp H;obtain⟨q,O,H⟩:=H;replace H:((Qcf.f k (wrap64 ((wrap64 (q))-((a++b).size:Int)))).bind fun l=>(if(a++b).size+l.size≤9223372036854775807 then(some ((a++b)++l))else(none)))=some r:=H;have A9:=QA O;clear O;replace H:=Option.bind_eq_some_iff.mp H;obtain⟨l,y,H⟩:=H;replace H:(if(a++b).size+l.size≤9223372036854775807 then(some ((a++b)++l))else(none))=some r:=H;simp only[ByteArray.size_append,Int.natCast_add]at y;have ac:=QA y;clear y
   by_cases u:(a++b).size+l.size≤9223372036854775807
   ·rw[if_pos u]at H;have af:=eq_true u;have ag:decide ((a++b).size+l.size≤9223372036854775807)=true:=decide_eq_true u
    try have z:(9223372036854775807<(a++b).size+l.size)=False:=eq_false (Nat.not_lt.2 u)
    try have D:=z
    try simp only[ByteArray.size_append,(show ∀x_:UInt8,(⟨#[x_]⟩:ByteArray).size=1 from fun _=>rfl),(show ∀x_ y_:UInt8,(⟨#[x_,y_]⟩:ByteArray).size=2 from fun _ _=>rfl)]at D
    try have E:=z
    try simp only[ByteArray.size_append,ByteArray.size_extract,(show ∀x_:UInt8,(⟨#[x_]⟩:ByteArray).size=1 from fun _=>rfl),(show ∀x_ y_:UInt8,(⟨#[x_,y_]⟩:ByteArray).size=2 from fun _ _=>rfl)]at E
    obtain rfl:=Option.some.inj H
    go_enter Tryz.func31,Tryz.ntmps31
    go_wp2_with (first |((with_reducible refine Qgt (N:=4) rfl ?_);refine qq_e 4 #[.int .u8 d,.int .u32 j] 27 ?_;intro p hg ar hbox hb;have n_:=qn4 (Qgi qq_b hb) (hbox) (qq_s hg:w.heap.size≤p) (qq_s hg:w.heap.size≤p);clear HB;obtain⟨HB,c,G,I⟩:=n_;clear hb hbox hg;obtain⟨T,U⟩:=qc2 c.out;have ah:=Qep c.out) |((with_reducible refine Qjs (f:=27) rfl ?_);refine Qhs (some 15) rfl rfl Tryz.func27 qq_7 rfl #[.agg #[.int .u8 d,.int .u32 j],.int .u64 a1,.slice A2 l2.length c2] rfl qq_1 ?_;(with_reducible refine(Qcg.calls k d j a1 _ _ l2 a t _ ?side1 ?side2 A5.out).mono ?_);(case side1=>repeat(first|exact(Kd.C_below J.out HB.out) |(with_reducible refine Kd.C_alloc ?_ _) |(with_reducible refine Kd.C_drewN ?_ _) |(with_reducible refine Kd.C_drew ?_)));(case side2=>exact K.out);rintro e au ⟨P,rfl,v,hb⟩;refine⟨_,rfl,?_⟩;have n_:=qn3 (Kd.R_lower v (Qgh qq_b)) (Qfd (g:=p) (o:=.cells #[.int .u8 d,.int .u32 j] 27 (0,0)) qq_0 hb) (Qgi qq_b hb);clear c HB;obtain⟨n,c,HB⟩:=n_;(try clear hb);(try clear hb2);(try clear hk);(try clear hi);(try clear v);obtain⟨Ao15,co15,eo15⟩:=Kd.R_slice n.out;subst eo15) |((with_reducible refine Qjs (f:=71) rfl ?_);refine Qhs (some 25) rfl rfl Tryz.func71 qq_7 rfl #[.agg #[.int .u32 (((a.size:Int))%4294967296),.slice Ao15 t.length co15]] rfl qq_1 ?_;(with_reducible refine(Qca.calls k (((a.size:Int))%4294967296) _ _ t b _ ?side1 ?side2 A7.out).mono ?_);(case side1=>repeat(first|exact(Kd.R_reads' n.out).2.2 |(with_reducible refine Kd.C_alloc ?_ _) |(with_reducible refine Kd.C_drewN ?_ _) |(with_reducible refine Kd.C_drew ?_)));(case side2=>exact(Kd.R_reads' n.out).2.1);rintro e av ⟨rfl,hb⟩;refine⟨_,rfl,?_⟩;have n_:=qn3 (Kd.R_below qq_5 hb) (Qfd (g:=p) (o:=.cells #[.int .u8 d,.int .u32 j] 27 (0,0)) qq_0 hb) (Qgi qq_b hb);clear n c HB;obtain⟨n,c,HB⟩:=n_;(try clear hb);(try clear hb2);(try clear hk);(try clear hi);obtain⟨W,X⟩:=qc2 c.out;have ai:=Qep c.out) |((with_reducible refine Qjs (f:=63) rfl ?_);refine Qhs (some 29) rfl rfl Tryz.func63 qq_7 rfl #[.agg #[.int .u8 d,.int .u32 j]] rfl qq_1 ?_;(with_reducible refine(Qbm.calls k d j q _ A9.out).mono ?_);rintro e aw ⟨rfl,hb⟩;refine⟨_,rfl,?_⟩;have n_:=qn3 (Kd.R_below qq_5 hb) (Qfd (g:=p) (o:=.cells #[.int .u8 d,.int .u32 j] 27 (0,0)) qq_0 hb) (Qgi qq_b hb);clear n c HB;obtain⟨n,c,HB⟩:=n_;(try clear hb);(try clear hb2);(try clear hk);(try clear hi)) |((with_reducible refine Qjs (f:=72) rfl ?_);refine Qhs (some 34) rfl rfl Tryz.func72 qq_7 rfl #[.int .i64 (wrap64 ((wrap64 (q))-((a.size:Int)+(b.size:Int))))] rfl qq_1 ?_;(with_reducible refine(Qcf.calls k _ l _ ac.out).mono ?_);rintro e ax ⟨rfl,hb⟩;refine⟨_,rfl,?_⟩;have n_:=qn3 (Kd.R_below qq_5 hb) (Qfd (g:=p) (o:=.cells #[.int .u8 d,.int .u32 j] 27 (0,0)) qq_0 hb) (Qgi qq_b hb);clear n c HB;obtain⟨n,c,HB⟩:=n_;(try clear hb);(try clear hb2);(try clear hk);(try clear hi)))
    go_ret
    exact⟨by first|rfl |(simp[Qjz,Qka]<;>rfl) |(simp[*,Qjz,Qka]<;>rfl),qq_b⟩
   ·rw[if_neg u]at H;exact absurd H (by simp)
  ·rw[if_neg c8]at H;exact absurd H (by simp)
 ·replace c6:=Bool.eq_false_iff.mpr c6;subst c6;have H1:((Qbm.f k d j).bind fun s=>((Qcf.f k (wrap64 ((wrap64 (s))-(a.size:Int)))).bind fun m=>(if a.size+m.size≤9223372036854775807 then(some (a++m))else(none))))=some r:=by rw[if_neg (show ¬(false=true)by decide)]at H;exact H
  clear H;have H:=H1;clear H1;replace H:=Option.bind_eq_some_iff.mp H;obtain⟨s,A,H⟩:=H;replace H:((Qcf.f k (wrap64 ((wrap64 (s))-(a.size:Int)))).bind fun m=>(if a.size+m.size≤9223372036854775807 then(some (a++m))else(none)))=some r:=H;have ad:=QA A;clear A;replace H:=Option.bind_eq_some_iff.mp H;obtain⟨m,B,H⟩:=H;replace H:(if a.size+m.size≤9223372036854775807 then(some (a++m))else(none))=some r:=H;have ae:=QA B;clear B
  by_cases x:a.size+m.size≤9223372036854775807
  ·rw[if_pos x]at H;have aj:=eq_true x;have ak:decide (a.size+m.size≤9223372036854775807)=true:=decide_eq_true x
   try have al:(9223372036854775807<a.size+m.size)=False:=eq_false (Nat.not_lt.2 x)
   obtain rfl:=Option.some.inj H
   go_enter Tryz.func31,Tryz.ntmps31
   go_wp2_with (first |((with_reducible refine Qgt (N:=4) rfl ?_);refine qq_e 4 #[.int .u8 d,.int .u32 j] 27 ?_;intro p hg ay hbox hb;have n_:=qn4 (Qgi qq_b hb) (hbox) (qq_s hg:w.heap.size≤p) (qq_s hg:w.heap.size≤p);clear HB;obtain⟨HB,c,G,I⟩:=n_;clear hb hbox hg;obtain⟨Y,Z⟩:=qc2 c.out;have am:=Qep c.out) |((with_reducible refine Qjs (f:=27) rfl ?_);refine Qhs (some 15) rfl rfl Tryz.func27 qq_7 rfl #[.agg #[.int .u8 d,.int .u32 j],.int .u64 a1,.slice A2 l2.length c2] rfl qq_1 ?_;(with_reducible refine(Qcg.calls k d j a1 _ _ l2 a t _ ?side1 ?side2 A5.out).mono ?_);(case side1=>repeat(first|exact(Kd.C_below J.out HB.out) |(with_reducible refine Kd.C_alloc ?_ _) |(with_reducible refine Kd.C_drewN ?_ _) |(with_reducible refine Kd.C_drew ?_)));(case side2=>exact K.out);rintro e az ⟨P,rfl,v,hb⟩;refine⟨_,rfl,?_⟩;have n_:=qn3 (Kd.R_lower v (Qgh qq_b)) (Qfd (g:=p) (o:=.cells #[.int .u8 d,.int .u32 j] 27 (0,0)) qq_0 hb) (Qgi qq_b hb);clear c HB;obtain⟨n,c,HB⟩:=n_;(try clear hb);(try clear hb2);(try clear hk);(try clear hi);(try clear v);obtain⟨aa,ab⟩:=qc2 c.out;have an:=Qep c.out) |((with_reducible refine Qjs (f:=63) rfl ?_);refine Qhs (some 29) rfl rfl Tryz.func63 qq_7 rfl #[.agg #[.int .u8 d,.int .u32 j]] rfl qq_1 ?_;(with_reducible refine(Qbm.calls k d j s _ ad.out).mono ?_);rintro e aA ⟨rfl,hb⟩;refine⟨_,rfl,?_⟩;have n_:=qn3 (Kd.R_below qq_5 hb) (Qfd (g:=p) (o:=.cells #[.int .u8 d,.int .u32 j] 27 (0,0)) qq_0 hb) (Qgi qq_b hb);clear n c HB;obtain⟨n,c,HB⟩:=n_;(try clear hb);(try clear hb2);(try clear hk);(try clear hi)) |((with_reducible refine Qjs (f:=72) rfl ?_);refine Qhs (some 34) rfl rfl Tryz.func72 qq_7 rfl #[.int .i64 (wrap64 ((wrap64 (s))-(a.size:Int)))] rfl qq_1 ?_;(with_reducible refine(Qcf.calls k (wrap64 ((wrap64 (s))-(a.size:Int))) m _ ae.out).mono ?_);rintro e aB ⟨rfl,hb⟩;refine⟨_,rfl,?_⟩;have n_:=qn3 (Kd.R_below qq_5 hb) (Qfd (g:=p) (o:=.cells #[.int .u8 d,.int .u32 j] 27 (0,0)) qq_0 hb) (Qgi qq_b hb);clear n c HB;obtain⟨n,c,HB⟩:=n_;(try clear hb);(try clear hb2);(try clear hk);(try clear hi)))
   go_ret
   exact⟨by first|rfl |(simp[Qjz,Qka]<;>rfl) |(simp[*,Qjz,Qka]<;>rfl),qq_b⟩
  ·rw[if_neg x]at H;exact absurd H (by simp)
def Qci.l0:Nat→ByteArray→List (List (S39))→List (List (S39))→Int→Int→Int→Int→Option (ByteArray × Int)
 | 0,_,_,_,_,_,_,_=>none
 | k+1,x8,x9,x24,x25,x26,x518000,x518001=>if x26<x25 then(if 0≤x26 then(if x26<(x24.length:Int)then((Qch.f k x518000 x518001 (IntKind.u64.wrap (x26)) (Qkp x24 x26) (decide (x26<(wrap64 ((x9.length:Int)-1))))).bind fun t526=>(if x8.size+t526.size≤9223372036854775807 then(Qci.l0 k (x8++t526) x9 x24 x25 (wrap64 (x26+1)) x518000 x518001)else(none)))else(none))else(none))else(some (x8,0))
def Qci.f(k:Nat)(a0_0:Int)(a0_1:Int)(l1:List (S39)):Option (ByteArray × Int):=(Qck.f k a0_0 a0_1 l1).bind fun bt518=>(if bt518.2=0 then((Qcj.f k l1 bt518.1).bind fun t522=>(Qci.l0 k (⟨#[]⟩:ByteArray) t522 t522 (t522.length:Int) 0 a0_0 a0_1))else(some ((⟨#[]⟩:ByteArray),bt518.2)))
theorem Qci.calls (k:Nat) (d:Int) (j:Int) (A1:Option Addr) (c1:Nat) (l1:List (S39)) (r1:ByteArray) (r2:Int) (w:World) (hr1:Kd.C k39 w A1 l1.length l1) (hc1:l1.length≤c1) (h:Qci.f k d j l1=some (r1,r2)) :
  Calls Tryz.prog 34 #[.agg #[.int .u8 d,.int .u32 j],.slice A1 l1.length c1] w fun e w'=>e=.returned (.tuple #[.string r1,.int .i64 r2])∧Below w.heap.size w w':=by
 have hu27:=Tryz.underlying27;have J:=QA hr1;have K:=QA hc1;clear hr1 hc1;have HB:=QA (Below.refl w.heap.size w);have H:((Qck.f k d j l1).bind fun bt518=>(if bt518.2=0 then((Qcj.f k l1 bt518.1).bind fun a=>(Qci.l0 k (⟨#[]⟩:ByteArray) a a (a.length:Int) 0 d j))else(some ((⟨#[]⟩:ByteArray),bt518.2))))=some (r1,r2):=h;clear h;replace H:=Option.bind_eq_some_iff.mp H;obtain⟨⟨t,n⟩,aa,H⟩:=H;replace H:(if n=0 then((Qcj.f k l1 t).bind fun a=>(Qci.l0 k (⟨#[]⟩:ByteArray) a a (a.length:Int) 0 d j))else(some ((⟨#[]⟩:ByteArray),n)))=some (r1,r2):=H;have A3:=QA aa;clear aa
 by_cases c4:n=0
 ·rw [if_pos c4]at H;have L:(n == 0)=true:=beq_iff_eq.mpr c4;have M:(n != 0)=false:=bne_eq_false_iff_eq.mpr c4;clear c4;replace H:=Option.bind_eq_some_iff.mp H;obtain⟨a,ab,H⟩:=H;replace H:(Qci.l0 k (⟨#[]⟩:ByteArray) a a (a.length:Int) 0 d j)=some (r1,r2):=H;have A5:=QA ab;clear ab;have H':=QA H;clear H
  go_enter Tryz.func34,Tryz.ntmps34
  go_wp2_with (first |((with_reducible refine Qgt (N:=2) rfl ?_);refine qq_e 2 #[.int .u8 d,.int .u32 j] 27 ?_;intro l hg w6 hbox hb;have n_:=qn4 (Qgi qq_b hb) (hbox) (qq_s hg:w.heap.size≤l) (qq_s hg:w.heap.size≤l);clear HB;obtain⟨HB,c,X,Y⟩:=n_;clear hb hbox hg;obtain⟨O,P⟩:=qc2 c.out;have ac:=Qep c.out) |((with_reducible refine Qjs (f:=39) rfl ?_);refine Qhs (some 15) rfl rfl Tryz.func39 qq_7 rfl #[.agg #[.int .u8 d,.int .u32 j],.slice A1 l1.length c1] rfl qq_1 ?_;(with_reducible refine(Qck.calls k d j _ _ l1 t n _ ?side1 ?side2 A3.out).mono ?_);(case side1=>repeat(first|exact(Kd.C_below J.out HB.out) |(with_reducible refine Kd.C_alloc ?_ _) |(with_reducible refine Kd.C_drewN ?_ _) |(with_reducible refine Kd.C_drew ?_)));(case side2=>exact K.out);rintro e w8 ⟨ad,rfl,s,hb⟩;refine⟨_,rfl,?_⟩;have n_:=qn3 (Kd.R_lower s (Qgh qq_b)) (Qfd (g:=l) (o:=.cells #[.int .u8 d,.int .u32 j] 27 (0,0)) qq_0 hb) (Qgi qq_b hb);clear c HB;obtain⟨q,c,HB⟩:=n_;(try clear hb);(try clear hb2);(try clear hk);(try clear hi);(try clear s);obtain⟨Ao9,co9,eo9⟩:=Kd.R_slice q.out;subst eo9) |((with_reducible refine Qjs (f:=74) rfl ?_);refine Qhs (some 23) rfl rfl Tryz.func74 qq_7 rfl #[.slice A1 l1.length c1,.slice Ao9 t.length co9] rfl qq_1 ?_;(with_reducible refine(Qcj.calls k _ _ l1 _ _ t a _ ?side1 ?side2 ?side3 ?side4 A5.out).mono ?_);(case side1=>repeat(first|exact(Kd.C_below J.out HB.out) |(with_reducible refine Kd.C_alloc ?_ _) |(with_reducible refine Kd.C_drewN ?_ _) |(with_reducible refine Kd.C_drew ?_)));(case side2=>exact K.out);(case side3=>repeat(first|exact(Kd.R_reads' q.out).2.2 |(with_reducible refine Kd.C_alloc ?_ _) |(with_reducible refine Kd.C_drewN ?_ _) |(with_reducible refine Kd.C_drew ?_)));(case side4=>exact(Kd.R_reads' q.out).2.1);rintro e aw ⟨av,rfl,s,hb⟩;refine⟨_,rfl,?_⟩;have n_:=qn4 (Kd.R_below qq_5 hb) (Kd.S_lower s (Qgh qq_b)) (Qfd (g:=l) (o:=.cells #[.int .u8 d,.int .u32 j] 27 (0,0)) qq_0 hb) (Qgi qq_b hb);clear q c HB;obtain⟨q,v,c,HB⟩:=n_;(try clear hb);(try clear hb2);(try clear hk);(try clear hi);(try clear s);obtain⟨Ao11,co11,eo11⟩:=Kd.S_slice v.out;subst eo11))
  go_loopg [8,26] k (fun kq v8 aj w'=>∃(x8_1:ByteArray) (b:Int),v8=.string x8_1∧aj=.int .i64 b∧Aside0 (Qci.l0 kq x8_1 a a (a.length:Int) b d j=some (r1,r2))∧Aside0 (kq≤k)∧Aside0 (Kd.S (Kd.slice 39 k39) 23 w' w.heap.size (fun _=>True) (.slice Ao11 a.length co11) a)∧Aside0 (Kd.S (Kd.slice 39 k39) 23 w' w.heap.size (fun _=>True) (.slice Ao11 a.length co11) a)∧Aside0 (w'.heap[l]? = some (.cells #[.int .u8 d,.int .u32 j] 27 (0,0)))∧Aside0 (Below w.heap.size w w'))
  case atStart=>exact⟨((⟨#[]⟩:ByteArray)),(0),qq_8,qq_8,H',⟨Nat.le_refl _⟩,⟨by(with_reducible repeat(first|apply Kd.S_alloc|apply Kd.S_drewN|apply Kd.S_drew));exact v.out⟩,⟨by(with_reducible repeat(first|apply Kd.S_alloc|apply Kd.S_drewN|apply Kd.S_drew));exact v.out⟩,⟨by(with_reducible repeat(first|apply Qfc|apply Qfb|apply Qfa));exact c.out⟩,⟨qq_b⟩⟩
  case round =>
   clear H'
   try clear c1
   try clear c4
   try clear L
   try clear M
   try clear O
   try clear P
   try clear ac
   obtain⟨x8_1,b,rfl,rfl,HA,HK1,x,p,c,HB⟩:=hrel
   cases gk with
   | zero=>exact absurd HA.out (by simp[Qci.l0])
   | succ k1 =>
    have H:=HA.out;clear HA;simp only[Qci.l0]at H
    by_cases u:b<(a.length:Int)
    ·rw [if_pos u]at H;have Z:decide (b<(a.length:Int))=true:=decide_eq_true u;clear u
     by_cases D:0≤b
     ·rw[if_pos D]at H;have al:decide (0≤b)=true:=decide_eq_true D;clear D
      by_cases E:b<(a.length:Int)
      ·rw[if_pos E]at H;have am:decide (b<(a.length:Int))=true:=decide_eq_true E;clear E;replace H:=Option.bind_eq_some_iff.mp H;obtain⟨r,T,H⟩:=H;replace H:(if x8_1.size+r.size≤9223372036854775807 then(Qci.l0 k1 (x8_1++r) a a (a.length:Int) (wrap64 (b+1)) d j)else(none))=some (r1,r2):=H;have ak:=QA T;clear T
       by_cases A:x8_1.size+r.size≤9223372036854775807
       ·rw[if_pos A]at H;have an:=eq_true A;have ao:decide (x8_1.size+r.size≤9223372036854775807)=true:=decide_eq_true A
        try have ap:(9223372036854775807<x8_1.size+r.size)=False:=eq_false (Nat.not_lt.2 A)
        have H':=QA H;clear H;have y:0≤(b:Int):=of_decide_eq_true qq_6;have z:b<(a.length:Int):=of_decide_eq_true qq_6;obtain⟨aq,U,W,ae,G,hl525_0,hi525_0⟩:=Qkq (Kd.S_reads' p.out).2.2 b y z
        cases ae
        obtain⟨ce525,hce525,hMe525,B⟩:=Kd.S_get p.out [] b y (by first|exact z|exact of_decide_eq_true qq_6 |(have e_:=(Kd.S_reads' p.out).1;omega));obtain⟨ve525_0,rfl,ge525_0⟩:=hMe525;have hv525_0:=B 0 _ rfl;rw[Nat.add_zero,show((Kd.slice 39 k39)).sz=1 from rfl,Nat.mul_one]at hv525_0;replace hv525_0:=Option.some.inj (hv525_0.symm.trans G);rw[hv525_0]at ge525_0;have HL525_0:=QA (show Kd.R k39 39 _ _ _ _ (Qkp a b) from ge525_0);clear hv525_0 ge525_0 B hce525;have m:=QA hi525_0;have I:=QA hl525_0;clear hi525_0 hl525_0;replace y:=eq_true y;replace z:=eq_true z;obtain⟨af,ag⟩:=qc2 c.out;have ar:=Qep c.out
        go_wp2_with (first |((with_reducible refine Qjs (f:=31) rfl ?_);refine Qhs (some 41) rfl rfl Tryz.func31 qq_7 rfl #[.agg #[.int .u8 d,.int .u32 j],.int .u64 (IntKind.u64.wrap (b)),.slice U (Qkp a b).length W,.bool (decide (b<(wrap64 ((a.length:Int)-1))))] rfl qq_1 ?_;(with_reducible refine(Qch.calls k1 d j (IntKind.u64.wrap (b)) _ _ (Qkp a b) (decide (b<(wrap64 ((a.length:Int)-1)))) r _ ?side1 ?side2 ak.out).mono ?_);(case side1=>repeat(first|exact(by repeat(first |(with_reducible exact m.out) |(with_reducible refine Kd.C_alloc ?_ _) |(with_reducible refine Kd.C_drewN ?_ _) |(with_reducible refine Kd.C_drew ?_)|exact m.out)) |(with_reducible refine Kd.C_alloc ?_ _) |(with_reducible refine Kd.C_drewN ?_ _) |(with_reducible refine Kd.C_drew ?_)));(case side2=>exact I.out);rintro e ax ⟨rfl,hb⟩;refine⟨_,rfl,?_⟩;have n_:=qn6 (Kd.S_below (by(with_reducible repeat(first|apply Kd.S_alloc|apply Kd.S_drewN|apply Kd.S_drew));exact x.out) hb) (Kd.S_below (by(with_reducible repeat(first|apply Kd.S_alloc|apply Kd.S_drewN|apply Kd.S_drew));exact p.out) hb) (Kd.R_below qq_5 hb) (Qfd (g:=l) (o:=.cells #[.int .u8 d,.int .u32 j] 27 (0,0)) qq_0 hb) (Kd.C_below (by repeat(first |(with_reducible exact m.out) |(with_reducible refine Kd.C_alloc ?_ _) |(with_reducible refine Kd.C_drewN ?_ _) |(with_reducible refine Kd.C_drew ?_)|exact m.out)) hb) (Qgi qq_b hb);clear x p HL525_0 c m HB;obtain⟨x,p,HL525_0,c,m,HB⟩:=n_;(try clear hb);(try clear hb2);(try clear hk);(try clear hi)))
        go_roundg k1
        case measure=>have:=HK1.out;omega
        case rel=>exact⟨(x8_1++r),(wrap64 (b+1)),qq_8,qq_8,H',⟨by have:=HK1.out;omega⟩,⟨by(with_reducible repeat(first|apply Kd.S_alloc|apply Kd.S_drewN|apply Kd.S_drew));exact x.out⟩,⟨by(with_reducible repeat(first|apply Kd.S_alloc|apply Kd.S_drewN|apply Kd.S_drew));exact p.out⟩,⟨by(with_reducible repeat(first|apply Qfc|apply Qfb|apply Qfa));exact c.out⟩,⟨qq_b⟩⟩
       ·rw[if_neg A]at H;exact absurd H (by simp)
      ·rw[if_neg E]at H;exact absurd H (by simp)
     ·rw[if_neg D]at H;exact absurd H (by simp)
    ·rw[if_neg u]at H;have Z:decide (b<(a.length:Int))=false:=decide_eq_false u;clear u;simp only[Option.some.injEq,Prod.mk.injEq]at H;obtain⟨rfl,rfl⟩:=H;go_wp2
     go_ret2
     exact⟨by first|rfl |(simp[Qjz,Qka]<;>rfl) |(simp[*,Qjz,Qka]<;>rfl),qq_b⟩
 ·rw[if_neg c4]at H;have L:(n == 0)=false:=beq_eq_false_iff_ne.mpr c4;have M:(n != 0)=true:=bne_iff_ne.mpr c4;simp only[Option.some.injEq,Prod.mk.injEq]at H;obtain⟨rfl,rfl⟩:=H
  go_enter Tryz.func34,Tryz.ntmps34
  go_wp2_with (first |((with_reducible refine Qgt (N:=2) rfl ?_);refine qq_e 2 #[.int .u8 d,.int .u32 j] 27 ?_;intro l hg ay hbox hb;have n_:=qn4 (Qgi qq_b hb) (hbox) (qq_s hg:w.heap.size≤l) (qq_s hg:w.heap.size≤l);clear HB;obtain⟨HB,c,X,Y⟩:=n_;clear hb hbox hg;obtain⟨ah,ai⟩:=qc2 c.out;have au:=Qep c.out) |((with_reducible refine Qjs (f:=39) rfl ?_);refine Qhs (some 15) rfl rfl Tryz.func39 qq_7 rfl #[.agg #[.int .u8 d,.int .u32 j],.slice A1 l1.length c1] rfl qq_1 ?_;(with_reducible refine(Qck.calls k d j _ _ l1 t n _ ?side1 ?side2 A3.out).mono ?_);(case side1=>repeat(first|exact(Kd.C_below J.out HB.out) |(with_reducible refine Kd.C_alloc ?_ _) |(with_reducible refine Kd.C_drewN ?_ _) |(with_reducible refine Kd.C_drew ?_)));(case side2=>exact K.out);rintro e az ⟨ad,rfl,s,hb⟩;refine⟨_,rfl,?_⟩;have n_:=qn3 (Kd.R_lower s (Qgh qq_b)) (Qfd (g:=l) (o:=.cells #[.int .u8 d,.int .u32 j] 27 (0,0)) qq_0 hb) (Qgi qq_b hb);clear c HB;obtain⟨q,c,HB⟩:=n_;(try clear hb);(try clear hb2);(try clear hk);(try clear hi);(try clear s)))
  go_ret2
  exact⟨by first|rfl |(simp[Qjz,Qka]<;>rfl) |(simp[*,Qjz,Qka]<;>rfl),qq_b⟩
def Qcm.f(k:Nat)(a0_0:Int)(a0_1:Int)(a1:ByteArray):Option (ByteArray × Int × Int):=(Qbl.f a0_0 a0_1).bind fun t796=>(if t796=true then((Qbr.f k a1).bind fun bt797=>(if bt797.2.2=0 then((Qcl.f k bt797.1).bind fun t802=>((Qci.f k a0_0 a0_1 t802).bind fun bt805=>(some (bt805.1,0,bt805.2))))else(some ((⟨#[]⟩:ByteArray),bt797.2.1,bt797.2.2))))else(some ((⟨#[]⟩:ByteArray),0,1)))
def Qcm.T6:Bool × List (List Nat × List Nat):=(true,[([],[]),([],[]),([1],[1]),([0,2,2],[0,2]),([3],[3]),([4],[4]),([4],[4]),([5,3,0,1,2,3,4,5],[5]),([6,7,0,1,2,3,4,5,6,7],[6])])
def Qcm.B6:List Nat:=[0,0,2,7,15,31,31,63,255]
theorem Qcm.tab6:rtab .any (Qjb Tryz.f44 6)=Qcm.T6:=by kernel_rfl
theorem Qcm.bits6:Qiv Qcm.T6.2 Qcm.B6=true:=by kernel_rfl
theorem Qcm.calls(k:Nat)(b:Int)(c:Int)(a1:ByteArray)(r1:ByteArray)(r2:Int)(r3:Int)(w:World)(h:Qcm.f k b c a1=some (r1,r2,r3)) :
  Calls Tryz.prog 44 #[.agg #[.int .u8 b,.int .u32 c],.string a1] w fun e w'=>e=.returned (.tuple #[.string r1,.int .i64 r2,.int .i64 r3])∧Below w.heap.size w w':=by
 have hu27:=Tryz.underlying27;have HB:=QA (Below.refl w.heap.size w);have H:((Qbl.f b c).bind fun t=>(if t=true then((Qbr.f k a1).bind fun bt797=>(if bt797.2.2=0 then((Qcl.f k bt797.1).bind fun l=>((Qci.f k b c l).bind fun bt805=>(some (bt805.1,0,bt805.2))))else(some ((⟨#[]⟩:ByteArray),bt797.2.1,bt797.2.2))))else(some ((⟨#[]⟩:ByteArray),0,1))))=some (r1,r2,r3):=h;clear h;replace H:=Option.bind_eq_some_iff.mp H;obtain⟨t,B,H⟩:=H;replace H:(if t=true then((Qbr.f k a1).bind fun bt797=>(if bt797.2.2=0 then((Qcl.f k bt797.1).bind fun l=>((Qci.f k b c l).bind fun bt805=>(some (bt805.1,0,bt805.2))))else(some ((⟨#[]⟩:ByteArray),bt797.2.1,bt797.2.2))))else(some ((⟨#[]⟩:ByteArray),0,1)))=some (r1,r2,r3):=H;have A3:=QA B;clear B
 by_cases c4:t=true
 ·subst c4;have H1:((Qbr.f k a1).bind fun bt797=>(if bt797.2.2=0 then((Qcl.f k bt797.1).bind fun l=>((Qci.f k b c l).bind fun bt805=>(some (bt805.1,0,bt805.2))))else(some ((⟨#[]⟩:ByteArray),bt797.2.1,bt797.2.2))))=some (r1,r2,r3):=by rw[if_pos rfl]at H;exact H
  clear H;have H:=H1;clear H1;replace H:=Option.bind_eq_some_iff.mp H;obtain⟨⟨s,u,m⟩,D,H⟩:=H;replace H:(if m=0 then((Qcl.f k s).bind fun l=>((Qci.f k b c l).bind fun bt805=>(some (bt805.1,0,bt805.2))))else(some ((⟨#[]⟩:ByteArray),u,m)))=some (r1,r2,r3):=H;have A5:=QA D;clear D
  by_cases c6:m=0
  ·rw[if_pos c6]at H;have I:(m == 0)=true:=beq_iff_eq.mpr c6;have J:(m != 0)=false:=bne_eq_false_iff_eq.mpr c6;clear c6;replace H:=Option.bind_eq_some_iff.mp H;obtain⟨l,E,H⟩:=H;replace H:((Qci.f k b c l).bind fun bt805=>(some (bt805.1,0,bt805.2)))=some (r1,r2,r3):=H;have A7:=QA E;clear E;replace H:=Option.bind_eq_some_iff.mp H;obtain⟨⟨z,A⟩,G,H⟩:=H;replace H:(some (z,0,A))=some (r1,r2,r3):=H;have A8:=QA G;clear G;simp only[Option.some.injEq,Prod.mk.injEq]at H;obtain⟨rfl,rfl,rfl⟩:=H
   go_enter Tryz.func44,Tryz.ntmps44
   try go_wp2_with (first |((with_reducible refine Qgt (N:=2) rfl ?_);refine qq_e 2 #[.int .u8 b,.int .u32 c] 27 ?_;intro d hg w9 hbox hb;have n_:=qn4 (Qgi qq_b hb) (hbox) (qq_s hg:w.heap.size≤d) (qq_s hg:w.heap.size≤d);clear HB;obtain⟨HB,a,x,y⟩:=n_;clear hb hbox hg;obtain⟨M,O⟩:=qc2 a.out;have Y:=Qep a.out) |((with_reducible refine Qjs (f:=54) rfl ?_);refine Qhs (some 13) rfl rfl Tryz.func54 qq_7 rfl #[.agg #[.int .u8 b,.int .u32 c]] rfl qq_1 ?_;(with_reducible refine(Qbl.calls b c true _ A3.out).mono ?_);rintro e ac ⟨rfl,hb⟩;refine⟨_,rfl,?_⟩;have n_:=qn2 (Qfd (g:=d) (o:=.cells #[.int .u8 b,.int .u32 c] 27 (0,0)) qq_0 hb) (Qgi qq_b hb);clear a HB;obtain⟨a,HB⟩:=n_;(try clear hb);(try clear hb2);(try clear hk);(try clear hi)) |((with_reducible refine Qjs (f:=88) rfl ?_);refine Qhs (some 17) rfl rfl Tryz.func88 qq_7 rfl #[.string a1] rfl qq_1 ?_;(with_reducible refine(Qbr.calls k a1 s u m _ A5.out).mono ?_);rintro e X ⟨L,rfl,q,hb⟩;refine⟨_,rfl,?_⟩;have n_:=qn3 (Kd.R_lower q (Qgh qq_b)) (Qfd (g:=d) (o:=.cells #[.int .u8 b,.int .u32 c] 27 (0,0)) qq_0 hb) (Qgi qq_b hb);clear a HB;obtain⟨j,a,HB⟩:=n_;(try clear hb);(try clear hb2);(try clear hk);(try clear hi);(try clear q)))
   have n_:=qn3 (Kd.R_drew j.out) (Qfb a.out) (Qgp HB.out);clear j a HB;obtain⟨j,a,HB⟩:=n_;obtain⟨Ao14,co14,eo14⟩:=Kd.R_slice j.out
   (first|subst eo14 |(injection eo14 with f1_ f2_ f3_;have f4_:=f1_.symm;have f5_:=f3_.symm;clear f1_ f2_ f3_;subst f4_;subst f5_))
   refine Qhg (n:=9) (S:=fun w'=>w'.cell? ⟨d,0,none⟩=some (.int .u8 b)∧w'.cell? ⟨d,1,none⟩=some (.int .u32 c)) (ds:=[]) (bm 9 0) qq_7 rfl rfl ⟨(Qeo a.out 0).trans rfl,(Qeo a.out 1).trans rfl⟩ (fun r=>?_);refine Qiz Qcm.tab6 Qcm.bits6 (fun HT_ HW_=>?_);generalize X.drew=w13 at j a HB r ⊢;refine Qhj (i:=1) (N:=some 27) (v:=?_) (a':=?_) (bm 9 2) rfl rfl (Qir HT_.out qq_7) (fun _ _ _ h=>h) (Or.inl ⟨by rfl,?_⟩) ?_ ?_;rotate_left
   ·intro w';go_simp;with_reducible rfl
   rotate_left
   ·exact qq_2
   refine Qhi (i:=0) (N:=some 26) (v:=?_) (a':=?_) (bm 9 3) rfl rfl (Qiy HT_.out HW_.out qq_7) (fun _ _ _ h=>h) (Or.inl ⟨by rfl,?_⟩) r ?_ ?_;rotate_left
   ·rintro w' ⟨s0,s1⟩;go_simp;with_reducible rfl
   rotate_left
   ·exact qq_2
   refine one_ (i:=2) (N:=some 28) (bm 9 7) rfl rfl (Qis HT_.out qq_7) (by decide) (fun K hK=>?_);refine Qhr Tryz.func89 qq_7 rfl #[.slice Ao14 s.length co14] (by rfl) rfl rfl qq_1 ?_;with_reducible refine(Qcl.calls k _ _ s l _ ?side1 ?side2 A7.out).mono ?_
   (case side1=>repeat(first|exact(Kd.R_reads' j.out).2.2 |(with_reducible refine Kd.C_alloc ?_ _) |(with_reducible refine Kd.C_drewN ?_ _) |(with_reducible refine Kd.C_drew ?_)))
   (case side2=>exact(Kd.R_reads' j.out).2.1)
   rintro e ad ⟨ab,rfl,q,hb⟩;refine⟨_,rfl,?_⟩;have n_:=qn4 (Kd.R_below qq_5 hb) (Kd.R_lower q (Qgh qq_b)) (Qfd (g:=d) (o:=.cells #[.int .u8 b,.int .u32 c] 27 (0,0)) qq_0 hb) (Qgi qq_b hb);clear j a HB;obtain⟨j,p,a,HB⟩:=n_
   (try clear hb)
   (try clear hb2)
   (try clear hk)
   (try clear hi)
   (try clear q)
   obtain⟨Ao16,co16,eo16⟩:=Kd.R_slice p.out
   (first|subst eo16 |(injection eo16 with f1_ f2_ f3_;have f4_:=f1_.symm;have f5_:=f3_.symm;clear f1_ f2_ f3_;subst f4_;subst f5_))
   refine hK.out _ _ ⟨(Qeo a.out 0).trans rfl,(Qeo a.out 1).trans rfl⟩ (fun r=>?_);clear hK K;refine nzp_ 28 ?_;refine one_ (i:=3) (N:=some 29) (bm 9 15) rfl rfl (Qis HT_.out qq_7) (by decide) (fun K hK=>?_);refine Qhr Tryz.func34 qq_7 rfl #[.agg #[.int .u8 b,.int .u32 c],.slice Ao16 l.length co16] (by rfl) rfl rfl qq_1 ?_;with_reducible refine(Qci.calls k b c _ _ l z A _ ?side1 ?side2 A8.out).mono ?_
   (case side1=>repeat(first|exact(Kd.R_reads' p.out).2.2 |(with_reducible refine Kd.C_alloc ?_ _) |(with_reducible refine Kd.C_drewN ?_ _) |(with_reducible refine Kd.C_drew ?_)))
   (case side2=>exact(Kd.R_reads' p.out).2.1)
   rintro e ae ⟨rfl,hb⟩;refine⟨_,rfl,?_⟩;have n_:=qn4 (Kd.R_below qq_5 hb) (Kd.R_below qq_5 hb) (Qfd (g:=d) (o:=.cells #[.int .u8 b,.int .u32 c] 27 (0,0)) qq_0 hb) (Qgi qq_b hb);clear j p a HB;obtain⟨j,p,a,HB⟩:=n_
   (try clear hb)
   (try clear hb2)
   (try clear hk)
   (try clear hi)
   refine hK.out _ _ ⟨(Qeo a.out 0).trans rfl,(Qeo a.out 1).trans rfl⟩ (fun r=>?_);clear hK K;refine nzp_ 29 ?_;refine Qhj (i:=4) (N:=some 25) (v:=?_) (a':=?_) (bm 9 31) rfl rfl (Qir HT_.out qq_7) (fun _ _ _ h=>h) (Or.inl ⟨by rfl,?_⟩) ?_ ?_;rotate_left
   ·intro w';go_simp;with_reducible rfl
   rotate_left
   ·exact qq_2
   refine Qhj (i:=5) (N:=some 30) (v:=?_) (a':=?_) (bm 9 63) rfl rfl (Qir HT_.out qq_7) (fun _ _ _ h=>h) (Or.inl ⟨by rfl,?_⟩) ?_ ?_;rotate_left
   ·intro w';go_simp;with_reducible rfl
   rotate_left
   ·exact qq_2
   refine Qhj (i:=6) (N:=some 31) (v:=?_) (a':=?_) (bm 9 127) rfl rfl (Qir HT_.out qq_7) (fun _ _ _ h=>h) (Or.inl ⟨by rfl,?_⟩) ?_ ?_;rotate_left
   ·intro w';go_simp;with_reducible rfl
   rotate_left
   ·exact qq_2
   refine Qhj (i:=7) (N:=some 10) (v:=?_) (a':=?_) (bm 9 255) rfl rfl (Qir HT_.out qq_7) (fun _ _ _ h=>h) (Or.inl ⟨by rfl,?_⟩) ?_ ?_;rotate_left
   ·intro w';go_simp;with_reducible rfl
   rotate_left
   ·exact qq_2
   refine Qhj (i:=8) (N:=some 11) (v:=?_) (a':=?_) (bm 9 511) rfl rfl (Qir HT_.out qq_7) (fun _ _ _ h=>h) (Or.inl ⟨by rfl,?_⟩) ?_ ?_;rotate_left
   ·intro w';go_simp;with_reducible rfl
   rotate_left
   ·exact qq_2
   refine Qhl (Qiu HT_.out qq_7) ?_
   try go_wp2
   go_ret3
   exact⟨by first|rfl |(simp[Qjz,Qka]<;>rfl) |(simp[*,Qjz,Qka]<;>rfl),qq_b⟩
  ·rw[if_neg c6]at H;have I:(m == 0)=false:=beq_eq_false_iff_ne.mpr c6;have J:(m != 0)=true:=bne_iff_ne.mpr c6;simp only[Option.some.injEq,Prod.mk.injEq]at H;obtain⟨rfl,rfl,rfl⟩:=H
   go_enter Tryz.func44,Tryz.ntmps44
   go_wp2_with (first |((with_reducible refine Qgt (N:=2) rfl ?_);refine qq_e 2 #[.int .u8 b,.int .u32 c] 27 ?_;intro d hg af hbox hb;have n_:=qn4 (Qgi qq_b hb) (hbox) (qq_s hg:w.heap.size≤d) (qq_s hg:w.heap.size≤d);clear HB;obtain⟨HB,a,x,y⟩:=n_;clear hb hbox hg;obtain⟨P,T⟩:=qc2 a.out;have Z:=Qep a.out) |((with_reducible refine Qjs (f:=54) rfl ?_);refine Qhs (some 13) rfl rfl Tryz.func54 qq_7 rfl #[.agg #[.int .u8 b,.int .u32 c]] rfl qq_1 ?_;(with_reducible refine(Qbl.calls b c true _ A3.out).mono ?_);rintro e ag ⟨rfl,hb⟩;refine⟨_,rfl,?_⟩;have n_:=qn2 (Qfd (g:=d) (o:=.cells #[.int .u8 b,.int .u32 c] 27 (0,0)) qq_0 hb) (Qgi qq_b hb);clear a HB;obtain⟨a,HB⟩:=n_;(try clear hb);(try clear hb2);(try clear hk);(try clear hi)) |((with_reducible refine Qjs (f:=88) rfl ?_);refine Qhs (some 17) rfl rfl Tryz.func88 qq_7 rfl #[.string a1] rfl qq_1 ?_;(with_reducible refine(Qbr.calls k a1 s u m _ A5.out).mono ?_);rintro e ah ⟨L,rfl,q,hb⟩;refine⟨_,rfl,?_⟩;have n_:=qn3 (Kd.R_lower q (Qgh qq_b)) (Qfd (g:=d) (o:=.cells #[.int .u8 b,.int .u32 c] 27 (0,0)) qq_0 hb) (Qgi qq_b hb);clear a HB;obtain⟨j,a,HB⟩:=n_;(try clear hb);(try clear hb2);(try clear hk);(try clear hi);(try clear q)))
   go_ret3
   exact⟨by first|rfl |(simp[Qjz,Qka]<;>rfl) |(simp[*,Qjz,Qka]<;>rfl),qq_b⟩
 ·replace c4:=Bool.eq_false_iff.mpr c4;subst c4;have H1:(some ((⟨#[]⟩:ByteArray),0,1))=some (r1,r2,r3):=by rw[if_neg (show ¬(false=true)by decide)]at H;exact H
  clear H;have H:=H1;clear H1;simp only[Option.some.injEq,Prod.mk.injEq]at H;obtain⟨rfl,rfl,rfl⟩:=H
  go_enter Tryz.func44,Tryz.ntmps44
  go_wp2_with (first |((with_reducible refine Qgt (N:=2) rfl ?_);refine qq_e 2 #[.int .u8 b,.int .u32 c] 27 ?_;intro d hg ai hbox hb;have n_:=qn4 (Qgi qq_b hb) (hbox) (qq_s hg:w.heap.size≤d) (qq_s hg:w.heap.size≤d);clear HB;obtain⟨HB,a,x,y⟩:=n_;clear hb hbox hg;obtain⟨U,W⟩:=qc2 a.out;have aa:=Qep a.out) |((with_reducible refine Qjs (f:=54) rfl ?_);refine Qhs (some 13) rfl rfl Tryz.func54 qq_7 rfl #[.agg #[.int .u8 b,.int .u32 c]] rfl qq_1 ?_;(with_reducible refine(Qbl.calls b c false _ A3.out).mono ?_);rintro e aj ⟨rfl,hb⟩;refine⟨_,rfl,?_⟩;have n_:=qn2 (Qfd (g:=d) (o:=.cells #[.int .u8 b,.int .u32 c] 27 (0,0)) qq_0 hb) (Qgi qq_b hb);clear a HB;obtain⟨a,HB⟩:=n_;(try clear hb);(try clear hb2);(try clear hk);(try clear hi)))
  go_ret3
  exact⟨by first|rfl |(simp[Qjz,Qka]<;>rfl) |(simp[*,Qjz,Qka]<;>rfl),qq_b⟩
def Qas.j0:Nat→Int→List Int→Bool→Option (Bool)
 | 0,_,_,_=>none
 | k+1,x0,x1,x19=>if x19=true then((Qat.f k).bind fun t808=>(some t808))else((Qaq.f x0).bind fun bt809=>((some (([]:List Int):List Int)).bind fun y812=>(if y812.length+x1.length<140737488355328 then((some (y812++x1:List Int)).bind fun y815=>((Qcx.f k bt809.1 bt809.2 y815).bind fun bt818=>((Qcm.f k bt809.1 bt809.2 (strOfNums x1)).bind fun bt823=>(if(strOfNums bt818.1).toList=bt823.1.toList then(if bt818.2.1=bt823.2.1 then(if bt818.2.2=bt823.2.2 then(some ((strOfNums y815).toList == (strOfNums x1).toList))else(some false))else(some false))else(some false)))))else(none))))
def Qas.f(k:Nat)(a0:Int)(l1:List Int):Option (Bool):=(Qat.f k).bind fun t807=>(if t807=true then(Qas.j0 k a0 l1 (decide ((l1.length:Int) > 1500)))else(Qas.j0 k a0 l1 true))
theorem Qas.calls (k:Nat) (a0:Int) (A1:Option Addr) (c1:Nat) (l1:List Int) (r:Bool) (w:World) (hr1:Kd.C (Kd.int .u8) w A1 l1.length l1) (hc1:l1.length≤c1) (h:Qas.f k a0 l1=some r) :
  Calls Tryz.prog 9 #[.int .u8 a0,.slice A1 l1.length c1] w fun e w'=>e=.returned (.bool r)∧Below w.heap.size w w':=by
 have hu27:=Tryz.underlying27;have B:=QA hr1;have bA:=QA hc1;clear hr1 hc1;have HB:=QA (Below.refl w.heap.size w);have H:((Qat.f k).bind fun Y=>(if Y=true then(Qas.j0 k a0 l1 (decide ((l1.length:Int) > 1500)))else(Qas.j0 k a0 l1 true)))=some r:=h;clear h;have ai:=QA H;clear H
 go_enter Tryz.func9,Tryz.ntmps9
 go_upto_region 1 with(fail)
 go_cut [19] (fun ba wc=>∃(kq:Nat) (G:Bool),ba=.bool G∧Aside0 (Qas.j0 kq a0 l1 G=some r)∧Aside0 (kq≤k)∧Aside0 (Below w.heap.size w wc))
 case first =>
  have H:=ai.out;clear ai;replace H:=Option.bind_eq_some_iff.mp H;obtain⟨Y,au,H⟩:=H;replace H:(if Y=true then(Qas.j0 k a0 l1 (decide ((l1.length:Int) > 1500)))else(Qas.j0 k a0 l1 true))=some r:=H;have A4:=QA au;clear au
  by_cases c5:Y=true
  ·subst c5;have H1:(Qas.j0 k a0 l1 (decide ((l1.length:Int) > 1500)))=some r:=by rw[if_pos rfl]at H;exact H
   clear H;have H:=H1;clear H1;have H':=QA H;clear H
   go_wp2_with (first |((with_reducible refine Qjs (f:=42) rfl ?_);refine Qhs (some 13) rfl rfl Tryz.func42 qq_7 rfl #[] rfl qq_1 ?_;(with_reducible refine(Qat.calls k  true _ A4.out).mono ?_);rintro e w6 ⟨rfl,hb⟩;refine⟨_,rfl,?_⟩;have n_:=qn1 (Qgi qq_b hb);clear HB;have HB:=n_;clear n_;(try clear hb);(try clear hb2);(try clear hk);(try clear hi)))
   go_meet
   case rel=>exact⟨_,(decide ((l1.length:Int) > 1500)),qq_8,H',⟨by first|omega|exact Nat.le_refl _⟩,⟨qq_b⟩⟩
  ·replace c5:=Bool.eq_false_iff.mpr c5;subst c5;have H1:(Qas.j0 k a0 l1 true)=some r:=by rw[if_neg (show ¬(false=true)by decide)]at H;exact H
   clear H;have H:=H1;clear H1;have H':=QA H;clear H
   go_wp2_with (first |((with_reducible refine Qjs (f:=42) rfl ?_);refine Qhs (some 13) rfl rfl Tryz.func42 qq_7 rfl #[] rfl qq_1 ?_;(with_reducible refine(Qat.calls k  false _ A4.out).mono ?_);rintro e w7 ⟨rfl,hb⟩;refine⟨_,rfl,?_⟩;have n_:=qn1 (Qgi qq_b hb);clear HB;have HB:=n_;clear n_;(try clear hb);(try clear hb2);(try clear hk);(try clear hi)))
   go_meet
   case rel=>exact⟨_,(true),qq_8,H',⟨by first|omega|exact Nat.le_refl _⟩,⟨qq_b⟩⟩
 case rest =>
  clear ai
  try clear c1
  try clear c5
  obtain⟨kq,G,rfl,HA,HJ2,HB⟩:=hcut
  cases kq with
  | zero=>exact absurd HA.out (by simp[Qas.j0])
  | succ kj2 =>
   have H:=HA.out;clear HA;simp only[Qas.j0]at H
   by_cases c8:G=true
   ·subst c8;have H1:((Qat.f kj2).bind fun Z=>(some Z))=some r:=by rw[if_pos rfl]at H;exact H
    clear H;have H:=H1;clear H1;replace H:=Option.bind_eq_some_iff.mp H;obtain⟨Z,av,H⟩:=H;replace H:(some Z)=some r:=H;have A9:=QA av;clear av;obtain rfl:=Option.some.inj H
    go_wp2_with (first |((with_reducible refine Qjs (f:=42) rfl ?_);refine Qhs (some 20) rfl rfl Tryz.func42 qq_7 rfl #[] rfl qq_1 ?_;(with_reducible refine(Qat.calls kj2  Z _ A9.out).mono ?_);rintro e bB ⟨rfl,hb⟩;refine⟨_,rfl,?_⟩;have n_:=qn1 (Qgi qq_b hb);clear HB;have HB:=n_;clear n_;(try clear hb);(try clear hb2);(try clear hk);(try clear hi)))
    go_ret
    exact⟨by first|rfl |(simp[Qjz,Qka]<;>rfl) |(simp[*,Qjz,Qka]<;>rfl),qq_b⟩
   ·replace c8:=Bool.eq_false_iff.mpr c8;subst c8;have H1:((Qaq.f a0).bind fun bt809=>((some (([]:List Int):List Int)).bind fun n=>(if n.length+l1.length<140737488355328 then((some (n++l1:List Int)).bind fun m=>((Qcx.f kj2 bt809.1 bt809.2 m).bind fun bt818=>((Qcm.f kj2 bt809.1 bt809.2 (strOfNums l1)).bind fun bt823=>(if(strOfNums bt818.1).toList=bt823.1.toList then(if bt818.2.1=bt823.2.1 then(if bt818.2.2=bt823.2.2 then(some ((strOfNums m).toList == (strOfNums l1).toList))else(some false))else(some false))else(some false)))))else(none))))=some r:=by rw[if_neg (show ¬(false=true)by decide)]at H;exact H
    clear H;have H:=H1;clear H1;replace H:=Option.bind_eq_some_iff.mp H;obtain⟨⟨d,j⟩,aj,H⟩:=H;replace H:((some (([]:List Int):List Int)).bind fun n=>(if n.length+l1.length<140737488355328 then((some (n++l1:List Int)).bind fun m=>((Qcx.f kj2 d j m).bind fun bt818=>((Qcm.f kj2 d j (strOfNums l1)).bind fun bt823=>(if(strOfNums bt818.1).toList=bt823.1.toList then(if bt818.2.1=bt823.2.1 then(if bt818.2.2=bt823.2.2 then(some ((strOfNums m).toList == (strOfNums l1).toList))else(some false))else(some false))else(some false)))))else(none)))=some r:=H;have ae:=QA aj;clear aj;obtain⟨n,D⟩:∃y_:List Int,y_=(([]:List Int)):=⟨_,rfl⟩;replace H:(if n.length+l1.length<140737488355328 then((some (n++l1:List Int)).bind fun m=>((Qcx.f kj2 d j m).bind fun bt818=>((Qcm.f kj2 d j (strOfNums l1)).bind fun bt823=>(if(strOfNums bt818.1).toList=bt823.1.toList then(if bt818.2.1=bt823.2.1 then(if bt818.2.2=bt823.2.2 then(some ((strOfNums m).toList == (strOfNums l1).toList))else(some false))else(some false))else(some false)))))else(none))=some r:=by first |(rw[D];with_reducible exact H) |(have K:=(Option.bind_some _ _).symm.trans H;rw[D];with_reducible exact K) |(have K:=(Option.bind_some _ _).symm.trans H;with_reducible exact K)|with_reducible exact H |(rw[D];exact H)|exact H
    have u:=QA D;clear D
    by_cases af:n.length+l1.length<140737488355328
    ·rw [if_pos af]at H;have I:=QA af;clear af;obtain⟨m,E⟩:∃y_:List Int,y_=(n++l1):=⟨_,rfl⟩;replace H:((Qcx.f kj2 d j m).bind fun bt818=>((Qcm.f kj2 d j (strOfNums l1)).bind fun bt823=>(if(strOfNums bt818.1).toList=bt823.1.toList then(if bt818.2.1=bt823.2.1 then(if bt818.2.2=bt823.2.2 then(some ((strOfNums m).toList == (strOfNums l1).toList))else(some false))else(some false))else(some false))))=some r:=by first |(rw[E];with_reducible exact H) |(have K:=(Option.bind_some _ _).symm.trans H;rw[E];with_reducible exact K) |(have K:=(Option.bind_some _ _).symm.trans H;with_reducible exact K)|with_reducible exact H |(rw[E];exact H)|exact H
     have J:=QA E;clear E;replace H:=Option.bind_eq_some_iff.mp H;obtain⟨⟨p,q,s⟩,ak,H⟩:=H;replace H:((Qcm.f kj2 d j (strOfNums l1)).bind fun bt823=>(if(strOfNums p).toList=bt823.1.toList then(if q=bt823.2.1 then(if s=bt823.2.2 then(some ((strOfNums m).toList == (strOfNums l1).toList))else(some false))else(some false))else(some false)))=some r:=H;have ag:=QA ak;clear ak;replace H:=Option.bind_eq_some_iff.mp H;obtain⟨⟨v,x,y⟩,al,H⟩:=H;replace H:(if(strOfNums p).toList=v.toList then(if q=x then(if s=y then(some ((strOfNums m).toList == (strOfNums l1).toList))else(some false))else(some false))else(some false))=some r:=H;have ah:=QA al;clear al
     by_cases L:(strOfNums p).toList=v.toList
     ·rw[if_pos L]at H;have am:((strOfNums p).toList == v.toList)=true:=beq_iff_eq.mpr L;have an:((strOfNums p).toList != v.toList)=false:=bne_eq_false_iff_eq.mpr L;clear L
      by_cases M:q=x
      ·rw[if_pos M]at H;have ao:(q == x)=true:=beq_iff_eq.mpr M;have ap:(q != x)=false:=bne_eq_false_iff_eq.mpr M;clear M
       by_cases O:s=y
       ·rw[if_pos O]at H;have aq:(s == y)=true:=beq_iff_eq.mpr O;have ar:(s != y)=false:=bne_eq_false_iff_eq.mpr O;clear O;obtain rfl:=Option.some.inj H
        go_wp2_with (first |((with_reducible refine Qjs (f:=17) rfl ?_);refine Qhs (some 22) rfl rfl Tryz.func17 qq_7 rfl #[.int .u8 a0] rfl qq_1 ?_;(with_reducible refine(Qaq.calls a0 d j _ ae.out).mono ?_);rintro e bC ⟨rfl,hb⟩;refine⟨_,rfl,?_⟩;have n_:=qn1 (Qgi qq_b hb);clear HB;have HB:=n_;clear n_;(try clear hb);(try clear hb2);(try clear hk);(try clear hi)) |((with_reducible refine Qgt (N:=5) rfl ?_);(try(refine Qjj (by rfl) ?_;dsimp only));refine qq_e 5 #[.int .u8 0,.int .u32 0] 27 ?_;intro l hg bD hbox hb;have n_:=qn4 (Qgi qq_b hb) (hbox) (qq_s hg:w.heap.size≤l) (qq_s hg:w.heap.size≤l);clear HB;obtain⟨HB,a,aa,ab⟩:=n_;clear hb hbox hg;obtain⟨aw,ax⟩:=qc2 a.out;have bb:=Qep a.out) |((with_reducible refine Qgt (N:=23) rfl ?_);(try(refine Qjj (by rfl) ?_;dsimp only));refine Kd.R_lit (Kd.int .u8) _ 5 ?hg (N:=23) ?hd (xs:=([]:List Int)) (inner:=[]) (ok:=fun _=>True) (okp:=fun _=>True) ?hr ?hp (fun _ hk=>hk) trivial (Below.refl _ _) (Nat.le_refl _) (by simp) ?_;(case hd=>rfl);(case hg=>rfl);(case hr=>exact qq_13);(case hp=>exact(Reps.none _ _));intro z bE T hb hg_ hnew_;clear hg_ hnew_;(first|rw[← u.out]at T |(simp only[Int.reduceToNat]at T;rw[← u.out]at T));have n_:=qn3 (Kd.R_lower T (Qgh qq_b)) (Qfd (g:=l) (o:=.cells #[.int .u8 d,.int .u32 j] 27 (0,0)) qq_x hb) (Qgi qq_b hb);clear a HB;obtain⟨HO814,a,HB⟩:=n_;clear hb T) |((with_reducible refine Qjt (b:=.append) (xs:=#[.tmp 23,.tmp 24]) rfl ?_);(try(refine Qjj (by rfl) ?_;dsimp only));at_builtin;refine Kd.R_append_rows (Kd.int .u8) (w0:=w) w.heap.size rfl (.tmp 23) (.tmp 24) 52 5 (.int .u8 0) 1 rfl Tryz.underlying52 Qkb rfl (by decide) (by omega) z n l1 _ _ _ (fun _=>True) (fun _=>False) rfl rfl ?aO ?aR (fun _ _ h=>h) (fun _ h=>h.elim) ?aF ?aB ?aS ?aL ?_;(case aR=>repeat(first|exact(Kd.C_below B.out HB.out) |(with_reducible refine Kd.C_alloc ?_ _) |(with_reducible refine Kd.C_drewN ?_ _) |(with_reducible refine Kd.C_drew ?_)));(case aB=>exact qq_b);(case aF=>exact(fun _ _=>trivial));(case aO=>exact qq_22);(case aS=>exact(Qgh qq_b));(case aL=>have:=I.out;omega);intro ac bF ho hb hg hat;rw[← J.out]at ho;have n_:=qn3 (Qeq (g:=l) (o:=.cells #[.int .u8 d,.int .u32 j] 27 (0,0)) qq_0 hg (Kd.R_ne HO814.out a.out (by decide))) (hb) (ho);clear a HB HO814;obtain⟨a,HB,HO817⟩:=n_;clear ho hb hg hat;obtain⟨ay,az⟩:=qc2 a.out;have bc:=Qep a.out;obtain⟨Ao25,co25,eo25⟩:=Kd.R_slice HO817.out;subst eo25) |((with_reducible refine Qjs (f:=43) rfl ?_);refine Qhs (some 29) rfl rfl Tryz.func43 qq_7 rfl #[.agg #[.int .u8 d,.int .u32 j],.slice Ao25 m.length co25] rfl qq_1 ?_;(with_reducible refine(Qcx.calls kj2 d j _ _ m p q s _ ?side1 ?side2 ag.out).mono ?_);(case side1=>repeat(first|exact(Kd.R_reads' HO817.out).2.2 |(with_reducible refine Kd.C_alloc ?_ _) |(with_reducible refine Kd.C_drewN ?_ _) |(with_reducible refine Kd.C_drew ?_)));(case side2=>exact(Kd.R_reads' HO817.out).2.1);rintro e bG ⟨ad,rfl,t,hb⟩;refine⟨_,rfl,?_⟩;have n_:=qn4 (Kd.R_elder' qq_11 (Kd.R_base t) hb) (Kd.R_lower (Kd.R_new' t (Kd.R_lt qq_11)) (Qgh qq_b)) (Qfd (g:=l) (o:=.cells #[.int .u8 d,.int .u32 j] 27 (0,0)) qq_0 hb) (Qgi qq_b hb);clear HO817 a HB;obtain⟨HO817,HO820,a,HB⟩:=n_;(try clear hb);(try clear hb2);(try clear hk);(try clear hi);(try clear t);obtain⟨aA,aC⟩:=qc2 a.out;have bd:=Qep a.out;have be:=Kd.C_string (P:=Tryz.prog) (A:=A1) (c:=c1) Tryz.underlying52 Tryz.underlying5 Tryz.underlying9 (Kd.C_below B.out HB.out)) |((with_reducible refine Qjs (f:=44) rfl ?_);refine Qhs (some 37) rfl rfl Tryz.func44 qq_7 rfl #[.agg #[.int .u8 d,.int .u32 j],.string (strOfNums l1)] rfl qq_1 ?_;(with_reducible refine(Qcm.calls kj2 d j (strOfNums l1) v x y _ ah.out).mono ?_);rintro e bH ⟨rfl,hb⟩;refine⟨_,rfl,?_⟩;have n_:=qn4 (Kd.R_below qq_11 hb) (Kd.R_below qq_21 hb) (Qfd (g:=l) (o:=.cells #[.int .u8 d,.int .u32 j] 27 (0,0)) qq_0 hb) (Qgi qq_b hb);clear HO817 HO820 a HB;obtain⟨HO817,HO820,a,HB⟩:=n_;(try clear hb);(try clear hb2);(try clear hk);(try clear hi);have bf:=Qdz (P:=Tryz.prog) Tryz.underlying52 Tryz.underlying5 Tryz.underlying9 (Kd.own_of_R HO820.out);have bg:=Qdz (P:=Tryz.prog) Tryz.underlying52 Tryz.underlying5 Tryz.underlying9 (Kd.own_of_R HO817.out);have bh:=Kd.C_string (P:=Tryz.prog) (A:=A1) (c:=c1) Tryz.underlying52 Tryz.underlying5 Tryz.underlying9 (Kd.C_below B.out HB.out)))
        go_ret
        exact⟨by first|rfl |(simp[Qjz,Qka]<;>rfl) |(simp[*,Qjz,Qka]<;>rfl),qq_b⟩
       ·rw[if_neg O]at H;have aq:(s == y)=false:=beq_eq_false_iff_ne.mpr O;have ar:(s != y)=true:=bne_iff_ne.mpr O;obtain rfl:=Option.some.inj H
        go_wp2_with (first |((with_reducible refine Qjs (f:=17) rfl ?_);refine Qhs (some 22) rfl rfl Tryz.func17 qq_7 rfl #[.int .u8 a0] rfl qq_1 ?_;(with_reducible refine(Qaq.calls a0 d j _ ae.out).mono ?_);rintro e bI ⟨rfl,hb⟩;refine⟨_,rfl,?_⟩;have n_:=qn1 (Qgi qq_b hb);clear HB;have HB:=n_;clear n_;(try clear hb);(try clear hb2);(try clear hk);(try clear hi)) |((with_reducible refine Qgt (N:=5) rfl ?_);(try(refine Qjj (by rfl) ?_;dsimp only));refine qq_e 5 #[.int .u8 0,.int .u32 0] 27 ?_;intro l hg bJ hbox hb;have n_:=qn4 (Qgi qq_b hb) (hbox) (qq_s hg:w.heap.size≤l) (qq_s hg:w.heap.size≤l);clear HB;obtain⟨HB,a,aa,ab⟩:=n_;clear hb hbox hg;obtain⟨aD,aE⟩:=qc2 a.out;have bi:=Qep a.out) |((with_reducible refine Qgt (N:=23) rfl ?_);(try(refine Qjj (by rfl) ?_;dsimp only));refine Kd.R_lit (Kd.int .u8) _ 5 ?hg (N:=23) ?hd (xs:=([]:List Int)) (inner:=[]) (ok:=fun _=>True) (okp:=fun _=>True) ?hr ?hp (fun _ hk=>hk) trivial (Below.refl _ _) (Nat.le_refl _) (by simp) ?_;(case hd=>rfl);(case hg=>rfl);(case hr=>exact qq_13);(case hp=>exact(Reps.none _ _));intro z bK U hb hg_ hnew_;clear hg_ hnew_;(first|rw[← u.out]at U |(simp only[Int.reduceToNat]at U;rw[← u.out]at U));have n_:=qn3 (Kd.R_lower U (Qgh qq_b)) (Qfd (g:=l) (o:=.cells #[.int .u8 d,.int .u32 j] 27 (0,0)) qq_x hb) (Qgi qq_b hb);clear a HB;obtain⟨HO814,a,HB⟩:=n_;clear hb U) |((with_reducible refine Qjt (b:=.append) (xs:=#[.tmp 23,.tmp 24]) rfl ?_);(try(refine Qjj (by rfl) ?_;dsimp only));at_builtin;refine Kd.R_append_rows (Kd.int .u8) (w0:=w) w.heap.size rfl (.tmp 23) (.tmp 24) 52 5 (.int .u8 0) 1 rfl Tryz.underlying52 Qkb rfl (by decide) (by omega) z n l1 _ _ _ (fun _=>True) (fun _=>False) rfl rfl ?aO ?aR (fun _ _ h=>h) (fun _ h=>h.elim) ?aF ?aB ?aS ?aL ?_;(case aR=>repeat(first|exact(Kd.C_below B.out HB.out) |(with_reducible refine Kd.C_alloc ?_ _) |(with_reducible refine Kd.C_drewN ?_ _) |(with_reducible refine Kd.C_drew ?_)));(case aB=>exact qq_b);(case aF=>exact(fun _ _=>trivial));(case aO=>exact qq_22);(case aS=>exact(Qgh qq_b));(case aL=>have:=I.out;omega);intro ac bL ho hb hg hat;rw[← J.out]at ho;have n_:=qn3 (Qeq (g:=l) (o:=.cells #[.int .u8 d,.int .u32 j] 27 (0,0)) qq_0 hg (Kd.R_ne HO814.out a.out (by decide))) (hb) (ho);clear a HB HO814;obtain⟨a,HB,HO817⟩:=n_;clear ho hb hg hat;obtain⟨aG,aH⟩:=qc2 a.out;have bj:=Qep a.out;obtain⟨Ao40,co40,eo40⟩:=Kd.R_slice HO817.out;subst eo40) |((with_reducible refine Qjs (f:=43) rfl ?_);refine Qhs (some 29) rfl rfl Tryz.func43 qq_7 rfl #[.agg #[.int .u8 d,.int .u32 j],.slice Ao40 m.length co40] rfl qq_1 ?_;(with_reducible refine(Qcx.calls kj2 d j _ _ m p q s _ ?side1 ?side2 ag.out).mono ?_);(case side1=>repeat(first|exact(Kd.R_reads' HO817.out).2.2 |(with_reducible refine Kd.C_alloc ?_ _) |(with_reducible refine Kd.C_drewN ?_ _) |(with_reducible refine Kd.C_drew ?_)));(case side2=>exact(Kd.R_reads' HO817.out).2.1);rintro e bM ⟨ad,rfl,t,hb⟩;refine⟨_,rfl,?_⟩;have n_:=qn4 (Kd.R_elder' qq_11 (Kd.R_base t) hb) (Kd.R_lower (Kd.R_new' t (Kd.R_lt qq_11)) (Qgh qq_b)) (Qfd (g:=l) (o:=.cells #[.int .u8 d,.int .u32 j] 27 (0,0)) qq_0 hb) (Qgi qq_b hb);clear HO817 a HB;obtain⟨HO817,HO820,a,HB⟩:=n_;(try clear hb);(try clear hb2);(try clear hk);(try clear hi);(try clear t);obtain⟨aI,aJ⟩:=qc2 a.out;have bk:=Qep a.out;have bl:=Kd.C_string (P:=Tryz.prog) (A:=A1) (c:=c1) Tryz.underlying52 Tryz.underlying5 Tryz.underlying9 (Kd.C_below B.out HB.out)) |((with_reducible refine Qjs (f:=44) rfl ?_);refine Qhs (some 37) rfl rfl Tryz.func44 qq_7 rfl #[.agg #[.int .u8 d,.int .u32 j],.string (strOfNums l1)] rfl qq_1 ?_;(with_reducible refine(Qcm.calls kj2 d j (strOfNums l1) v x y _ ah.out).mono ?_);rintro e bN ⟨rfl,hb⟩;refine⟨_,rfl,?_⟩;have n_:=qn4 (Kd.R_below qq_11 hb) (Kd.R_below qq_21 hb) (Qfd (g:=l) (o:=.cells #[.int .u8 d,.int .u32 j] 27 (0,0)) qq_0 hb) (Qgi qq_b hb);clear HO817 HO820 a HB;obtain⟨HO817,HO820,a,HB⟩:=n_;(try clear hb);(try clear hb2);(try clear hk);(try clear hi);have bn:=Qdz (P:=Tryz.prog) Tryz.underlying52 Tryz.underlying5 Tryz.underlying9 (Kd.own_of_R HO820.out)))
        go_ret
        exact⟨by first|rfl |(simp[Qjz,Qka]<;>rfl) |(simp[*,Qjz,Qka]<;>rfl),qq_b⟩
      ·rw[if_neg M]at H;have ao:(q == x)=false:=beq_eq_false_iff_ne.mpr M;have ap:(q != x)=true:=bne_iff_ne.mpr M;obtain rfl:=Option.some.inj H
       go_wp2_with (first |((with_reducible refine Qjs (f:=17) rfl ?_);refine Qhs (some 22) rfl rfl Tryz.func17 qq_7 rfl #[.int .u8 a0] rfl qq_1 ?_;(with_reducible refine(Qaq.calls a0 d j _ ae.out).mono ?_);rintro e bO ⟨rfl,hb⟩;refine⟨_,rfl,?_⟩;have n_:=qn1 (Qgi qq_b hb);clear HB;have HB:=n_;clear n_;(try clear hb);(try clear hb2);(try clear hk);(try clear hi)) |((with_reducible refine Qgt (N:=5) rfl ?_);(try(refine Qjj (by rfl) ?_;dsimp only));refine qq_e 5 #[.int .u8 0,.int .u32 0] 27 ?_;intro l hg bP hbox hb;have n_:=qn4 (Qgi qq_b hb) (hbox) (qq_s hg:w.heap.size≤l) (qq_s hg:w.heap.size≤l);clear HB;obtain⟨HB,a,aa,ab⟩:=n_;clear hb hbox hg;obtain⟨aK,aM⟩:=qc2 a.out;have bo:=Qep a.out) |((with_reducible refine Qgt (N:=23) rfl ?_);(try(refine Qjj (by rfl) ?_;dsimp only));refine Kd.R_lit (Kd.int .u8) _ 5 ?hg (N:=23) ?hd (xs:=([]:List Int)) (inner:=[]) (ok:=fun _=>True) (okp:=fun _=>True) ?hr ?hp (fun _ hk=>hk) trivial (Below.refl _ _) (Nat.le_refl _) (by simp) ?_;(case hd=>rfl);(case hg=>rfl);(case hr=>exact qq_13);(case hp=>exact(Reps.none _ _));intro z bQ W hb hg_ hnew_;clear hg_ hnew_;(first|rw[← u.out]at W |(simp only[Int.reduceToNat]at W;rw[← u.out]at W));have n_:=qn3 (Kd.R_lower W (Qgh qq_b)) (Qfd (g:=l) (o:=.cells #[.int .u8 d,.int .u32 j] 27 (0,0)) qq_x hb) (Qgi qq_b hb);clear a HB;obtain⟨HO814,a,HB⟩:=n_;clear hb W) |((with_reducible refine Qjt (b:=.append) (xs:=#[.tmp 23,.tmp 24]) rfl ?_);(try(refine Qjj (by rfl) ?_;dsimp only));at_builtin;refine Kd.R_append_rows (Kd.int .u8) (w0:=w) w.heap.size rfl (.tmp 23) (.tmp 24) 52 5 (.int .u8 0) 1 rfl Tryz.underlying52 Qkb rfl (by decide) (by omega) z n l1 _ _ _ (fun _=>True) (fun _=>False) rfl rfl ?aO ?aR (fun _ _ h=>h) (fun _ h=>h.elim) ?aF ?aB ?aS ?aL ?_;(case aR=>repeat(first|exact(Kd.C_below B.out HB.out) |(with_reducible refine Kd.C_alloc ?_ _) |(with_reducible refine Kd.C_drewN ?_ _) |(with_reducible refine Kd.C_drew ?_)));(case aB=>exact qq_b);(case aF=>exact(fun _ _=>trivial));(case aO=>exact qq_22);(case aS=>exact(Qgh qq_b));(case aL=>have:=I.out;omega);intro ac bR ho hb hg hat;rw[← J.out]at ho;have n_:=qn3 (Qeq (g:=l) (o:=.cells #[.int .u8 d,.int .u32 j] 27 (0,0)) qq_0 hg (Kd.R_ne HO814.out a.out (by decide))) (hb) (ho);clear a HB HO814;obtain⟨a,HB,HO817⟩:=n_;clear ho hb hg hat;obtain⟨aN,aP⟩:=qc2 a.out;have bp:=Qep a.out;obtain⟨Ao53,co53,eo53⟩:=Kd.R_slice HO817.out;subst eo53) |((with_reducible refine Qjs (f:=43) rfl ?_);refine Qhs (some 29) rfl rfl Tryz.func43 qq_7 rfl #[.agg #[.int .u8 d,.int .u32 j],.slice Ao53 m.length co53] rfl qq_1 ?_;(with_reducible refine(Qcx.calls kj2 d j _ _ m p q s _ ?side1 ?side2 ag.out).mono ?_);(case side1=>repeat(first|exact(Kd.R_reads' HO817.out).2.2 |(with_reducible refine Kd.C_alloc ?_ _) |(with_reducible refine Kd.C_drewN ?_ _) |(with_reducible refine Kd.C_drew ?_)));(case side2=>exact(Kd.R_reads' HO817.out).2.1);rintro e bS ⟨ad,rfl,t,hb⟩;refine⟨_,rfl,?_⟩;have n_:=qn4 (Kd.R_elder' qq_11 (Kd.R_base t) hb) (Kd.R_lower (Kd.R_new' t (Kd.R_lt qq_11)) (Qgh qq_b)) (Qfd (g:=l) (o:=.cells #[.int .u8 d,.int .u32 j] 27 (0,0)) qq_0 hb) (Qgi qq_b hb);clear HO817 a HB;obtain⟨HO817,HO820,a,HB⟩:=n_;(try clear hb);(try clear hb2);(try clear hk);(try clear hi);(try clear t);obtain⟨aQ,aT⟩:=qc2 a.out;have bq:=Qep a.out;have br:=Kd.C_string (P:=Tryz.prog) (A:=A1) (c:=c1) Tryz.underlying52 Tryz.underlying5 Tryz.underlying9 (Kd.C_below B.out HB.out)) |((with_reducible refine Qjs (f:=44) rfl ?_);refine Qhs (some 37) rfl rfl Tryz.func44 qq_7 rfl #[.agg #[.int .u8 d,.int .u32 j],.string (strOfNums l1)] rfl qq_1 ?_;(with_reducible refine(Qcm.calls kj2 d j (strOfNums l1) v x y _ ah.out).mono ?_);rintro e bT ⟨rfl,hb⟩;refine⟨_,rfl,?_⟩;have n_:=qn4 (Kd.R_below qq_11 hb) (Kd.R_below qq_21 hb) (Qfd (g:=l) (o:=.cells #[.int .u8 d,.int .u32 j] 27 (0,0)) qq_0 hb) (Qgi qq_b hb);clear HO817 HO820 a HB;obtain⟨HO817,HO820,a,HB⟩:=n_;(try clear hb);(try clear hb2);(try clear hk);(try clear hi);have bs:=Qdz (P:=Tryz.prog) Tryz.underlying52 Tryz.underlying5 Tryz.underlying9 (Kd.own_of_R HO820.out)))
       go_ret
       exact⟨by first|rfl |(simp[Qjz,Qka]<;>rfl) |(simp[*,Qjz,Qka]<;>rfl),qq_b⟩
     ·rw[if_neg L]at H;have am:((strOfNums p).toList == v.toList)=false:=beq_eq_false_iff_ne.mpr L;have an:((strOfNums p).toList != v.toList)=true:=bne_iff_ne.mpr L;obtain rfl:=Option.some.inj H
      go_wp2_with (first |((with_reducible refine Qjs (f:=17) rfl ?_);refine Qhs (some 22) rfl rfl Tryz.func17 qq_7 rfl #[.int .u8 a0] rfl qq_1 ?_;(with_reducible refine(Qaq.calls a0 d j _ ae.out).mono ?_);rintro e bU ⟨rfl,hb⟩;refine⟨_,rfl,?_⟩;have n_:=qn1 (Qgi qq_b hb);clear HB;have HB:=n_;clear n_;(try clear hb);(try clear hb2);(try clear hk);(try clear hi)) |((with_reducible refine Qgt (N:=5) rfl ?_);(try(refine Qjj (by rfl) ?_;dsimp only));refine qq_e 5 #[.int .u8 0,.int .u32 0] 27 ?_;intro l hg bV hbox hb;have n_:=qn4 (Qgi qq_b hb) (hbox) (qq_s hg:w.heap.size≤l) (qq_s hg:w.heap.size≤l);clear HB;obtain⟨HB,a,aa,ab⟩:=n_;clear hb hbox hg;obtain⟨aU,aV⟩:=qc2 a.out;have bu:=Qep a.out) |((with_reducible refine Qgt (N:=23) rfl ?_);(try(refine Qjj (by rfl) ?_;dsimp only));refine Kd.R_lit (Kd.int .u8) _ 5 ?hg (N:=23) ?hd (xs:=([]:List Int)) (inner:=[]) (ok:=fun _=>True) (okp:=fun _=>True) ?hr ?hp (fun _ hk=>hk) trivial (Below.refl _ _) (Nat.le_refl _) (by simp) ?_;(case hd=>rfl);(case hg=>rfl);(case hr=>exact qq_13);(case hp=>exact(Reps.none _ _));intro z bW X hb hg_ hnew_;clear hg_ hnew_;(first|rw[← u.out]at X |(simp only[Int.reduceToNat]at X;rw[← u.out]at X));have n_:=qn3 (Kd.R_lower X (Qgh qq_b)) (Qfd (g:=l) (o:=.cells #[.int .u8 d,.int .u32 j] 27 (0,0)) qq_x hb) (Qgi qq_b hb);clear a HB;obtain⟨HO814,a,HB⟩:=n_;clear hb X) |((with_reducible refine Qjt (b:=.append) (xs:=#[.tmp 23,.tmp 24]) rfl ?_);(try(refine Qjj (by rfl) ?_;dsimp only));at_builtin;refine Kd.R_append_rows (Kd.int .u8) (w0:=w) w.heap.size rfl (.tmp 23) (.tmp 24) 52 5 (.int .u8 0) 1 rfl Tryz.underlying52 Qkb rfl (by decide) (by omega) z n l1 _ _ _ (fun _=>True) (fun _=>False) rfl rfl ?aO ?aR (fun _ _ h=>h) (fun _ h=>h.elim) ?aF ?aB ?aS ?aL ?_;(case aR=>repeat(first|exact(Kd.C_below B.out HB.out) |(with_reducible refine Kd.C_alloc ?_ _) |(with_reducible refine Kd.C_drewN ?_ _) |(with_reducible refine Kd.C_drew ?_)));(case aB=>exact qq_b);(case aF=>exact(fun _ _=>trivial));(case aO=>exact qq_22);(case aS=>exact(Qgh qq_b));(case aL=>have:=I.out;omega);intro ac bX ho hb hg hat;rw[← J.out]at ho;have n_:=qn3 (Qeq (g:=l) (o:=.cells #[.int .u8 d,.int .u32 j] 27 (0,0)) qq_0 hg (Kd.R_ne HO814.out a.out (by decide))) (hb) (ho);clear a HB HO814;obtain⟨a,HB,HO817⟩:=n_;clear ho hb hg hat;obtain⟨aW,aX⟩:=qc2 a.out;have bv:=Qep a.out;obtain⟨Ao66,co66,eo66⟩:=Kd.R_slice HO817.out;subst eo66) |((with_reducible refine Qjs (f:=43) rfl ?_);refine Qhs (some 29) rfl rfl Tryz.func43 qq_7 rfl #[.agg #[.int .u8 d,.int .u32 j],.slice Ao66 m.length co66] rfl qq_1 ?_;(with_reducible refine(Qcx.calls kj2 d j _ _ m p q s _ ?side1 ?side2 ag.out).mono ?_);(case side1=>repeat(first|exact(Kd.R_reads' HO817.out).2.2 |(with_reducible refine Kd.C_alloc ?_ _) |(with_reducible refine Kd.C_drewN ?_ _) |(with_reducible refine Kd.C_drew ?_)));(case side2=>exact(Kd.R_reads' HO817.out).2.1);rintro e bY ⟨ad,rfl,t,hb⟩;refine⟨_,rfl,?_⟩;have n_:=qn4 (Kd.R_elder' qq_11 (Kd.R_base t) hb) (Kd.R_lower (Kd.R_new' t (Kd.R_lt qq_11)) (Qgh qq_b)) (Qfd (g:=l) (o:=.cells #[.int .u8 d,.int .u32 j] 27 (0,0)) qq_0 hb) (Qgi qq_b hb);clear HO817 a HB;obtain⟨HO817,HO820,a,HB⟩:=n_;(try clear hb);(try clear hb2);(try clear hk);(try clear hi);(try clear t);obtain⟨aY,aZ⟩:=qc2 a.out;have bw:=Qep a.out;have bx:=Kd.C_string (P:=Tryz.prog) (A:=A1) (c:=c1) Tryz.underlying52 Tryz.underlying5 Tryz.underlying9 (Kd.C_below B.out HB.out)) |((with_reducible refine Qjs (f:=44) rfl ?_);refine Qhs (some 37) rfl rfl Tryz.func44 qq_7 rfl #[.agg #[.int .u8 d,.int .u32 j],.string (strOfNums l1)] rfl qq_1 ?_;(with_reducible refine(Qcm.calls kj2 d j (strOfNums l1) v x y _ ah.out).mono ?_);rintro e bZ ⟨rfl,hb⟩;refine⟨_,rfl,?_⟩;have n_:=qn4 (Kd.R_below qq_11 hb) (Kd.R_below qq_21 hb) (Qfd (g:=l) (o:=.cells #[.int .u8 d,.int .u32 j] 27 (0,0)) qq_0 hb) (Qgi qq_b hb);clear HO817 HO820 a HB;obtain⟨HO817,HO820,a,HB⟩:=n_;(try clear hb);(try clear hb2);(try clear hk);(try clear hi);have bz:=Qdz (P:=Tryz.prog) Tryz.underlying52 Tryz.underlying5 Tryz.underlying9 (Kd.own_of_R HO820.out)))
      go_ret
      exact⟨by first|rfl |(simp[Qjz,Qka]<;>rfl) |(simp[*,Qjz,Qka]<;>rfl),qq_b⟩
    ·rw[if_neg af]at H;exact absurd H (by simp)
def fascicleref27_Prefix.T4:Bool × List (List Nat × List Nat):=(true,[([],[]),([],[]),([1],[1]),([0,2,2],[0,2]),([3],[3]),([4],[4]),([4],[4]),([5,3,0,1,2,3,4,5],[5]),([6,7,0,1,2,3,4,5,6,7],[6])])
def fascicleref27_Prefix.B4:List Nat:=[0,0,2,7,15,31,31,63,255]
end Go.Proofs.YtnnofopfbeklbaaGreat.C
end
section
namespace Go.Proofs.YtnnofopfbeklbaaGreat.Open
open Go.RowKit Go.Proofs.YtnnofopfbeklbaaGreatW.PrintWords Go.ChangeShapes Go.WideShapes Go.Deep
structure Opens (P:Program) (t:TypeId) {α:Type} (d:Kd α) (G:α→Prop):Prop where
  sz:P.cellsOf t=d.sz
  out:∀ {H:Type} {enc:TypeId × Value→H} {w:World} {base:Nat} {spare:Nat→Bool} {held:Bool} {fuel:Nat} {cs:List Value} {x:DataW H × List MemPlace},
    DataW.trod enc P w base spare held fuel t cs=some x→(∀n∈DataW.weights P t x.1,n≤reachBytes)→∃v,d.K w v cs∧G v
theorem Qwe{P:Program}{t:TypeId}{k:IntKind}(ht:P.underlying t=some (.int k))(hc:P.cellsOf t=1):Opens P t (Kd.int k) (fun n=>(Lit.int k n).wf=true) :=
 ⟨hc,fun h _=>by
  obtain⟨b,rfl,_,hw⟩:=DataW.trod_int ht h
  exact⟨b,rfl,hw⟩⟩
theorem Qwf{H:Type}{P:Program}{e:TypeId}{n:Nat}:∀ {ds:List (DataW H)} {d:DataW H},d∈ds→n∈DataW.weights P e d→n∈DataW.weightsAll P e ds
 | [],_,h,_=>by simp at h
 | a :: r,d,h,hn=>by
  simp only[DataW.weightsAll]
  rcases List.mem_cons.1 h with rfl|h
  ·exact List.mem_append_left _ hn
  ·exact List.mem_append_right _ (Qwf h hn)
theorem Qwg{P:Program}{t e:TypeId}{α:Type}{d:Kd α}{G:α→Prop}{B:Nat}(ht:P.underlying t=some (.slice e))(hc:P.cellsOf t=1)(hB:P.bytesOf e=B)(he:Opens P e d G) :
  Opens P t (Kd.slice e d) (fun xs=>xs.length*B≤140737488351232∧∀x∈xs,G x) :=
 ⟨hc, fun {H enc w base spare held fuel cs x} h hs=>by
  rcases open_slice ht h with⟨rfl,rfl⟩ |⟨a,len,cap,m,n,D,Pl,rfl,hb,hl,hm,hmm,rfl,hx⟩
  ·exact⟨[],⟨none,0,rfl,Nat.zero_le _,rfl,by simp,fun hp=>absurd hp (by simp)⟩,by simp,by simp⟩
  have hlm:len≤m:=by rw[hmm];split<;>omega
  have hw:∀i,i<len→∃v,(∃cs',w.cells? base (a.add (i*P.cellsOf e)) (P.cellsOf e)=some cs'∧d.K w v cs')∧G v:=by
   intro i hi
   obtain⟨cs',h1,h2⟩:=hx i (by omega)
   obtain⟨v,hv,hg⟩:=he.out h2 (fun q hq=>hs q (by
    simp only[DataW.weights,ht]
    refine List.mem_cons_of_mem _ (List.mem_append_left _ (Qwf (d:=D i) ?_ hq))
    exact List.mem_map.2 ⟨i,List.mem_range.2 hi,rfl⟩))
   exact⟨v,⟨cs',h1,hv⟩,hg⟩
  have hw':∃xs:List α,xs.length=len∧∀i p,xs[i]? = some p→(∃cs',w.cells? base (a.add (i*P.cellsOf e)) (P.cellsOf e)=some cs'∧d.K w p cs')∧G p:=by
   clear hs hx hmm hlm hm hl h
   induction len with
   | zero=>exact⟨[],rfl,by simp⟩
   | succ q ih =>
    obtain⟨xs,hxl,hxs⟩:=ih (fun i hi=>hw i (by omega))
    obtain⟨v,hv⟩:=hw q (by omega)
    refine⟨xs++[v],by simp[hxl],fun i p hp=>?_⟩
    rcases Nat.lt_or_ge i xs.length with hi|hi
    ·rw[List.getElem?_append_left hi]at hp
     exact hxs i p hp
    ·have:i=q:=by
      have:=(List.getElem?_eq_some_iff.1 hp).1
      simp at this
      omega
     subst this
     rw[← hxl]at hp
     have:v=p:=by simpa using hp
     subst this
     exact hv
  obtain⟨xs,hxl,hxs⟩:=hw'
  have hlen:len*B≤140737488351232:=by
   have:=hs ((((List.range len).map D).length+((List.range (m-len)).map fun j=>D (len+j)).length)*P.bytesOf e) (by simp[DataW.weights,ht])
   rw[hB]at this
   have h2:(((List.range len).map D).length+((List.range (m-len)).map fun j=>D (len+j)).length)=m:=by simp;omega
   rw[h2]at this
   have h3:m*B≤140737488351232:=by simpa [reachBytes]using this
   exact Nat.le_trans (Nat.mul_le_mul_right _ hlm) h3
  refine⟨xs,⟨some a,cap,by rw[hxl],by rw[hxl];exact hl,rfl,?_,fun hp=>⟨a,rfl,fun j p hj=>?_⟩⟩,by rw[hxl];exact hlen,fun x hx=>?_⟩
  ·rw[hxl]
   exact Nat.le_trans hl (by simpa [maxLen]using hm)
  ·obtain⟨⟨cs',h1,h2⟩,_⟩:=hxs j p hj
   obtain⟨_,hcl,hcc⟩:=World.cells?_some h1
   refine⟨cs',by rw[hcl,he.sz],h2,fun i u hu=>?_⟩
   have hi:i<P.cellsOf e:=by rw[← hcl];exact(List.getElem?_eq_some_iff.1 hu).1
   rw[he.sz]at hcc hi
   have:=hcc i hi
   rw[Go.Deep.add_add]at this
   rw[this,hu]
  ·obtain⟨i,hi⟩:=List.getElem?_of_mem hx
   exact(hxs i x hi).2⟩
structure OpensFs (P:Program) (ts:List TypeId) {α:Type} (d:Kd α) (G:α→Prop):Prop where
  sz:(ts.map P.cellsOf).sum=d.sz
  out:∀ {H:Type} {enc:TypeId × Value→H} {w:World} {base:Nat} {spare:Nat→Bool} {held:Bool} {fuel:Nat} {cs:List Value} {xs:List (DataW H × List MemPlace)},
    cs.length=(ts.map P.cellsOf).sum→xs.length=ts.length →
    (∀i t,ts[i]? = some t→DataW.trod enc P w base spare held fuel t ((cs.drop ((ts.take i).map P.cellsOf).sum).take (P.cellsOf t))=xs[i]?) →
    (∀n∈DataW.weightsEach P ts (xs.map (·.1)),n≤reachBytes)→∃v,d.K w v cs∧G v
theorem Qwh{H:Type}{P:Program}:∀ {ts:List TypeId} {ds:List (DataW H)} {j:Nat} {t:TypeId} {d:DataW H},(DataW.weightsEach P ts ds).all (·≤reachBytes)=true→ts[j]? = some t→ds[j]? = some d→∀n∈DataW.weights P t d,n≤reachBytes
 | [],_,_,_,_,_,h,_=>by simp at h
 | _ :: _,[],_,_,_,_,_,h=>by simp at h
 | t0 :: ts,d0 :: ds,0,t,d,hz,h1,h2=>by
  simp at h1 h2
  subst h1 h2
  intro n hn
  simp only[DataW.weightsEach]at hz
  exact of_decide_eq_true (List.all_eq_true.1 hz n (List.mem_append_left _ hn))
 | t0 :: ts,d0 :: ds,j+1,t,d,hz,h1,h2=>by
  simp only[DataW.weightsEach]at hz
  refine Qwh (ts:=ts) (ds:=ds) (j:=j) ?_ (by simpa using h1) (by simpa using h2)
  rw[List.all_append]at hz
  exact(Bool.and_eq_true _ _ ▸ hz).2
theorem Qwi{H:Type}{enc:TypeId × Value→H}{P:Program}{w:World}{base:Nat}{spare:Nat→Bool}{held:Bool}{t e:TypeId}{α:Type}{d:Kd α}{G:List α→Prop}(op:Opens P t (Kd.slice e d) G){a:Option Addr}{len cap:Nat}{x:DataW H}{ps:List MemPlace}
  (h:DataW.Trod enc P w base spare held t (.slice a len cap) x ps) (hs:∀n∈DataW.weights P t x,n≤reachBytes):∃l:List α,len=l.length∧l.length≤cap∧d.C w a l.length l∧G l:=by
 obtain⟨fuel,hf⟩:=h
 obtain⟨l,⟨A,c,he,hc,hr⟩,hg⟩:=op.out hf hs
 have he':[Value.slice a len cap]=[.slice A l.length c]:=by simpa [Value.cells]using he
 simp only[List.cons.injEq,Value.slice.injEq,and_true]at he'
 obtain⟨rfl,rfl,rfl⟩:=he'
 exact⟨l,rfl,hc,hr,hg⟩
end Go.Proofs.YtnnofopfbeklbaaGreat.Open
end
section
namespace Go.Proofs.YtnnofopfbeklbaaGreat.C
open Go.RowKit Go.Proofs.YtnnofopfbeklbaaGreatW.PrintWords Go.Proofs.YtnnofopfbeklbaaGreatW.PrintLast Go.Proofs.YtnnofopfbeklbaaGreatW.PrintMore Go.Proofs.YtnnofopfbeklbaaGreat.Open
theorem opT5:Opens Tryz.prog 5 (Kd.int .u8) (fun x=>(Lit.int .u8 x).wf=true):=Qwe Tryz.underlying5 (by kernel_rfl)
theorem opT52:Opens Tryz.prog 52 (Kd.slice 5 (Kd.int .u8)) (fun x=>(x.length*1≤140737488351232∧∀z1∈x,(Lit.int .u8 z1).wf=true)):=Qwg (B:=1) Tryz.underlying52 (by kernel_rfl) (by kernel_rfl) opT5
def Qas.Pure:Prop:=∀(x0:Int) (x1:List Int),(Lit.int .u8 x0).wf=true→(x1.length*1≤140737488351232∧∀z2∈x1,(Lit.int .u8 z2).wf=true)→∃k,Qas.f k x0 x1=some true
end Go.Proofs.YtnnofopfbeklbaaGreat.C
end
section
namespace Go.Proofs.YtnnofopfbeklbaaGreat.CodecP
open Go.RowKit Go.Proofs.YtnnofopfbeklbaaGreat.C Go.Proofs.YtnnofopfbeklbaaGreatW.PrintWords Go.Proofs.YtnnofopfbeklbaaGreatW.PrintLast Go.Proofs.YtnnofopfbeklbaaGreatW.PrintMore
theorem toList_iff{a b:ByteArray}:a.toList=b.toList↔bytesOf a=bytesOf b:=by
 refine⟨fun h=>?_,fun h=>by rw[Qwm h]⟩;rw[ByteArray.toList_eq,ByteArray.toList_eq]at h;unfold bytesOf;rw[h]
theorem valR_k{k:Nat}(x:ByteArray)(hx:x.size≤8)(hk:9≤k):Qav.f k x=some (leI (bytesOf x)):=by
 rw[← Qor x hx];exact Qeh (g:=fun k=>Qav.f k x) (Qav.mono x) (by omega) (Qnt x (by omega))
theorem thin_r(l:List Int)(hb:Bytes l)(hl:l.length≤4611686018427387904):R32 (Qqk 0 l):=by
 have h:=(Qwd 0 (strOfNums l) (by unfold R32;omega) (by rw[strOfNums_size];exact hl)).2
 rwa [Qwl hb]at h
def pre10(key val:ByteArray):List Int:=leb (key.size:Int) 4++leb (val.size:Int) 4++bytesOf key++bytesOf val
theorem rtext_is(key val:ByteArray)(h1:key.size≤100000000)(h2:val.size≤100000000)(k:Nat)(hk:9≤k) :
  ∃t,Qbs.f k key val=some t∧bytesOf t=pre10 key val++leb (Qqk 0 (pre10 key val)) 4:=by
 obtain⟨a,ha,hba⟩:=num1 k 4 (key.size:Int) (by omega) (by omega) (by omega) (by omega);obtain⟨b,hb,hbb⟩:=num1 k 4 (val.size:Int) (by omega) (by omega) (by omega) (by omega);have sa:a.size=4:=by rw[Qoq,hba,Qlb]
 have sb:b.size=4:=by rw[Qoq,hbb,Qlb]
 have hpre:bytesOf (((a++b)++key)++val)=pre10 key val:=by
  unfold pre10;rw[Qwj,Qwj,Qwj,hba,hbb]
 have hz:(((a++b)++key)++val).size=8+key.size+val.size:=by
  simp only[ByteArray.size_append];omega
 have hr:=(Qwd 0 (((a++b)++key)++val) (by unfold R32;omega) (by omega)).2;obtain⟨c,hc,hbc⟩:=num1 k 4 (Qqk 0 (pre10 key val)) (by omega) (by rw[← hpre];exact hr.1) (by rw[← hpre];have:=hr.2;omega) (by omega);have sc:c.size=4:=by rw[Qoq,hbc,Qlb]
 have hs3:Qay.f 0 (((a++b)++key)++val)=some (Qqk 0 (pre10 key val)):=by
  unfold Qay.f;rw[if_pos ⟨by omega,by omega,by omega⟩,hpre]
 refine⟨(((a++b)++key)++val)++c,?_,by rw[Qwj,hpre,hbc]⟩;unfold Qbs.f;rw[IntWalk.u64_in (key.size:Int) (by omega),IntWalk.u64_in (val.size:Int) (by omega),show(4:Int)=((4:Nat):Int) from rfl,ha,Option.bind_some,hb,Option.bind_some,if_pos (by omega)];rw[if_pos (by simp only[ByteArray.size_append];omega),if_pos (by simp only[ByteArray.size_append];omega),hs3,Option.bind_some];rw[IntWalk.u64_in (Qqk 0 (pre10 key val)) (by rw[← hpre];have:=hr.1;have:=hr.2;omega),hc,Option.bind_some,if_pos (by omega)]
theorem rget_is{s:ByteArray}{i:Nat}(hi:i≤s.size)(hs:s.size≤100000000)(k:Nat)(hk:100≤k) :
  Qbq.f k (s.extract i s.size)=some (match oneL (bytesOf s) i with
   | .ok (p,j)=>(p.f0,p.f1,((j-i:Nat):Int),0)
   | .error (er,_)=>((⟨#[]⟩:ByteArray),(⟨#[]⟩:ByteArray),0,er)):=by
 have hbd:=Qpf s i;have hz:(s.extract i s.size).size=s.size-i:=Qpe s i;have hlen:=Qeb s;have hB:=Qok s;generalize s.extract i s.size=t at *;generalize bytesOf s=bs at *;obtain⟨k,rfl⟩:∃m,k=m+1:=⟨k-1,by omega⟩;unfold Qbq.f oneL
 by_cases h8:bs.length<i+8
 ·rw[if_pos (by omega),if_pos h8]
 ·rw[if_neg (by omega),if_neg h8,if_pos (by decide),if_pos (by omega)];have x1:(t.extract 0 4).size≤8:=by rw[ByteArray.size_extract];omega
  have x2:(t.extract 4 8).size≤8:=by rw[ByteArray.size_extract];omega
  have v1:bytesOf (t.extract 0 4)=(bs.drop i).take 4:=by rw[Qop,hbd,List.drop_zero]
  have v2:bytesOf (t.extract 4 8)=(bs.drop (i+4)).take 4:=by rw[Qop,hbd,List.drop_drop]
  rw[valR_k _ x1 (by omega),Option.bind_some,if_pos (by decide),if_pos (by omega),valR_k _ x2 (by omega),Option.bind_some,v1,v2];have hk1:=leI_range ((hB.drop i).take 4);have hv1:=leI_range ((hB.drop (i+4)).take 4);rw[List.length_take,List.length_drop,Nat.min_eq_left (by omega)]at hk1 hv1;have lk:leb (leI ((bs.drop i).take 4)) 4=(bs.drop i).take 4:=by
   have:=leb_le ((bs.drop i).take 4) ((hB.drop i).take 4)
   rwa [List.length_take,List.length_drop,Nat.min_eq_left (by omega)]at this
  have lv:leb (leI ((bs.drop (i+4)).take 4)) 4=(bs.drop (i+4)).take 4:=by
   have:=leb_le ((bs.drop (i+4)).take 4) ((hB.drop (i+4)).take 4)
   rwa [List.length_take,List.length_drop,Nat.min_eq_left (by omega)]at this
  generalize leI ((bs.drop i).take 4)=K at *;generalize leI ((bs.drop (i+4)).take 4)=V at *;dsimp only
  by_cases h0:K=0
  ·rw[if_pos h0,if_pos h0]
  rw[if_neg h0,if_neg h0]
  by_cases hK:4096<K
  ·rw[if_pos hK,if_pos (Or.inl hK),Qbq.j0,if_pos rfl]
  rw[if_neg (show ¬K > 4096 from hK)]
  by_cases hV:1048576<V
  ·rw[if_pos (Or.inr hV),Qbq.j0,if_pos (decide_eq_true hV)]
  rw[if_neg (by omega),Qbq.j0,if_neg (by rw[decide_eq_false hV];decide)];obtain⟨w1,w2,w3,w4,w5⟩:wrap64 K=K∧wrap64 (8+K)=8+K∧wrap64 V=V∧wrap64 (8+K+V)=8+K+V∧wrap64 (8+K+V+4)=8+K+V+4:=by
   refine⟨?_,?_,?_,?_,?_⟩<;>(unfold wrap64;omega)
  simp only[w1,w2,w3,w4,w5];clear w1 w2 w3 w4 w5
  by_cases hsh:(bs.length:Int)<((i+8:Nat):Int)+K+V+4
  ·rw[if_pos (by omega),if_pos hsh]
  rw[if_neg (by omega),if_neg hsh,if_pos (by omega),if_pos (by omega),if_pos (by omega),if_pos (by omega),if_pos (by omega)];obtain⟨K,rfl⟩:=Int.eq_ofNat_of_zero_le hk1.1;obtain⟨V,rfl⟩:=Int.eq_ofNat_of_zero_le hv1.1;have q1:((8:Int)+(K:Int)).toNat=8+K:=by omega
  have q2:((8:Int)+(K:Int)+(V:Int)).toNat=8+K+V:=by omega
  have q3:((8:Int)+(K:Int)+(V:Int)+4).toNat=8+K+V+4:=by omega
  rw[q1,q2,q3,Int.toNat_natCast,Int.toNat_natCast];have bk:bytesOf (t.extract 8 (8+K))=(bs.drop (i+8)).take K:=by rw[Qop,hbd,List.drop_drop,Nat.add_sub_cancel_left]
  have bv:bytesOf (t.extract (8+K) (8+K+V))=(bs.drop (i+8+K)).take V:=by rw[Qop,hbd,List.drop_drop,Nat.add_sub_cancel_left,Nat.add_assoc i 8 K]
  have ek:t.extract 8 (8+K)=strOfNums ((bs.drop (i+8)).take K):=Qwm (by rw[bk,Qwl ((hB.drop _).take _)]);have ev:t.extract (8+K) (8+K+V)=strOfNums ((bs.drop (i+8+K)).take V):=Qwm (by rw[bv,Qwl ((hB.drop _).take _)]);rw[ek,ev];have zk:(strOfNums ((bs.drop (i+8)).take K)).size=K:=by rw[strOfNums_size,List.length_take,List.length_drop];omega
  have zv:(strOfNums ((bs.drop (i+8+K)).take V)).size=V:=by rw[strOfNums_size,List.length_take,List.length_drop];omega
  obtain⟨x,hx,hbx⟩:=rtext_is (strOfNums ((bs.drop (i+8)).take K)) (strOfNums ((bs.drop (i+8+K)).take V)) (by omega) (by omega) k (by omega);rw[hx,Option.bind_some,if_pos (by omega),if_pos (by omega)];have hpre:pre10 (strOfNums ((bs.drop (i+8)).take K)) (strOfNums ((bs.drop (i+8+K)).take V))=leb (K:Int) 4++leb (V:Int) 4++bytesOf (strOfNums ((bs.drop (i+8)).take K))++bytesOf (strOfNums ((bs.drop (i+8+K)).take V)):=by
   unfold pre10;rw[zk,zv]
  rw[hpre]at hbx;generalize hPP:leb (K:Int) 4++leb (V:Int) 4++bytesOf (strOfNums ((bs.drop (i+8)).take K))++bytesOf (strOfNums ((bs.drop (i+8+K)).take V))=PP at *;have hPB:Bytes PP:=by
   rw[← hPP];exact(((leb_bytes 4 _).app (leb_bytes 4 _)).app (Qok _)).app (Qok _)
  have hPL:PP.length=8+K+V:=by
   rw[← hPP];simp only[List.length_append,Qlb,Qeb];omega
  have hfull:(bs.drop i).take (8+K+V+4)=PP++(bs.drop (i+8+K+V)).take 4:=by
   rw[← hPP,lk,lv,Qwl ((hB.drop _).take _),Qwl ((hB.drop _).take _)];have a1:(bs.drop i).take (8+K+V+4)=(bs.drop i).take 4++((bs.drop (i+4)).take 4++((bs.drop (i+8)).take K++((bs.drop (i+8+K)).take V++(bs.drop (i+8+K+V)).take 4))):=by
    rw[show 8+K+V+4=4+(4+(K+(V+4)))by omega,List.take_add,List.drop_drop,List.take_add,List.drop_drop,List.take_add,List.drop_drop,List.take_add,List.drop_drop]
   rw[a1];simp only[List.append_assoc]
  have hcmp:(x.toList=(t.extract 0 (8+K+V+4)).toList)↔Qqk 0 PP=leI ((bs.drop (i+8+K+V)).take 4):=by
   have hr:=thin_r PP hPB (by omega);rw[toList_iff,hbx,Qop,hbd,List.drop_zero,Nat.sub_zero,hfull]
   constructor
   ·intro h;rw[← List.append_cancel_left h,le_leb 4 _ hr.1 (by have:=hr.2;simpa using this)]
   ·intro h;rw[h];have:=leb_le ((bs.drop (i+8+K+V)).take 4) ((hB.drop _).take 4);rw[List.length_take,List.length_drop,Nat.min_eq_left (by omega)]at this;rw[this]
  by_cases hc:Qqk 0 PP=leI ((bs.drop (i+8+K+V)).take 4)
  ·rw[if_pos (hcmp.2 hc),if_pos hc];dsimp only;rw[show((i+8+K+V+4-i:Nat):Int)=8+(K:Int)+(V:Int)+4 by omega]
  ·rw[if_neg (fun h=>hc (hcmp.1 h)),if_neg hc]
abbrev RPr:=S210
def toRP(p:Pr):RPr:=⟨p.f0,p.f1⟩
theorem rall_run{s:ByteArray}(hs:s.size≤100000000):∀(f i k:Nat) (acc:List Pr),i≤s.size→s.size<i+f→acc.length≤i→f+200≤k →
  Qbr.l0 k s (acc.map toRP) (i:Int)=some ((allL (bytesOf s) f i acc).1.map toRP,(allL (bytesOf s) f i acc).2.1,(allL (bytesOf s) f i acc).2.2)
 | 0,i,k,acc,hi,hf,ha,hk=>by omega
 | f+1,i,k,acc,hi,hf,ha,hk=>by
  obtain⟨k,rfl⟩:∃m,k=m+1:=⟨k-1,by omega⟩;unfold Qbr.l0 allL;rw[Qeb]
  by_cases hlt:i<s.size
  ·rw[if_pos (by omega),if_pos (by omega),if_pos (by omega),if_pos hlt,Int.toNat_natCast,rget_is hi hs k (by omega),Option.bind_some]
   cases h1:oneL (bytesOf s) i with
   | error q =>
    obtain⟨er,a⟩:=q;dsimp only;have:=one_er h1;rw[if_neg (by omega)]
   | ok q =>
    obtain⟨p,j⟩:=q;obtain⟨h2,h3,h4⟩:=one_ok (Qok s) h1;have hsz:12≤szP p:=by unfold szP;omega
    rw[Qeb]at h4;dsimp only;rw[if_pos rfl,if_pos (by rw[List.length_map];omega),show wrap64 ((i:Int)+((j-i:Nat):Int))=(j:Int)by unfold wrap64;omega];have e:acc.map toRP++[(⟨p.f0,p.f1⟩:RPr)]=(acc++[p]).map toRP:=by simp[toRP]
    rw[e];exact rall_run hs f j k (acc++[p]) h4 (by omega) (by rw[List.length_append];simp only[List.length_singleton];omega) (by omega)
  ·rw[if_neg (by omega),if_neg hlt]
theorem rall_is{l:List Int}(hb:Bytes l)(hl:l.length≤100000000)(k:Nat)(hk:l.length+300≤k) :
  Qbr.f k (strOfNums l)=some ((allL l (l.length+1) 0 []).1.map toRP,(allL l (l.length+1) 0 []).2.1,(allL l (l.length+1) 0 []).2.2):=by
 have h:=rall_run (s:=strOfNums l) (by rw[strOfNums_size];exact hl) (l.length+1) 0 k [] (Nat.zero_le _) (by rw[strOfNums_size];omega) (by simp) (by omega);rw[Qwl hb]at h;exact h
theorem rdRP(l:List Pr)(i:Nat)(h:i<l.length):Qla (l.map toRP) (i:Int)=toRP l[i]:=by simp[Qla,List.getElem?_eq_getElem h]
theorem rrecs_run(ps:List Pr)(hl:ps.length≤1000000):∀(d i k:Nat),i+d=ps.length→d+1≤k→Qcl.l0 k (recsL 1 (ps.take i)) (i:Int) (ps.map toRP) (ps.length:Int) (i:Int)=some (recsL 1 ps)
 | 0,i,k,h,hk=>by
  obtain⟨k,rfl⟩:∃m,k=m+1:=⟨k-1,by omega⟩;unfold Qcl.l0;rw[if_neg (by omega),List.take_of_length_le (by omega)]
 | d+1,i,k,h,hk=>by
  obtain⟨k,rfl⟩:∃m,k=m+1:=⟨k-1,by omega⟩;unfold Qcl.l0;have hi:i<ps.length:=by omega
  have hlen:(recsL 1 (ps.take i)).length=i:=by rw[recsL_length,List.length_take];omega
  rw[List.length_map,if_pos (by omega),if_pos (by omega),if_pos (by omega),if_pos (by rw[hlen];omega),rdRP ps i hi,show wrap64 ((i:Int)+1)=((i+1:Nat):Int)by unfold wrap64;omega,IntWalk.u64_in ((i:Int)+1) (by omega)];have e:recsL 1 (ps.take i)++[(⟨false,(i:Int)+1,(toRP ps[i]).f0,(toRP ps[i]).f1⟩:Rec)]=recsL 1 (ps.take (i+1)):=by
   rw[List.take_succ_eq_append_getElem hi,recsL_snoc,List.length_take,Nat.min_eq_left (by omega)];rw[show((1+i:Nat):Int)=(i:Int)+1 by omega];rfl
  rw[e,show(i:Int)+1=((i+1:Nat):Int)by omega];exact rrecs_run ps hl d (i+1) k (by omega) (by omega)
theorem rrecs_is(ps:List Pr)(k:Nat)(hl:ps.length≤1000000)(hk:ps.length+1≤k):Qcl.f k (ps.map toRP)=some (recsL 1 ps):=by
 unfold Qcl.f;rw[List.length_map];exact rrecs_run ps hl ps.length 0 k (by omega) (by omega)
end Go.Proofs.YtnnofopfbeklbaaGreat.CodecP
end
