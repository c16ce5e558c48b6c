/- Merged texts. -/
import Derived.Test.YtnnofopfbeklbaaGreatMK02
import Derived.Test.YtnnofopfbeklbaaGreatMK24
import Derived.Test.YtnnofopfbeklbaaGreatMK06
import Derived.Test.YtnnofopfbeklbaaGreatMK14
import Derived.Test.YtnnofopfbeklbaaGreatMK04
import Derived.Test.YtnnofopfbeklbaaGreatMK23
import Derived.Test.YtnnofopfbeklbaaGreatMK07
set_option linter.unusedVariables false
set_option linter.unusedSimpArgs false
set_option maxHeartbeats 8000000
set_option maxRecDepth 100000
section
namespace Go.Proofs.YtnnofopfbeklbaaGreat.C
open Go.RowKit Go.Proofs.YtnnofopfbeklbaaGreatW.PrintWords Go.Proofs.YtnnofopfbeklbaaGreatW.PrintLast Go.Proofs.YtnnofopfbeklbaaGreatW.PrintMore
attribute [local go_sem] Qjm Qjn Qjo Qjp Qjq Qjr Qjs Qjt
def Qci.l0:Nat→ByteArray→List (List (S39))→List (List (S39))→Int→Int→Int→Int→Option (ByteArray × Int)
 | 0,_,_,_,_,_,_,_=>none
 | k+1,x8,x9,x24,x25,x26,x518000,x518001=>if x26<x25 then(if 0≤x26 then(if x26<(x24.length:Int)then((Qch.f k x518000 x518001 (IntKind.u64.wrap (x26)) (Qkr x24 x26) (decide (x26<(wrap64 ((x9.length:Int)-1))))).bind fun t526=>(if x8.size+t526.size≤9223372036854775807 then(Qci.l0 k (x8++t526) x9 x24 x25 (wrap64 (x26+1)) x518000 x518001)else(none)))else(none))else(none))else(some (x8,0))
def Qci.f(k:Nat)(a0_0:Int)(a0_1:Int)(l1:List (S39)):Option (ByteArray × Int):=(Qck.f k a0_0 a0_1 l1).bind fun bt518=>(if bt518.2=0 then((Qcj.f k l1 bt518.1).bind fun t522=>(Qci.l0 k (⟨#[]⟩:ByteArray) t522 t522 (t522.length:Int) 0 a0_0 a0_1))else(some ((⟨#[]⟩:ByteArray),bt518.2)))
theorem Qci.calls (k:Nat) (d:Int) (j:Int) (A1:Option Addr) (c1:Nat) (l1:List (S39)) (r1:ByteArray) (r2:Int) (w:World) (hr1:Kd.C k39 w A1 l1.length l1) (hc1:l1.length≤c1) (h:Qci.f k d j l1=some (r1,r2)) :
  Calls Tryz.prog 34 #[.agg #[.int .u8 d,.int .u32 j],.slice A1 l1.length c1] w fun e w'=>e=.returned (.tuple #[.string r1,.int .i64 r2])∧Below w.heap.size w w':=by
 have hu27:=Tryz.underlying27;have J:=QA hr1;have K:=QA hc1;clear hr1 hc1;have HB:=QA (Below.refl w.heap.size w);have H:((Qck.f k d j l1).bind fun bt518=>(if bt518.2=0 then((Qcj.f k l1 bt518.1).bind fun a=>(Qci.l0 k (⟨#[]⟩:ByteArray) a a (a.length:Int) 0 d j))else(some ((⟨#[]⟩:ByteArray),bt518.2))))=some (r1,r2):=h;clear h;replace H:=Option.bind_eq_some_iff.mp H;obtain⟨⟨s,n⟩,aa,H⟩:=H;replace H:(if n=0 then((Qcj.f k l1 s).bind fun a=>(Qci.l0 k (⟨#[]⟩:ByteArray) a a (a.length:Int) 0 d j))else(some ((⟨#[]⟩:ByteArray),n)))=some (r1,r2):=H;have A3:=QA aa;clear aa
 by_cases c4:n=0
 ·rw [if_pos c4]at H;have L:(n == 0)=true:=beq_iff_eq.mpr c4;have M:(n != 0)=false:=bne_eq_false_iff_eq.mpr c4;clear c4;replace H:=Option.bind_eq_some_iff.mp H;obtain⟨a,ab,H⟩:=H;have A5:=QA ab;clear ab;have H':=QA H;clear H
  go_enter Tryz.func34,Tryz.ntmps34
  go_wp2_with (first |((with_reducible refine Qgv (N:=2) rfl ?_);refine qq_e 2 #[.int .u8 d,.int .u32 j] 27 ?_;intro l hg w6 hbox hb;have n_:=qn4 (Qgk qq_b hb) (hbox) (qq_s hg:w.heap.size≤l) (qq_s hg:w.heap.size≤l);clear HB;obtain⟨HB,b,X,Y⟩:=n_;clear hb hbox hg;obtain⟨O,P⟩:=qc2 b.out;have ac:=Qeq b.out) |((with_reducible refine Qju (f:=39) rfl ?_);refine Qhu (some 15) rfl rfl Tryz.func39 qq_6 rfl #[.agg #[.int .u8 d,.int .u32 j],.slice A1 l1.length c1] rfl qq_1 ?_;(with_reducible refine(Qck.calls k d j _ _ l1 s n _ ?side1 ?side2 A3.out).mono ?_);(case side1=>repeat(first|exact(Kd.C_below J.out HB.out) |(with_reducible refine Kd.C_alloc ?_ _) |(with_reducible refine Kd.C_drewN ?_ _) |(with_reducible refine Kd.C_drew ?_)));(case side2=>exact K.out);rintro e w8 ⟨ad,rfl,r,hb⟩;refine⟨_,rfl,?_⟩;have n_:=qn3 (Kd.R_lower r (Qgj qq_b)) (Qfe (g:=l) (o:=.cells #[.int .u8 d,.int .u32 j] 27 (0,0)) qq_0 hb) (Qgk qq_b hb);clear b HB;obtain⟨q,b,HB⟩:=n_;(try clear hb);(try clear hb2);(try clear hk);(try clear hi);(try clear r);obtain⟨Ao9,co9,eo9⟩:=Kd.R_slice q.out;subst eo9) |((with_reducible refine Qju (f:=74) rfl ?_);refine Qhu (some 23) rfl rfl Tryz.func74 qq_6 rfl #[.slice A1 l1.length c1,.slice Ao9 s.length co9] rfl qq_1 ?_;(with_reducible refine(Qcj.calls k _ _ l1 _ _ s a _ ?side1 ?side2 ?side3 ?side4 A5.out).mono ?_);(case side1=>repeat(first|exact(Kd.C_below J.out HB.out) |(with_reducible refine Kd.C_alloc ?_ _) |(with_reducible refine Kd.C_drewN ?_ _) |(with_reducible refine Kd.C_drew ?_)));(case side2=>exact K.out);(case side3=>repeat(first|exact(Kd.R_reads' q.out).2.2 |(with_reducible refine Kd.C_alloc ?_ _) |(with_reducible refine Kd.C_drewN ?_ _) |(with_reducible refine Kd.C_drew ?_)));(case side4=>exact(Kd.R_reads' q.out).2.1);rintro e aw ⟨av,rfl,r,hb⟩;refine⟨_,rfl,?_⟩;have n_:=qn4 (Kd.R_below qq_2 hb) (Kd.S_lower r (Qgj qq_b)) (Qfe (g:=l) (o:=.cells #[.int .u8 d,.int .u32 j] 27 (0,0)) qq_0 hb) (Qgk qq_b hb);clear q b HB;obtain⟨q,u,b,HB⟩:=n_;(try clear hb);(try clear hb2);(try clear hk);(try clear hi);(try clear r);obtain⟨Ao11,co11,eo11⟩:=Kd.S_slice u.out;subst eo11))
  go_loopg [8,26] k (fun kq v8 aj w'=>∃(x8_1:ByteArray) (c:Int),v8=.string x8_1∧aj=.int .i64 c∧Aside0 (Qci.l0 kq x8_1 a a (a.length:Int) c d j=some (r1,r2))∧Aside0 (kq≤k)∧Aside0 (Kd.S (Kd.slice 39 k39) 23 w' w.heap.size (fun _=>True) (.slice Ao11 a.length co11) a)∧Aside0 (Kd.S (Kd.slice 39 k39) 23 w' w.heap.size (fun _=>True) (.slice Ao11 a.length co11) a)∧Aside0 (w'.heap[l]? = some (.cells #[.int .u8 d,.int .u32 j] 27 (0,0)))∧Aside0 (Below w.heap.size w w'))
  case atStart=>exact⟨((⟨#[]⟩:ByteArray)),(0),qq_8,qq_8,H',⟨Nat.le_refl _⟩,⟨by(with_reducible repeat(first|apply Kd.S_alloc|apply Kd.S_drewN|apply Kd.S_drew));exact u.out⟩,⟨by(with_reducible repeat(first|apply Kd.S_alloc|apply Kd.S_drewN|apply Kd.S_drew));exact u.out⟩,⟨by(with_reducible repeat(first|apply Qfd|apply Qfc|apply Qfb));exact b.out⟩,⟨qq_b⟩⟩
  case round =>
   clear H'
   try clear c1
   try clear c4
   try clear L
   try clear M
   try clear O
   try clear P
   try clear ac
   obtain⟨x8_1,c,rfl,rfl,HA,HK1,v,p,b,HB⟩:=hrel
   cases gk with
   | zero=>exact absurd HA.out (by simp[Qci.l0])
   | succ k1 =>
    have H:=HA.out;clear HA;simp only[Qci.l0]at H
    by_cases t:c<(a.length:Int)
    ·rw [if_pos t]at H;have Z:=decide_eq_true t;clear t
     by_cases D:0≤c
     ·rw[if_pos D]at H;have al:=decide_eq_true D;clear D
      by_cases E:c<(a.length:Int)
      ·rw[if_pos E]at H;have am:=decide_eq_true E;clear E;replace H:=Option.bind_eq_some_iff.mp H;obtain⟨x,T,H⟩:=H;have ak:=QA T;clear T
       by_cases A:x8_1.size+x.size≤9223372036854775807
       ·rw[if_pos A]at H;have an:=eq_true A;have ao:=decide_eq_true A
        try have ap:(9223372036854775807<x8_1.size+x.size)=False:=eq_false (Nat.not_lt.2 A)
        have H':=QA H;clear H;have y:0≤(c:Int):=of_decide_eq_true qq_5;have z:c<(a.length:Int):=of_decide_eq_true qq_5;obtain⟨aq,U,W,ae,G,hl525_0,hi525_0⟩:=Qks (Kd.S_reads' p.out).2.2 c y z
        cases ae
        obtain⟨ce525,hce525,hMe525,B⟩:=Kd.S_get p.out [] c y (by first|exact z|exact of_decide_eq_true qq_5 |(have e_:=(Kd.S_reads' p.out).1;omega));obtain⟨ve525_0,rfl,ge525_0⟩:=hMe525;have hv525_0:=B 0 _ rfl;rw[Nat.add_zero,show((Kd.slice 39 k39)).sz=1 from rfl,Nat.mul_one]at hv525_0;replace hv525_0:=Option.some.inj (hv525_0.symm.trans G);rw[hv525_0]at ge525_0;have HL525_0:=QA (show Kd.R k39 39 _ _ _ _ (Qkr a c) from ge525_0);clear hv525_0 ge525_0 B hce525;have m:=QA hi525_0;have I:=QA hl525_0;clear hi525_0 hl525_0;replace y:=eq_true y;replace z:=eq_true z;obtain⟨af,ag⟩:=qc2 b.out;have ar:=Qeq b.out
        go_wp2_with (first |((with_reducible refine Qju (f:=31) rfl ?_);refine Qhu (some 41) rfl rfl Tryz.func31 qq_6 rfl #[.agg #[.int .u8 d,.int .u32 j],.int .u64 (IntKind.u64.wrap (c)),.slice U (Qkr a c).length W,.bool (decide (c<(wrap64 ((a.length:Int)-1))))] rfl qq_1 ?_;(with_reducible refine(Qch.calls k1 d j (IntKind.u64.wrap (c)) _ _ (Qkr a c) (decide (c<(wrap64 ((a.length:Int)-1)))) x _ ?side1 ?side2 ak.out).mono ?_);(case side1=>repeat(first|exact(by repeat(first |(with_reducible exact m.out) |(with_reducible refine Kd.C_alloc ?_ _) |(with_reducible refine Kd.C_drewN ?_ _) |(with_reducible refine Kd.C_drew ?_)|exact m.out)) |(with_reducible refine Kd.C_alloc ?_ _) |(with_reducible refine Kd.C_drewN ?_ _) |(with_reducible refine Kd.C_drew ?_)));(case side2=>exact I.out);rintro e ax ⟨rfl,hb⟩;refine⟨_,rfl,?_⟩;have n_:=qn6 (Kd.S_below (by(with_reducible repeat(first|apply Kd.S_alloc|apply Kd.S_drewN|apply Kd.S_drew));exact v.out) hb) (Kd.S_below (by(with_reducible repeat(first|apply Kd.S_alloc|apply Kd.S_drewN|apply Kd.S_drew));exact p.out) hb) (Kd.R_below qq_2 hb) (Qfe (g:=l) (o:=.cells #[.int .u8 d,.int .u32 j] 27 (0,0)) qq_0 hb) (Kd.C_below (by repeat(first |(with_reducible exact m.out) |(with_reducible refine Kd.C_alloc ?_ _) |(with_reducible refine Kd.C_drewN ?_ _) |(with_reducible refine Kd.C_drew ?_)|exact m.out)) hb) (Qgk qq_b hb);clear v p HL525_0 b m HB;obtain⟨v,p,HL525_0,b,m,HB⟩:=n_;(try clear hb);(try clear hb2);(try clear hk);(try clear hi)))
        go_roundg k1
        case measure=>have:=HK1.out;omega
        case rel=>exact⟨(x8_1++x),(wrap64 (c+1)),qq_8,qq_8,H',⟨by have:=HK1.out;omega⟩,⟨by(with_reducible repeat(first|apply Kd.S_alloc|apply Kd.S_drewN|apply Kd.S_drew));exact v.out⟩,⟨by(with_reducible repeat(first|apply Kd.S_alloc|apply Kd.S_drewN|apply Kd.S_drew));exact p.out⟩,⟨by(with_reducible repeat(first|apply Qfd|apply Qfc|apply Qfb));exact b.out⟩,⟨qq_b⟩⟩
       ·rw[if_neg A]at H;exact absurd H (by simp)
      ·rw[if_neg E]at H;exact absurd H (by simp)
     ·rw[if_neg D]at H;exact absurd H (by simp)
    ·rw[if_neg t]at H;have Z:=decide_eq_false t;clear t;simp only[Option.some.injEq,Prod.mk.injEq]at H;obtain⟨rfl,rfl⟩:=H;go_wp2
     go_ret2
     exact⟨qq_7,qq_b⟩
 ·rw[if_neg c4]at H;have L:(n == 0)=false:=beq_eq_false_iff_ne.mpr c4;have M:(n != 0)=true:=bne_iff_ne.mpr c4;simp only[Option.some.injEq,Prod.mk.injEq]at H;obtain⟨rfl,rfl⟩:=H
  go_enter Tryz.func34,Tryz.ntmps34
  go_wp2_with (first |((with_reducible refine Qgv (N:=2) rfl ?_);refine qq_e 2 #[.int .u8 d,.int .u32 j] 27 ?_;intro l hg ay hbox hb;have n_:=qn4 (Qgk qq_b hb) (hbox) (qq_s hg:w.heap.size≤l) (qq_s hg:w.heap.size≤l);clear HB;obtain⟨HB,b,X,Y⟩:=n_;clear hb hbox hg;obtain⟨ah,ai⟩:=qc2 b.out;have au:=Qeq b.out) |((with_reducible refine Qju (f:=39) rfl ?_);refine Qhu (some 15) rfl rfl Tryz.func39 qq_6 rfl #[.agg #[.int .u8 d,.int .u32 j],.slice A1 l1.length c1] rfl qq_1 ?_;(with_reducible refine(Qck.calls k d j _ _ l1 s n _ ?side1 ?side2 A3.out).mono ?_);(case side1=>repeat(first|exact(Kd.C_below J.out HB.out) |(with_reducible refine Kd.C_alloc ?_ _) |(with_reducible refine Kd.C_drewN ?_ _) |(with_reducible refine Kd.C_drew ?_)));(case side2=>exact K.out);rintro e az ⟨ad,rfl,r,hb⟩;refine⟨_,rfl,?_⟩;have n_:=qn3 (Kd.R_lower r (Qgj qq_b)) (Qfe (g:=l) (o:=.cells #[.int .u8 d,.int .u32 j] 27 (0,0)) qq_0 hb) (Qgk qq_b hb);clear b HB;obtain⟨q,b,HB⟩:=n_;(try clear hb);(try clear hb2);(try clear hk);(try clear hi);(try clear r)))
  go_ret2
  exact⟨qq_7,qq_b⟩
def Qcl.f(k:Nat)(a0_0:Int)(a0_1:Int)(a1:ByteArray):Option (ByteArray × Int × Int × Int):=(Qbl.f a0_0 a0_1).bind fun t827=>(if t827=true then((Qbr.f k a1).bind fun bt828=>((Qcm.f k bt828.1).bind fun t833=>((Qci.f k a0_0 a0_1 t833).bind fun bt836=>(if bt836.2=0 then(some (bt836.1,(bt828.1.length:Int),bt828.2.1,0))else(some ((⟨#[]⟩:ByteArray),0,0,bt836.2))))))else(some ((⟨#[]⟩:ByteArray),0,0,1)))
def Qcl.T4:Bool × List (List Nat × List Nat):=(true,[([],[]),([],[]),([1],[1]),([0,2,2],[0,2]),([3],[3]),([4],[4]),([4],[4]),([5,3,0,1,2,3,4,5],[5]),([6,7,0,1,2,3,4,5,6,7],[6])])
def Qcl.B4:List Nat:=[0,0,2,7,15,31,31,63,255]
theorem Qcl.tab4:rtab .any (Qjd Tryz.f46 4)=Qcl.T4:=by kernel_rfl
theorem Qcl.bits4:Qix Qcl.T4.2 Qcl.B4=true:=by kernel_rfl
theorem Qcl.calls(k:Nat)(b:Int)(c:Int)(a1:ByteArray)(r1:ByteArray)(r2:Int)(r3:Int)(r4:Int)(w:World)(h:Qcl.f k b c a1=some (r1,r2,r3,r4)) :
  Calls Tryz.prog 46 #[.agg #[.int .u8 b,.int .u32 c],.string a1] w fun e w'=>e=.returned (.tuple #[.string r1,.int .i64 r2,.int .i64 r3,.int .i64 r4])∧Below w.heap.size w w':=by
 have hu27:=Tryz.underlying27;have HB:=QA (Below.refl w.heap.size w);have H:((Qbl.f b c).bind fun u=>(if u=true then((Qbr.f k a1).bind fun bt828=>((Qcm.f k bt828.1).bind fun p=>((Qci.f k b c p).bind fun bt836=>(if bt836.2=0 then(some (bt836.1,(bt828.1.length:Int),bt828.2.1,0))else(some ((⟨#[]⟩:ByteArray),0,0,bt836.2))))))else(some ((⟨#[]⟩:ByteArray),0,0,1))))=some (r1,r2,r3,r4):=h;clear h;replace H:=Option.bind_eq_some_iff.mp H;obtain⟨u,A,H⟩:=H;have A3:=QA A;clear A
 by_cases c4:u=true
 ·subst c4;rw[if_pos rfl]at H;replace H:=Option.bind_eq_some_iff.mp H;obtain⟨⟨q,t,z⟩,B,H⟩:=H;replace H:((Qcm.f k q).bind fun p=>((Qci.f k b c p).bind fun bt836=>(if bt836.2=0 then(some (bt836.1,(q.length:Int),t,0))else(some ((⟨#[]⟩:ByteArray),0,0,bt836.2)))))=some (r1,r2,r3,r4):=H;have A5:=QA B;clear B;replace H:=Option.bind_eq_some_iff.mp H;obtain⟨p,D,H⟩:=H;have A6:=QA D;clear D;replace H:=Option.bind_eq_some_iff.mp H;obtain⟨⟨v,r⟩,E,H⟩:=H;replace H:(if r=0 then(some (v,(q.length:Int),t,0))else(some ((⟨#[]⟩:ByteArray),0,0,r)))=some (r1,r2,r3,r4):=H;have A7:=QA E;clear E
  by_cases c8:r=0
  ·rw[if_pos c8]at H;have G:(r == 0)=true:=beq_iff_eq.mpr c8;have I:(r != 0)=false:=bne_eq_false_iff_eq.mpr c8;clear c8;simp only[Option.some.injEq,Prod.mk.injEq]at H;obtain⟨rfl,rfl,rfl,rfl⟩:=H
   go_enter Tryz.func46,Tryz.ntmps46
   try go_wp2_with (first |((with_reducible refine Qgv (N:=2) rfl ?_);refine qq_e 2 #[.int .u8 b,.int .u32 c] 27 ?_;intro j hg w9 hbox hb;have n_:=qn4 (Qgk qq_b hb) (hbox) (qq_s hg:w.heap.size≤j) (qq_s hg:w.heap.size≤j);clear HB;obtain⟨HB,a,x,y⟩:=n_;clear hb hbox hg;obtain⟨M,O⟩:=qc2 a.out;have Z:=Qeq a.out) |((with_reducible refine Qju (f:=54) rfl ?_);refine Qhu (some 14) rfl rfl Tryz.func54 qq_6 rfl #[.agg #[.int .u8 b,.int .u32 c]] rfl qq_1 ?_;(with_reducible refine(Qbl.calls b c true _ A3.out).mono ?_);rintro e ac ⟨rfl,hb⟩;refine⟨_,rfl,?_⟩;have n_:=qn2 (Qfe (g:=j) (o:=.cells #[.int .u8 b,.int .u32 c] 27 (0,0)) qq_0 hb) (Qgk qq_b hb);clear a HB;obtain⟨a,HB⟩:=n_;(try clear hb);(try clear hb2);(try clear hk);(try clear hi)) |((with_reducible refine Qju (f:=88) rfl ?_);refine Qhu (some 18) rfl rfl Tryz.func88 qq_6 rfl #[.string a1] rfl qq_1 ?_;(with_reducible refine(Qbr.calls k a1 q t z _ A5.out).mono ?_);rintro e X ⟨J,rfl,s,hb⟩;refine⟨_,rfl,?_⟩;have n_:=qn3 (Kd.R_lower s (Qgj qq_b)) (Qfe (g:=j) (o:=.cells #[.int .u8 b,.int .u32 c] 27 (0,0)) qq_0 hb) (Qgk qq_b hb);clear a HB;obtain⟨d,a,HB⟩:=n_;(try clear hb);(try clear hb2);(try clear hk);(try clear hi);(try clear s)))
   have n_:=qn3 (Kd.R_drew d.out) (Qfc a.out) (Qgr HB.out);clear d a HB;obtain⟨d,a,HB⟩:=n_;obtain⟨Ao14,co14,eo14⟩:=Kd.R_slice d.out
   (first|subst eo14 |(injection eo14 with f1_ f2_ f3_;have f4_:=f1_.symm;have f5_:=f3_.symm;clear f1_ f2_ f3_;subst f4_;subst f5_))
   refine Qhk (n:=9) (S:=fun w'=>w'.cell? ⟨j,0,none⟩=some (.int .u8 b)∧w'.cell? ⟨j,1,none⟩=some (.int .u32 c)) (ds:=[]) (bm 9 0) qq_6 rfl rfl ⟨(Qep a.out 0).trans rfl,(Qep a.out 1).trans rfl⟩ (fun m=>?_);refine Qjb Qcl.tab4 Qcl.bits4 (fun HT_ HW_=>?_);generalize X.drew=w13 at d a HB m ⊢;refine pz_ (i:=1) (N:=some 24) (bm 9 2) (Qit HT_.out qq_6) ?_;refine tz_ (i:=0) (N:=some 23) (bm 9 3) (Qja HT_.out HW_.out qq_6) m ?_;refine one_ (i:=2) (N:=some 25) (bm 9 7) rfl rfl (Qiu HT_.out qq_6) (by decide) (fun K hK=>?_);refine Qht Tryz.func89 qq_6 rfl #[.slice Ao14 q.length co14] (by rfl) rfl rfl qq_1 ?_;with_reducible refine(Qcm.calls k _ _ q p _ ?side1 ?side2 A6.out).mono ?_
   (case side1=>repeat(first|exact(Kd.R_reads' d.out).2.2 |(with_reducible refine Kd.C_alloc ?_ _) |(with_reducible refine Kd.C_drewN ?_ _) |(with_reducible refine Kd.C_drew ?_)))
   (case side2=>exact(Kd.R_reads' d.out).2.1)
   rintro e ad ⟨L,rfl,s,hb⟩;refine⟨_,rfl,?_⟩;have n_:=qn4 (Kd.R_below qq_2 hb) (Kd.R_lower s (Qgj qq_b)) (Qfe (g:=j) (o:=.cells #[.int .u8 b,.int .u32 c] 27 (0,0)) qq_0 hb) (Qgk qq_b hb);clear d a HB;obtain⟨d,l,a,HB⟩:=n_
   (try clear hb)
   (try clear hb2)
   (try clear hk)
   (try clear hi)
   (try clear s)
   obtain⟨Ao16,co16,eo16⟩:=Kd.R_slice l.out
   (first|subst eo16 |(injection eo16 with f1_ f2_ f3_;have f4_:=f1_.symm;have f5_:=f3_.symm;clear f1_ f2_ f3_;subst f4_;subst f5_))
   refine hK.out _ _ ⟨(Qep a.out 0).trans rfl,(Qep a.out 1).trans rfl⟩ (fun m=>?_);clear hK K;refine nzp_ 25 ?_;refine one_ (i:=3) (N:=some 26) (bm 9 15) rfl rfl (Qiu HT_.out qq_6) (by decide) (fun K hK=>?_);refine Qht Tryz.func34 qq_6 rfl #[.agg #[.int .u8 b,.int .u32 c],.slice Ao16 p.length co16] (by rfl) rfl rfl qq_1 ?_;with_reducible refine(Qci.calls k b c _ _ p v r _ ?side1 ?side2 A7.out).mono ?_
   (case side1=>repeat(first|exact(Kd.R_reads' l.out).2.2 |(with_reducible refine Kd.C_alloc ?_ _) |(with_reducible refine Kd.C_drewN ?_ _) |(with_reducible refine Kd.C_drew ?_)))
   (case side2=>exact(Kd.R_reads' l.out).2.1)
   rintro e ae ⟨rfl,hb⟩;refine⟨_,rfl,?_⟩;have n_:=qn4 (Kd.R_below qq_2 hb) (Kd.R_below qq_2 hb) (Qfe (g:=j) (o:=.cells #[.int .u8 b,.int .u32 c] 27 (0,0)) qq_0 hb) (Qgk qq_b hb);clear d l a HB;obtain⟨d,l,a,HB⟩:=n_
   (try clear hb)
   (try clear hb2)
   (try clear hk)
   (try clear hi)
   refine hK.out _ _ ⟨(Qep a.out 0).trans rfl,(Qep a.out 1).trans rfl⟩ (fun m=>?_);clear hK K;refine nzp_ 26 ?_;refine pz_ (i:=4) (N:=some 22) (bm 9 31) (Qit HT_.out qq_6) ?_;refine pz_ (i:=5) (N:=some 27) (bm 9 63) (Qit HT_.out qq_6) ?_;refine pz_ (i:=6) (N:=some 28) (bm 9 127) (Qit HT_.out qq_6) ?_;refine pz_ (i:=7) (N:=some 11) (bm 9 255) (Qit HT_.out qq_6) ?_;refine pz_ (i:=8) (N:=some 12) (bm 9 511) (Qit HT_.out qq_6) ?_;refine Qhn (Qiw HT_.out qq_6) ?_
   try go_wp2
   refine bodyPost_ret (Qha (rs:=[.tmp 4,.tmp 5,.tmp 6,.tmp 7]) rfl (by simp) (.tmp (.tmp (.tmp (.tmp .nil))))) rfl ?_;exact⟨qq_7,qq_b⟩
  ·rw[if_neg c8]at H;have G:(r == 0)=false:=beq_eq_false_iff_ne.mpr c8;have I:(r != 0)=true:=bne_iff_ne.mpr c8;simp only[Option.some.injEq,Prod.mk.injEq]at H;obtain⟨rfl,rfl,rfl,rfl⟩:=H
   go_enter Tryz.func46,Tryz.ntmps46
   try go_wp2_with (first |((with_reducible refine Qgv (N:=2) rfl ?_);refine qq_e 2 #[.int .u8 b,.int .u32 c] 27 ?_;intro j hg af hbox hb;have n_:=qn4 (Qgk qq_b hb) (hbox) (qq_s hg:w.heap.size≤j) (qq_s hg:w.heap.size≤j);clear HB;obtain⟨HB,a,x,y⟩:=n_;clear hb hbox hg;obtain⟨P,T⟩:=qc2 a.out;have aa:=Qeq a.out) |((with_reducible refine Qju (f:=54) rfl ?_);refine Qhu (some 14) rfl rfl Tryz.func54 qq_6 rfl #[.agg #[.int .u8 b,.int .u32 c]] rfl qq_1 ?_;(with_reducible refine(Qbl.calls b c true _ A3.out).mono ?_);rintro e ag ⟨rfl,hb⟩;refine⟨_,rfl,?_⟩;have n_:=qn2 (Qfe (g:=j) (o:=.cells #[.int .u8 b,.int .u32 c] 27 (0,0)) qq_0 hb) (Qgk qq_b hb);clear a HB;obtain⟨a,HB⟩:=n_;(try clear hb);(try clear hb2);(try clear hk);(try clear hi)) |((with_reducible refine Qju (f:=88) rfl ?_);refine Qhu (some 18) rfl rfl Tryz.func88 qq_6 rfl #[.string a1] rfl qq_1 ?_;(with_reducible refine(Qbr.calls k a1 q t z _ A5.out).mono ?_);rintro e Y ⟨J,rfl,s,hb⟩;refine⟨_,rfl,?_⟩;have n_:=qn3 (Kd.R_lower s (Qgj qq_b)) (Qfe (g:=j) (o:=.cells #[.int .u8 b,.int .u32 c] 27 (0,0)) qq_0 hb) (Qgk qq_b hb);clear a HB;obtain⟨d,a,HB⟩:=n_;(try clear hb);(try clear hb2);(try clear hk);(try clear hi);(try clear s)))
   have n_:=qn3 (Kd.R_drew d.out) (Qfc a.out) (Qgr HB.out);clear d a HB;obtain⟨d,a,HB⟩:=n_;obtain⟨Ao23,co23,eo23⟩:=Kd.R_slice d.out
   (first|subst eo23 |(injection eo23 with f1_ f2_ f3_;have f4_:=f1_.symm;have f5_:=f3_.symm;clear f1_ f2_ f3_;subst f4_;subst f5_))
   refine Qhk (n:=9) (S:=fun w'=>w'.cell? ⟨j,0,none⟩=some (.int .u8 b)∧w'.cell? ⟨j,1,none⟩=some (.int .u32 c)) (ds:=[]) (bm 9 0) qq_6 rfl rfl ⟨(Qep a.out 0).trans rfl,(Qep a.out 1).trans rfl⟩ (fun m=>?_);refine Qjb Qcl.tab4 Qcl.bits4 (fun HT_ HW_=>?_);generalize Y.drew=w22 at d a HB m ⊢;refine pz_ (i:=1) (N:=some 24) (bm 9 2) (Qit HT_.out qq_6) ?_;refine tz_ (i:=0) (N:=some 23) (bm 9 3) (Qja HT_.out HW_.out qq_6) m ?_;refine one_ (i:=2) (N:=some 25) (bm 9 7) rfl rfl (Qiu HT_.out qq_6) (by decide) (fun K hK=>?_);refine Qht Tryz.func89 qq_6 rfl #[.slice Ao23 q.length co23] (by rfl) rfl rfl qq_1 ?_;with_reducible refine(Qcm.calls k _ _ q p _ ?side1 ?side2 A6.out).mono ?_
   (case side1=>repeat(first|exact(Kd.R_reads' d.out).2.2 |(with_reducible refine Kd.C_alloc ?_ _) |(with_reducible refine Kd.C_drewN ?_ _) |(with_reducible refine Kd.C_drew ?_)))
   (case side2=>exact(Kd.R_reads' d.out).2.1)
   rintro e ah ⟨L,rfl,s,hb⟩;refine⟨_,rfl,?_⟩;have n_:=qn4 (Kd.R_below qq_2 hb) (Kd.R_lower s (Qgj qq_b)) (Qfe (g:=j) (o:=.cells #[.int .u8 b,.int .u32 c] 27 (0,0)) qq_0 hb) (Qgk qq_b hb);clear d a HB;obtain⟨d,l,a,HB⟩:=n_
   (try clear hb)
   (try clear hb2)
   (try clear hk)
   (try clear hi)
   (try clear s)
   obtain⟨Ao25,co25,eo25⟩:=Kd.R_slice l.out
   (first|subst eo25 |(injection eo25 with f1_ f2_ f3_;have f4_:=f1_.symm;have f5_:=f3_.symm;clear f1_ f2_ f3_;subst f4_;subst f5_))
   refine hK.out _ _ ⟨(Qep a.out 0).trans rfl,(Qep a.out 1).trans rfl⟩ (fun m=>?_);clear hK K;refine nzp_ 25 ?_;refine one_ (i:=3) (N:=some 26) (bm 9 15) rfl rfl (Qiu HT_.out qq_6) (by decide) (fun K hK=>?_);refine Qht Tryz.func34 qq_6 rfl #[.agg #[.int .u8 b,.int .u32 c],.slice Ao25 p.length co25] (by rfl) rfl rfl qq_1 ?_;with_reducible refine(Qci.calls k b c _ _ p v r _ ?side1 ?side2 A7.out).mono ?_
   (case side1=>repeat(first|exact(Kd.R_reads' l.out).2.2 |(with_reducible refine Kd.C_alloc ?_ _) |(with_reducible refine Kd.C_drewN ?_ _) |(with_reducible refine Kd.C_drew ?_)))
   (case side2=>exact(Kd.R_reads' l.out).2.1)
   rintro e ai ⟨rfl,hb⟩;refine⟨_,rfl,?_⟩;have n_:=qn4 (Kd.R_below qq_2 hb) (Kd.R_below qq_2 hb) (Qfe (g:=j) (o:=.cells #[.int .u8 b,.int .u32 c] 27 (0,0)) qq_0 hb) (Qgk qq_b hb);clear d l a HB;obtain⟨d,l,a,HB⟩:=n_
   (try clear hb)
   (try clear hb2)
   (try clear hk)
   (try clear hi)
   refine hK.out _ _ ⟨(Qep a.out 0).trans rfl,(Qep a.out 1).trans rfl⟩ (fun m=>?_);clear hK K;refine nzp_ 26 ?_;refine pz_ (i:=4) (N:=some 22) (bm 9 31) (Qit HT_.out qq_6) ?_;refine pz_ (i:=5) (N:=some 27) (bm 9 63) (Qit HT_.out qq_6) ?_;refine pz_ (i:=6) (N:=some 28) (bm 9 127) (Qit HT_.out qq_6) ?_;refine pz_ (i:=7) (N:=some 11) (bm 9 255) (Qit HT_.out qq_6) ?_;refine pz_ (i:=8) (N:=some 12) (bm 9 511) (Qit HT_.out qq_6) ?_;refine Qhn (Qiw HT_.out qq_6) ?_
   try go_wp2
   refine bodyPost_ret (Qha (rs:=[.tmp 4,.tmp 5,.tmp 6,.tmp 7]) rfl (by simp) (.tmp (.tmp (.tmp (.tmp .nil))))) rfl ?_;exact⟨qq_7,qq_b⟩
 ·replace c4:=Bool.eq_false_iff.mpr c4;subst c4;rw[if_neg (show ¬(false=true)by decide)]at H;simp only[Option.some.injEq,Prod.mk.injEq]at H;obtain⟨rfl,rfl,rfl,rfl⟩:=H
  go_enter Tryz.func46,Tryz.ntmps46
  go_wp2_with (first |((with_reducible refine Qgv (N:=2) rfl ?_);refine qq_e 2 #[.int .u8 b,.int .u32 c] 27 ?_;intro j hg aj hbox hb;have n_:=qn4 (Qgk qq_b hb) (hbox) (qq_s hg:w.heap.size≤j) (qq_s hg:w.heap.size≤j);clear HB;obtain⟨HB,a,x,y⟩:=n_;clear hb hbox hg;obtain⟨U,W⟩:=qc2 a.out;have ab:=Qeq a.out) |((with_reducible refine Qju (f:=54) rfl ?_);refine Qhu (some 14) rfl rfl Tryz.func54 qq_6 rfl #[.agg #[.int .u8 b,.int .u32 c]] rfl qq_1 ?_;(with_reducible refine(Qbl.calls b c false _ A3.out).mono ?_);rintro e ak ⟨rfl,hb⟩;refine⟨_,rfl,?_⟩;have n_:=qn2 (Qfe (g:=j) (o:=.cells #[.int .u8 b,.int .u32 c] 27 (0,0)) qq_0 hb) (Qgk qq_b hb);clear a HB;obtain⟨a,HB⟩:=n_;(try clear hb);(try clear hb2);(try clear hk);(try clear hi)))
  refine bodyPost_ret (Qha (rs:=[.tmp 4,.tmp 5,.tmp 6,.tmp 7]) rfl (by simp) (.tmp (.tmp (.tmp (.tmp .nil))))) rfl ?_;exact⟨qq_7,qq_b⟩
end Go.Proofs.YtnnofopfbeklbaaGreat.C
end
