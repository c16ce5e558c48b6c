/- Merged texts. -/
import Derived.Test.YteaocbonofboeaaGreatMD02
import Derived.Test.YteaocbonofboeaaGreatMD04
set_option linter.unusedVariables false
set_option linter.unusedSimpArgs false
set_option maxHeartbeats 8000000
set_option maxRecDepth 100000
section
namespace Go.Proofs.YteaocbonofboeaaGreat.C
open Go.RowKit Go.Proofs.YteaocbonofboeaaGreatW.PrintWords Go.Proofs.YteaocbonofboeaaGreatW.PrintLast Go.Proofs.YteaocbonofboeaaGreatW.PrintMore
attribute [local go_sem] Qhl Qhm Qhn Qho Qhp Qhq Qhr Qhs
def Qbz.f(k:Nat)(a0_0:Int)(a0_1:Int)(a1_0:Int)(a1_1:Int):Option (Int):=(Qag.f a0_0 a1_0).bind fun t276=>((Qaf.f a0_1 a1_1).bind fun t277=>((Qai.f k (([t276,t277]:List Int))).bind fun t281=>(some t281)))
theorem Qbz.mono:∀a0 a1 a2 a3 k,LeO (Qbz.f k a0 a1 a2 a3) (Qbz.f (k+1) a0 a1 a2 a3):=by
 intro a0 a1 a2 a3 k;unfold Qbz.f
 repeat' first
   |(with_reducible exact Qai.mono _ _)
   |(with_reducible exact LeO.refl _)
   |(with_reducible exact LeO.none _)
   |(with_reducible refine LeO.ite ?_ ?_)
   |(with_reducible refine LeO.bind ?_ (fun _=>?_))
   | exact Qai.mono _ _
   | exact LeO.none _
   | refine LeO.ite ?_ ?_
   | refine LeO.bind ?_ (fun _=>?_)
def Qbz.T1:Bool × List (List Nat × List Nat):=(true,[([],[]),([0],[0]),([],[]),([2],[2]),([1,3],[1,3]),([],[]),([5],[5]),([],[]),([7],[7]),([6,8,4],[6,8]),([4,9],[4,9]),([10,9],[10]),([11,11,0,1,2,3,4,5,6,7,8,9,10,11],[11])])
def Qbz.B1:List Nat:=[0,1,0,4,15,0,32,0,128,511,1023,2047,4095]
theorem Qbz.tab1:rtab .any (Qha Tryz.f116 1)=Qbz.T1:=by kernel_rfl
theorem Qbz.bits1:Qgu Qbz.T1.2 Qbz.B1=true:=by kernel_rfl
theorem Qbz.calls(k:Nat)(j:Int)(l:Int)(p:Int)(q:Int)(r:Int)(w:World)(h:Qbz.f k j l p q=some r) :
  Calls Tryz.prog 116 #[.agg #[.int .u64 j,.int .u32 l],.agg #[.int .u64 p,.int .u32 q]] w fun e w'=>e=.returned (.int .i64 r)∧Below w.heap.size w w':=by
 have hu129:=Tryz.underlying129;have HB:=QA (Below.refl w.heap.size w);have H:((Qag.f j p).bind fun s=>((Qaf.f l q).bind fun t=>((Qai.f k (([s,t]:List Int))).bind fun v=>(some v))))=some r:=h;clear h;replace H:=Option.bind_eq_some_iff.mp H;obtain⟨s,D,H⟩:=H;have A3:=QA D;clear D;replace H:=Option.bind_eq_some_iff.mp H;obtain⟨t,E,H⟩:=H;have A4:=QA E;clear E;obtain⟨z,u⟩:∃y_:List Int,y_=(([s,t]:List Int)):=⟨_,rfl⟩;replace H:((Qai.f k z).bind fun v=>(some v))=some r:=by first |(rw[u];with_reducible exact H) |(have B:=(Option.bind_some _ _).symm.trans H;rw[u];with_reducible exact B) |(have B:=(Option.bind_some _ _).symm.trans H;with_reducible exact B)|with_reducible exact H |(rw[u];exact H)|exact H
 have A:=QA u;clear u;replace H:=Option.bind_eq_some_iff.mp H;obtain⟨v,G,H⟩:=H;have A5:=QA G;clear G;obtain rfl:=Option.some.inj H
 go_enter Tryz.func116,Tryz.ntmps116
 try go_wp2_with (first |((with_reducible refine Qey (N:=2) rfl ?_);refine qq_e 2 #[.int .u64 j,.int .u32 l] 129 ?_;intro c hg w6 hbox hb;have n_:=qn4 (Qeo qq_b hb) (hbox) (qq_s hg:w.heap.size≤c) (qq_s hg:w.heap.size≤c);clear HB;obtain⟨HB,a,L,O⟩:=n_;clear hb hbox hg) |((with_reducible refine Qey (N:=3) rfl ?_);refine qq_e 3 #[.int .u64 p,.int .u32 q] 129 ?_;intro m hg w7 hbox hb;have n_:=qn7 (Qdo (g:=c) (o:=.cells #[.int .u64 j,.int .u32 l] 129 (0,0)) qq_0 hb) (Qeo qq_b hb) (hbox) (qq_s hg:w.heap.size≤m) (qq_s hg:w.heap.size≤m) ((by rw[hg];exact Nat.ne_of_lt (Qda (g:=c) (o:=.cells #[.int .u64 j,.int .u32 l] 129 (0,0)) qq_0):c≠m)) ((by rw[hg];exact Nat.ne_of_gt (Qda (g:=c) (o:=.cells #[.int .u64 j,.int .u32 l] 129 (0,0)) qq_0):m≠c));clear a HB;obtain⟨a,HB,b,P,T,I,J⟩:=n_;clear hb hbox hg))
 have n_:=qn3 (Qdm a.out) (Qdm b.out) (Qev HB.out);clear a b HB;obtain⟨a,b,HB⟩:=n_;refine Qfk (n:=13) (S:=fun w'=>w'.cell? ⟨c,0,none⟩=some (.int .u64 j)∧w'.cell? ⟨c,1,none⟩=some (.int .u32 l)∧w'.cell? ⟨m,0,none⟩=some (.int .u64 p)∧w'.cell? ⟨m,1,none⟩=some (.int .u32 q)) (ds:=[]) (bm 13 0) qq_4 rfl rfl ⟨(Qdb a.out 0).trans rfl,(Qdb a.out 1).trans rfl,(Qdb b.out 0).trans rfl,(Qdb b.out 1).trans rfl⟩ (fun d=>?_);refine Qgy Qbz.tab1 Qbz.bits1 (fun HT_ HW_=>?_);generalize w7.drew=w8 at a b HB d ⊢;refine pz_ (i:=0) (N:=some 5) (bm 13 1) (Qgq HT_.out qq_4) ?_;refine pz_ (i:=2) (N:=some 7) (bm 13 5) (Qgq HT_.out qq_4) ?_;refine pz_ (i:=5) (N:=some 10) (bm 13 37) (Qgq HT_.out qq_4) ?_;refine pz_ (i:=7) (N:=some 12) (bm 13 165) (Qgq HT_.out qq_4) ?_;refine tz_ (i:=1) (N:=some 6) (bm 13 167) (Qgx HT_.out HW_.out qq_4) d ?_;refine tz_ (i:=3) (N:=some 8) (bm 13 175) (Qgx HT_.out HW_.out qq_4) d ?_;refine tz_ (i:=6) (N:=some 11) (bm 13 239) (Qgx HT_.out HW_.out qq_4) d ?_;refine tz_ (i:=8) (N:=some 13) (bm 13 495) (Qgx HT_.out HW_.out qq_4) d ?_;refine one_ (i:=4) (N:=some 9) (bm 13 511) rfl rfl (Qgr HT_.out qq_4) (by decide) (fun K hK=>?_);refine Qfs Tryz.func166 qq_4 rfl #[.int .u64 j,.int .u64 p] (by rfl) rfl rfl qq_1 ?_;with_reducible refine(Qag.calls j p s _ A3.out).mono ?_
 rintro e w' ⟨rfl,⟨nd,rfl⟩⟩;refine⟨_,rfl,?_⟩;refine hK.out _ _ ⟨(Qdb a.out 0).trans rfl,(Qdb a.out 1).trans rfl,(Qdb b.out 0).trans rfl,(Qdb b.out 1).trans rfl⟩ (fun d=>?_);clear hK K;refine nzp_ 9 ?_;refine one_ (i:=9) (N:=some 14) (bm 13 1023) rfl rfl (Qgr HT_.out qq_4) (by decide) (fun K hK=>?_);refine Qfs Tryz.func167 qq_4 rfl #[.int .u32 l,.int .u32 q] (by rfl) rfl rfl qq_1 ?_;with_reducible refine(Qaf.calls l q t _ A4.out).mono ?_
 rintro e w' ⟨rfl,⟨nd,rfl⟩⟩;refine⟨_,rfl,?_⟩;refine hK.out _ _ ⟨(Qdb a.out 0).trans rfl,(Qdb a.out 1).trans rfl,(Qdb b.out 0).trans rfl,(Qdb b.out 1).trans rfl⟩ (fun d=>?_);clear hK K;refine nzp_ 14 ?_;refine one_ (i:=10) (N:=some 15) (bm 13 2047) rfl rfl (Qgr HT_.out qq_4) (by decide) (fun K hK=>?_);refine Kd.R_lit_step (Kd.int .i64) _ 3 ?hg (N:=15) ?hd (xs:=([s,t]:List Int)) (inner:=[.int .i64 s,.int .i64 t]) (ok:=fun _=>True) (okp:=fun _=>True) ?hr ?hp (fun _ hk=>hk) trivial (Below.refl _ _) (Nat.le_refl _) (by simp) ?_;(case hd=>rfl);(case hg=>rfl);(case hr=>exact qq_17);(case hp=>exact(Reps.one (show Kd.M (Kd.int .i64) _ _ _ s [.int .i64 s] from rfl) (Reps.one (show Kd.M (Kd.int .i64) _ _ _ t [.int .i64 t] from rfl) (Reps.none _ _))));intro U w9 x hb hg_ hnew_;clear hg_ hnew_
 (first|rw[← A.out]at x |(simp only[Int.reduceToNat]at x;rw[← A.out]at x))
 have n_:=qn4 (Kd.R_lower x (Qen qq_b)) (Qdo (g:=c) (o:=.cells #[.int .u64 j,.int .u32 l] 129 (0,0)) qq_0 hb) (Qdo (g:=m) (o:=.cells #[.int .u64 p,.int .u32 q] 129 (0,0)) qq_0 hb) (Qeo qq_b hb);clear a b HB;obtain⟨y,a,b,HB⟩:=n_;clear hb x;obtain⟨Ao11,co11,eo11⟩:=Kd.R_slice y.out
 (first|subst eo11 |(injection eo11 with f1_ f2_ f3_;have f4_:=f1_.symm;have f5_:=f3_.symm;clear f1_ f2_ f3_;subst f4_;subst f5_))
 refine hK.out _ _ ⟨(Qdb a.out 0).trans rfl,(Qdb a.out 1).trans rfl,(Qdb b.out 0).trans rfl,(Qdb b.out 1).trans rfl⟩ (fun d=>?_);clear hK K;refine nzp_ 15 ?_;refine one_ (i:=11) (N:=some 16) (bm 13 4095) rfl rfl (Qgr HT_.out qq_4) (by decide) (fun K hK=>?_);refine Qfs Tryz.func165 qq_4 rfl #[.slice Ao11 z.length co11] (by rfl) rfl rfl qq_1 ?_;with_reducible refine(Qai.calls k _ _ z v _ ?side1 ?side2 A5.out).mono ?_
 (case side1=>repeat(first|exact(Kd.R_reads' y.out).2.2 |(with_reducible refine Kd.C_alloc ?_ _) |(with_reducible refine Kd.C_drewN ?_ _) |(with_reducible refine Kd.C_drew ?_)))
 (case side2=>exact(Kd.R_reads' y.out).2.1)
 rintro e w' ⟨rfl,⟨nd,rfl⟩⟩;refine⟨_,rfl,?_⟩;refine hK.out _ _ ⟨(Qdb a.out 0).trans rfl,(Qdb a.out 1).trans rfl,(Qdb b.out 0).trans rfl,(Qdb b.out 1).trans rfl⟩ (fun d=>?_);clear hK K;refine nzp_ 16 ?_;refine pz_ (i:=12) (N:=some 4) (bm 13 8191) (Qgq HT_.out qq_4) ?_;refine Qfo (Qgt HT_.out qq_4) ?_
 try go_wp2
 go_ret
 exact⟨qq_3,qq_b⟩
def Qcb.l0:Nat→List (S129)→Int→Option (Bool)
 | 0,_,_=>none
 | k+1,x0,x3=>if x3<(x0.length:Int)then(if 0≤(wrap64 (x3-1))then(if(wrap64 (x3-1))<(x0.length:Int)then(if 0≤x3 then((Qbz.f k ((Qil x0 (wrap64 (x3-1))).f0) ((Qil x0 (wrap64 (x3-1))).f1) ((Qil x0 x3).f0) ((Qil x0 x3).f1)).bind fun t286=>(if t286≥0 then(some false)else(Qcb.l0 k x0 (wrap64 (x3+1)))))else(none))else(none))else(none))else(some true)
def Qcb.f(k:Nat)(l0:List (S129)):Option (Bool):=Qcb.l0 k l0 1
theorem Qcb.mono_l:∀k,(∀y0 y1,LeO (Qcb.l0 k y0 y1) (Qcb.l0 (k+1) y0 y1))
 | 0=>fun _ _ r h=>by simp[Qcb.l0]at h
 | k+1=>by
  have ih0:=Qcb.mono_l k
  ·intro y0 y1;unfold Qcb.l0
   repeat' first
   |(with_reducible exact ih0 _ _)
   |(with_reducible exact Qbz.mono _ _ _ _ _)
   |(with_reducible exact LeO.refl _)
   |(with_reducible exact LeO.none _)
   |(with_reducible refine LeO.ite ?_ ?_)
   |(with_reducible refine LeO.bind ?_ (fun _=>?_))
   | exact ih0 _ _
   | exact Qbz.mono _ _ _ _ _
   | exact LeO.none _
   | refine LeO.ite ?_ ?_
   | refine LeO.bind ?_ (fun _=>?_)
theorem Qcb.mono:∀a0 k,LeO (Qcb.f k a0) (Qcb.f (k+1) a0):=by
 intro a0 k;have ih0:=Qcb.mono_l k;unfold Qcb.f
 repeat' first
   |(with_reducible exact ih0 _ _)
   |(with_reducible exact Qbz.mono _ _ _ _ _)
   |(with_reducible exact LeO.refl _)
   |(with_reducible exact LeO.none _)
   |(with_reducible refine LeO.ite ?_ ?_)
   |(with_reducible refine LeO.bind ?_ (fun _=>?_))
   | exact ih0 _ _
   | exact Qbz.mono _ _ _ _ _
   | exact LeO.none _
   | refine LeO.ite ?_ ?_
   | refine LeO.bind ?_ (fun _=>?_)
def Qcb.T4:Bool × List (List Nat × List Nat):=(true,[([],[]),([],[]),([1],[1]),([0,2],[0,2]),([3],[3]),([],[]),([],[]),([5,6],[5,6]),([7],[7]),([4,8],[4,8]),([9],[9])])
def Qcb.B4:List Nat:=[0,0,2,7,15,0,0,96,224,511,1023]
theorem Qcb.tab4:rtab .any (Qha Tryz.f160 4)=Qcb.T4:=by kernel_rfl
theorem Qcb.bits4:Qgu Qcb.T4.2 Qcb.B4=true:=by kernel_rfl
theorem Qcb.calls (k:Nat) (A0:Option Addr) (c0:Nat) (l0:List (S129)) (r:Bool) (w:World) (hr0:Kd.C k129 w A0 l0.length l0) (hc0:l0.length≤c0) (h:Qcb.f k l0=some r) :
  Calls Tryz.prog 160 #[.slice A0 l0.length c0] w fun e w'=>e=.returned (.bool r)∧Below w.heap.size w w':=by
 have hu129:=Tryz.underlying129;have z:=QA hr0;have L:=QA hc0;clear hr0 hc0;have HB:=QA (Below.refl w.heap.size w);have H:(Qcb.l0 k l0 1)=some r:=h;clear h;have H':=QA H;clear H
 go_enter Tryz.func160,Tryz.ntmps160
 go_wp2
 go_loopg [3] k (fun kq v3 w'=>∃(a:Int),v3=.int .i64 a∧Aside0 (Qcb.l0 kq l0 a=some r)∧Aside0 (kq≤k)∧Aside0 (Below w.heap.size w w'))
 case atStart=>exact⟨(1),qq_8,H',⟨Nat.le_refl _⟩,⟨qq_b⟩⟩
 case round =>
  clear H';obtain⟨a,rfl,HA,HK1,HB⟩:=hrel
  cases gk with
  | zero=>exact absurd HA.out (by simp[Qcb.l0])
  | succ k1 =>
   have H:=HA.out;clear HA;simp only[Qcb.l0]at H
   by_cases c2:a<(l0.length:Int)
   ·rw [if_pos c2]at H;have B:=decide_eq_true c2;clear c2;obtain⟨b,u⟩:∃j_:Int,(wrap64 (a-1))=j_:=⟨_,rfl⟩;replace H:(if 0≤(b)then(if(b)<(l0.length:Int)then(if 0≤a then((Qbz.f k1 ((Qil l0 (b)).f0) ((Qil l0 (b)).f1) ((Qil l0 a).f0) ((Qil l0 a).f1)).bind fun o=>(if o≥0 then(some false)else(Qcb.l0 k1 l0 (wrap64 (a+1)))))else(none))else(none))else(none))=some r:=by first |(rw[u]at H;exact H) |(simp only[u]at H ⊢;exact H)
    have E:(IntKind.i64.wrap (a-1))=b:=(Qfu _).trans u
    by_cases c4:0≤(b)
    ·rw [if_pos c4]at H;have G:=decide_eq_true c4;clear c4
     by_cases c5:(b)<(l0.length:Int)
     ·rw[if_pos c5]at H;have I:=decide_eq_true c5;clear c5
      by_cases c6:0≤a
      ·rw[if_pos c6]at H;have J:=decide_eq_true c6;clear c6;replace H:=Option.bind_eq_some_iff.mp H;obtain⟨o,A,H⟩:=H;have A7:=QA A;clear A
       by_cases c8:o≥0
       ·rw[if_pos c8]at H;have D:decide (0≤o)=true:=decide_eq_true c8;clear c8;obtain rfl:=Option.some.inj H
        try go_wp2
        have n_:=qn1 (Qev HB.out);clear HB;have HB:=n_;clear n_;have p:0≤((b):Int):=of_decide_eq_true qq_2;have q:(b)<(l0.length:Int):=of_decide_eq_true qq_2;obtain⟨c,x,d,g⟩:=Qim z.out (b) p q;have hw284_1:=g;have hw284_0:=d
        cases x
        replace d:=qq_h HB.out d;replace g:=qq_h HB.out g;replace p:=eq_true p;replace q:=eq_true q;have s:0≤(a:Int):=of_decide_eq_true qq_2;have t:a<(l0.length:Int):=of_decide_eq_true qq_2;obtain⟨v,y,j,l⟩:=Qim z.out a s t;have hw285_1:=l;have hw285_0:=j;obtain rfl:c=v:=(by injection y);replace j:=qq_h HB.out j;replace l:=qq_h HB.out l;replace s:=eq_true s;replace t:=eq_true t;refine Qfk (n:=11) (S:=fun w'=>w'.cell? (c.add (((b)).toNat*2))=some (.int .u64 ((Qil l0 (b)).f0))∧w'.cell? ⟨(c.add (((b)).toNat*2)).block,(c.add (((b)).toNat*2)).off+1,none⟩=some (.int .u32 ((Qil l0 (b)).f1))∧w'.cell? (c.add ((a).toNat*2))=some (.int .u64 ((Qil l0 a).f0))∧w'.cell? ⟨(c.add ((a).toNat*2)).block,(c.add ((a).toNat*2)).off+1,none⟩=some (.int .u32 ((Qil l0 a).f1))) (ds:=[]) (bm 11 0) qq_4 rfl rfl ⟨((HB.out.cell (World.block_lt_of_cell? w _ hw284_0)).trans hw284_0),((HB.out.cell (World.block_lt_of_cell? w _ hw284_1)).trans hw284_1),((HB.out.cell (World.block_lt_of_cell? w _ hw285_0)).trans hw285_0),((HB.out.cell (World.block_lt_of_cell? w _ hw285_1)).trans hw285_1)⟩ (fun m=>?_);refine Qgy Qcb.tab4 Qcb.bits4 (fun HT_ HW_=>?_);generalize wr.drew=w9 at HB d g j l m ⊢;refine pz_ (i:=0) (N:=some 10) (bm 11 1) (Qgq HT_.out qq_4) ?_;refine pz_ (i:=1) (N:=some 11) (bm 11 3) (Qgq HT_.out qq_4) ?_;refine pz_ (i:=2) (N:=some 12) (bm 11 7) (Qgq HT_.out qq_4) ?_;refine pz_ (i:=3) (N:=some 13) (bm 11 15) (Qgq HT_.out qq_4) ?_;refine pz_ (i:=5) (N:=some 15) (bm 11 47) (Qgq HT_.out qq_4) ?_;refine pz_ (i:=6) (N:=some 16) (bm 11 111) (Qgq HT_.out qq_4) ?_;refine pz_ (i:=7) (N:=some 17) (bm 11 239) (Qgq HT_.out qq_4) ?_;refine tz_ (i:=4) (N:=some 14) (bm 11 255) (Qgx HT_.out HW_.out qq_4) m ?_;refine tz_ (i:=8) (N:=some 18) (bm 11 511) (Qgx HT_.out HW_.out qq_4) m ?_;refine one_ (i:=9) (N:=some 19) (bm 11 1023) rfl rfl (Qgr HT_.out qq_4) (by decide) (fun K hK=>?_);refine Qfs Tryz.func116 qq_4 rfl #[.agg #[.int .u64 ((Qil l0 (b)).f0),.int .u32 ((Qil l0 (b)).f1)],.agg #[.int .u64 ((Qil l0 a).f0),.int .u32 ((Qil l0 a).f1)]] (by rfl) rfl rfl (by(try simp only[List.map_toArray,List.map_cons,List.map_nil]);first|done |(simp only[u];rfl)|rfl |(simp only[List.length_drop,List.length_take];rfl)) ?_;with_reducible refine(Qbz.calls k1 ((Qil l0 (b)).f0) ((Qil l0 (b)).f1) ((Qil l0 a).f0) ((Qil l0 a).f1) o _ A7.out).mono ?_
        rintro e M ⟨rfl,hb⟩;refine⟨_,rfl,?_⟩;have n_:=qn1 (Qeo qq_b hb);clear HB;have HB:=n_;clear n_
        (try clear hb)
        (try clear hb2)
        (try clear hk)
        (try clear hi)
        refine hK.out _ _ ⟨((HB.out.cell (World.block_lt_of_cell? w _ hw284_0)).trans hw284_0),((HB.out.cell (World.block_lt_of_cell? w _ hw284_1)).trans hw284_1),((HB.out.cell (World.block_lt_of_cell? w _ hw285_0)).trans hw285_0),((HB.out.cell (World.block_lt_of_cell? w _ hw285_1)).trans hw285_1)⟩ (fun m=>?_);clear hK K;refine nzp_ 19 ?_;refine pz_ (i:=10) (N:=some 20) (bm 11 2047) (Qgq HT_.out qq_4) ?_;refine Qfo (Qgt HT_.out qq_4) ?_
        try go_wp2
        go_ret
        exact⟨by first|rfl |(simp[Qhy,Qhz]<;>rfl) |(simp only[← u];first|rfl |(simp[Qhy,Qhz]<;>rfl)) |(simp[*,Qhy,Qhz]<;>rfl),qq_b⟩
       ·rw[if_neg c8]at H;have D:decide (0≤o)=false:=decide_eq_false c8;clear c8;have H':=QA H;clear H
        try go_wp2
        have n_:=qn1 (Qev HB.out);clear HB;have HB:=n_;clear n_;have p:0≤((b):Int):=of_decide_eq_true qq_2;have q:(b)<(l0.length:Int):=of_decide_eq_true qq_2;obtain⟨c,x,d,g⟩:=Qim z.out (b) p q;have hw284_1:=g;have hw284_0:=d
        cases x
        replace d:=qq_h HB.out d;replace g:=qq_h HB.out g;replace p:=eq_true p;replace q:=eq_true q;have s:0≤(a:Int):=of_decide_eq_true qq_2;have t:a<(l0.length:Int):=of_decide_eq_true qq_2;obtain⟨v,y,j,l⟩:=Qim z.out a s t;have hw285_1:=l;have hw285_0:=j;obtain rfl:c=v:=(by injection y);replace j:=qq_h HB.out j;replace l:=qq_h HB.out l;replace s:=eq_true s;replace t:=eq_true t;refine Qfk (n:=11) (S:=fun w'=>w'.cell? (c.add (((b)).toNat*2))=some (.int .u64 ((Qil l0 (b)).f0))∧w'.cell? ⟨(c.add (((b)).toNat*2)).block,(c.add (((b)).toNat*2)).off+1,none⟩=some (.int .u32 ((Qil l0 (b)).f1))∧w'.cell? (c.add ((a).toNat*2))=some (.int .u64 ((Qil l0 a).f0))∧w'.cell? ⟨(c.add ((a).toNat*2)).block,(c.add ((a).toNat*2)).off+1,none⟩=some (.int .u32 ((Qil l0 a).f1))) (ds:=[]) (bm 11 0) qq_4 rfl rfl ⟨((HB.out.cell (World.block_lt_of_cell? w _ hw284_0)).trans hw284_0),((HB.out.cell (World.block_lt_of_cell? w _ hw284_1)).trans hw284_1),((HB.out.cell (World.block_lt_of_cell? w _ hw285_0)).trans hw285_0),((HB.out.cell (World.block_lt_of_cell? w _ hw285_1)).trans hw285_1)⟩ (fun m=>?_);refine Qgy Qcb.tab4 Qcb.bits4 (fun HT_ HW_=>?_);generalize wr.drew=w11 at HB d g j l m ⊢;refine pz_ (i:=0) (N:=some 10) (bm 11 1) (Qgq HT_.out qq_4) ?_;refine pz_ (i:=1) (N:=some 11) (bm 11 3) (Qgq HT_.out qq_4) ?_;refine pz_ (i:=2) (N:=some 12) (bm 11 7) (Qgq HT_.out qq_4) ?_;refine pz_ (i:=3) (N:=some 13) (bm 11 15) (Qgq HT_.out qq_4) ?_;refine pz_ (i:=5) (N:=some 15) (bm 11 47) (Qgq HT_.out qq_4) ?_;refine pz_ (i:=6) (N:=some 16) (bm 11 111) (Qgq HT_.out qq_4) ?_;refine pz_ (i:=7) (N:=some 17) (bm 11 239) (Qgq HT_.out qq_4) ?_;refine tz_ (i:=4) (N:=some 14) (bm 11 255) (Qgx HT_.out HW_.out qq_4) m ?_;refine tz_ (i:=8) (N:=some 18) (bm 11 511) (Qgx HT_.out HW_.out qq_4) m ?_;refine one_ (i:=9) (N:=some 19) (bm 11 1023) rfl rfl (Qgr HT_.out qq_4) (by decide) (fun K hK=>?_);refine Qfs Tryz.func116 qq_4 rfl #[.agg #[.int .u64 ((Qil l0 (b)).f0),.int .u32 ((Qil l0 (b)).f1)],.agg #[.int .u64 ((Qil l0 a).f0),.int .u32 ((Qil l0 a).f1)]] (by rfl) rfl rfl (by(try simp only[List.map_toArray,List.map_cons,List.map_nil]);first|done |(simp only[u];rfl)|rfl |(simp only[List.length_drop,List.length_take];rfl)) ?_;with_reducible refine(Qbz.calls k1 ((Qil l0 (b)).f0) ((Qil l0 (b)).f1) ((Qil l0 a).f0) ((Qil l0 a).f1) o _ A7.out).mono ?_
        rintro e O ⟨rfl,hb⟩;refine⟨_,rfl,?_⟩;have n_:=qn1 (Qeo qq_b hb);clear HB;have HB:=n_;clear n_
        (try clear hb)
        (try clear hb2)
        (try clear hk)
        (try clear hi)
        refine hK.out _ _ ⟨((HB.out.cell (World.block_lt_of_cell? w _ hw284_0)).trans hw284_0),((HB.out.cell (World.block_lt_of_cell? w _ hw284_1)).trans hw284_1),((HB.out.cell (World.block_lt_of_cell? w _ hw285_0)).trans hw285_0),((HB.out.cell (World.block_lt_of_cell? w _ hw285_1)).trans hw285_1)⟩ (fun m=>?_);clear hK K;refine nzp_ 19 ?_;refine pz_ (i:=10) (N:=some 20) (bm 11 2047) (Qgq HT_.out qq_4) ?_;refine Qfo (Qgt HT_.out qq_4) ?_
        try go_wp2
        go_roundg k1
        case measure=>have:=HK1.out;omega
        case rel=>exact⟨(wrap64 (a+1)),qq_8,H',⟨by have:=HK1.out;omega⟩,⟨qq_b⟩⟩
      ·rw[if_neg c6]at H;exact absurd H (by simp)
     ·rw[if_neg c5]at H;exact absurd H (by simp)
    ·rw[if_neg c4]at H;exact absurd H (by simp)
   ·rw[if_neg c2]at H;have B:=decide_eq_false c2;clear c2;obtain rfl:=Option.some.inj H;go_wp2;go_ret
    exact⟨qq_3,qq_b⟩
theorem Qmo(d:Nat)(w:World)(x0 y0:Int)(x1 y1:Int) :
  (Op.equalIn (d+2) 129 (.agg #[.int .u64 x0,.int .u32 x1]) (.agg #[.int .u64 y0,.int .u32 y1])).run Tryz.prog w=.ok (x0 == y0 && (x1 == y1)) w:=by
 refine Qhj Tryz.underlying129 qq_4 ?_;refine Qhi (by rfl) (by go_simp;rfl) (by go_simp;rfl) (by go_simp) ?_;exact Qhh (by rfl) (by go_simp;rfl) (by go_simp;rfl) (by go_simp)
def Qbx.l0:Nat→List Int→List Int→Int→Int→Option (Bool)
 | 0,_,_,_,_=>none
 | k+1,x0,x1,x12,x13=>if x13<x12 then(if 0≤x13 then(if x13<(x0.length:Int)then(if x13<(x1.length:Int)then(if(rd x0 x13)=(rd x1 x13)then(Qbx.l0 k x0 x1 x12 (wrap64 (x13+1)))else(some false))else(none))else(none))else(none))else(some true)
def Qbx.f(k:Nat)(l0:List Int)(l1:List Int):Option (Bool):=if(l0.length:Int)=(l1.length:Int)then(Qbx.l0 k l0 l1 (l0.length:Int) 0)else(some false)
theorem Qbx.calls (k:Nat) (A0:Option Addr) (c0:Nat) (l0:List Int) (A1:Option Addr) (c1:Nat) (l1:List Int) (r:Bool) (w:World) (hr0:Kd.C (Kd.int .u64) w A0 l0.length l0) (hc0:l0.length≤c0) (hr1:Kd.C (Kd.int .u64) w A1 l1.length l1) (hc1:l1.length≤c1) (h:Qbx.f k l0 l1=some r) :
  Calls Tryz.prog 183 #[.slice A0 l0.length c0,.slice A1 l1.length c1] w fun e w'=>e=.returned (.bool r)∧Drawn0 w w':=by
 have u:=QA hr0;have G:=QA hc0;clear hr0 hc0;have v:=QA hr1;have I:=QA hc1;clear hr1 hc1;have H:(if(l0.length:Int)=(l1.length:Int)then(Qbx.l0 k l0 l1 (l0.length:Int) 0)else(some false))=some r:=h;clear h
 by_cases c3:(l0.length:Int)=(l1.length:Int)
 ·rw [if_pos c3]at H;have o:((l0.length:Int) == (l1.length:Int))=true:=beq_iff_eq.mpr c3;have p:((l0.length:Int) != (l1.length:Int))=false:=bne_eq_false_iff_eq.mpr c3;have q:(l0.length == l1.length)=true:=by first|simpa using c3 |(simp at c3 ⊢;omega)
  clear c3;have H':=QA H;clear H
  go_enter Tryz.func183,Tryz.ntmps183
  go_wp2
  repeat(go_quiet (fail);try go_wp2)
  go_loopg [13] k (fun kq A w'=>∃(a:Int),A=.int .i64 a∧Aside0 (Qbx.l0 kq l0 l1 (l0.length:Int) a=some r)∧Aside0 (kq≤k)∧Drawn0 w w')
  case atStart=>exact⟨(0),qq_8,H',⟨Nat.le_refl _⟩,by repeat(first|exact Drawn0.refl _|apply Drawn0.step)⟩
  case round =>
   clear H'
   try clear c1
   try clear c3
   try clear o
   try clear p
   try clear q
   obtain⟨a,rfl,HA,HK1,⟨m1,rfl⟩⟩:=hrel
   cases gk with
   | zero=>exact absurd HA.out (by simp[Qbx.l0])
   | succ k1 =>
    have H:=HA.out;clear HA;simp only[Qbx.l0]at H
    by_cases c4:a<(l0.length:Int)
    ·rw [if_pos c4]at H;have x:=decide_eq_true c4;clear c4
     by_cases c5:0≤a
     ·rw [if_pos c5]at H;have B:=decide_eq_true c5;clear c5
      by_cases c6:a<(l0.length:Int)
      ·rw[if_pos c6]at H;have D:=decide_eq_true c6;clear c6
       by_cases c7:a<(l1.length:Int)
       ·rw[if_pos c7]at H;have E:=decide_eq_true c7;clear c7
        by_cases c8:(rd l0 a)=(rd l1 a)
        ·rw[if_pos c8]at H;have y:((rd l0 a) == (rd l1 a))=true:=beq_iff_eq.mpr c8;have z:((rd l0 a) != (rd l1 a))=false:=bne_eq_false_iff_eq.mpr c8;clear c8;have H':=QA H;clear H;have b:0≤(a:Int):=of_decide_eq_true qq_2;have c:a<(l0.length:Int):=of_decide_eq_true qq_2;obtain⟨s,j,m⟩:=Kd.at_int u.out a b c
         cases j
         replace b:=eq_true b;replace c:=eq_true c;have d:0≤(a:Int):=of_decide_eq_true qq_2;have g:a<(l1.length:Int):=of_decide_eq_true qq_2;obtain⟨t,l,n⟩:=Kd.at_int v.out a d g
         cases l
         replace d:=eq_true d;replace g:=eq_true g;go_wp2
         repeat(go_quiet (fail);try go_wp2)
         go_roundg k1
         case measure=>have:=HK1.out;omega
         case rel=>exact⟨(wrap64 (a+1)),qq_8,H',⟨by have:=HK1.out;omega⟩,by repeat(first|exact Drawn0.refl _|apply Drawn0.step)⟩
        ·rw[if_neg c8]at H;have y:((rd l0 a) == (rd l1 a))=false:=beq_eq_false_iff_ne.mpr c8;have z:((rd l0 a) != (rd l1 a))=true:=bne_iff_ne.mpr c8;obtain rfl:=Option.some.inj H;have b:0≤(a:Int):=of_decide_eq_true qq_2;have c:a<(l0.length:Int):=of_decide_eq_true qq_2;obtain⟨s,j,m⟩:=Kd.at_int u.out a b c
         cases j
         replace b:=eq_true b;replace c:=eq_true c;have d:0≤(a:Int):=of_decide_eq_true qq_2;have g:a<(l1.length:Int):=of_decide_eq_true qq_2;obtain⟨t,l,n⟩:=Kd.at_int v.out a d g
         cases l
         replace d:=eq_true d;replace g:=eq_true g;go_wp2
         repeat(go_quiet (fail);try go_wp2)
         go_ret
         exact⟨by first|rfl |(simp;done) |(simp[*];done),by repeat(first|exact Drawn0.refl _|apply Drawn0.step)⟩
       ·rw[if_neg c7]at H;exact absurd H (by simp)
      ·rw[if_neg c6]at H;exact absurd H (by simp)
     ·rw[if_neg c5]at H;exact absurd H (by simp)
    ·rw[if_neg c4]at H;have x:=decide_eq_false c4;clear c4;obtain rfl:=Option.some.inj H;go_wp2
     repeat(go_quiet (fail);try go_wp2)
     go_ret
     exact⟨by first|rfl |(simp;done) |(simp[*];done),by repeat(first|exact Drawn0.refl _|apply Drawn0.step)⟩
 ·rw[if_neg c3]at H;have o:((l0.length:Int) == (l1.length:Int))=false:=beq_eq_false_iff_ne.mpr c3;have p:((l0.length:Int) != (l1.length:Int))=true:=bne_iff_ne.mpr c3;have q:(l0.length == l1.length)=false:=by first|simpa using c3 |(simp at c3 ⊢;omega)
  obtain rfl:=Option.some.inj H
  go_enter Tryz.func183,Tryz.ntmps183
  go_wp2
  repeat(go_quiet (fail);try go_wp2)
  go_ret
  exact⟨by first|rfl |(simp;done) |(simp[*];done),by repeat(first|exact Drawn0.refl _|apply Drawn0.step)⟩
def Qah.f(a0:Int)(a1:Int):Option (Bool):=(Qak.f a0).bind fun t770=>(if t770=true then((Qak.f a1).bind fun t771=>(if t771=true then(some (decide (a0<a1)))else(some true)))else(some (decide (a0<a1))))
theorem Qah.calls(a0:Int)(a1:Int)(r:Bool)(w:World)(h:Qah.f a0 a1=some r) :
  Calls Tryz.prog 234 #[.int .u64 a0,.int .u64 a1] w fun e w'=>e=.returned (.bool r)∧Drawn0 w w':=by
 have H:((Qak.f a0).bind fun a=>(if a=true then((Qak.f a1).bind fun b=>(if b=true then(some (decide (a0<a1)))else(some true)))else(some (decide (a0<a1)))))=some r:=h;clear h;replace H:=Option.bind_eq_some_iff.mp H;obtain⟨a,c,H⟩:=H;have A3:=QA c;clear c
 by_cases c4:a=true
 ·subst c4;rw[if_pos rfl]at H;replace H:=Option.bind_eq_some_iff.mp H;obtain⟨b,d,H⟩:=H;have A5:=QA d;clear d
  by_cases c6:b=true
  ·subst c6;rw[if_pos rfl]at H;obtain rfl:=Option.some.inj H
   go_enter Tryz.func234,Tryz.ntmps234
   go_wp2_with (first |((with_reducible refine Qht (f:=216) rfl ?_);refine Qft (some 6) rfl rfl Tryz.func216 qq_4 rfl #[.int .u64 a0] rfl qq_1 ?_;(with_reducible refine(Qak.calls a0 true _ A3.out).mono ?_);rintro e w' ⟨rfl,⟨nd,rfl⟩⟩;refine⟨_,rfl,?_⟩) |(go_at_call 216;(with_reducible refine(Qak.calls a1 true _ A5.out).mono ?_);rintro e w' ⟨rfl,⟨nd,rfl⟩⟩))
   go_ret
   exact⟨by first|rfl |(simp;done) |(simp[*];done),by repeat(first|exact Drawn0.refl _|apply Drawn0.step)⟩
  ·replace c6:=Bool.eq_false_iff.mpr c6;subst c6;rw[if_neg (show ¬(false=true)by decide)]at H;obtain rfl:=Option.some.inj H
   go_enter Tryz.func234,Tryz.ntmps234
   go_wp2_with (first |((with_reducible refine Qht (f:=216) rfl ?_);refine Qft (some 6) rfl rfl Tryz.func216 qq_4 rfl #[.int .u64 a0] rfl qq_1 ?_;(with_reducible refine(Qak.calls a0 true _ A3.out).mono ?_);rintro e w' ⟨rfl,⟨nd,rfl⟩⟩;refine⟨_,rfl,?_⟩) |(go_at_call 216;(with_reducible refine(Qak.calls a1 false _ A5.out).mono ?_);rintro e w' ⟨rfl,⟨nd,rfl⟩⟩))
   go_ret
   exact⟨by first|rfl |(simp;done) |(simp[*];done),by repeat(first|exact Drawn0.refl _|apply Drawn0.step)⟩
 ·replace c4:=Bool.eq_false_iff.mpr c4;subst c4;rw[if_neg (show ¬(false=true)by decide)]at H;obtain rfl:=Option.some.inj H
  go_enter Tryz.func234,Tryz.ntmps234
  go_wp2_with (first |((with_reducible refine Qht (f:=216) rfl ?_);refine Qft (some 6) rfl rfl Tryz.func216 qq_4 rfl #[.int .u64 a0] rfl qq_1 ?_;(with_reducible refine(Qak.calls a0 false _ A3.out).mono ?_);rintro e w' ⟨rfl,⟨nd,rfl⟩⟩;refine⟨_,rfl,?_⟩))
  go_ret
  exact⟨by first|rfl |(simp;done) |(simp[*];done),by repeat(first|exact Drawn0.refl _|apply Drawn0.step)⟩
def Qby.l0:Nat→List Int→Int→Option (Bool)
 | 0,_,_=>none
 | k+1,x0,x3=>if x3 > 0 then(if 0≤x3 then(if x3<(x0.length:Int)then(if 0≤(wrap64 (x3-1))then(if(wrap64 (x3-1))<(x0.length:Int)then((Qah.f (rd x0 x3) (rd x0 (wrap64 (x3-1)))).bind fun t774=>(if t774=true then(some false)else(Qby.l0 k x0 (wrap64 (x3-1)))))else(none))else(none))else(none))else(none))else(some true)
def Qby.f(k:Nat)(l0:List Int):Option (Bool):=Qby.l0 k l0 (wrap64 ((l0.length:Int)-1))
theorem Qby.mono_l:∀k,(∀y0 y1,LeO (Qby.l0 k y0 y1) (Qby.l0 (k+1) y0 y1))
 | 0=>fun _ _ r h=>by simp[Qby.l0]at h
 | k+1=>by
  have ih0:=Qby.mono_l k
  ·intro y0 y1;unfold Qby.l0
   repeat' first
   |(with_reducible exact ih0 _ _)
   |(with_reducible exact LeO.refl _)
   |(with_reducible exact LeO.none _)
   |(with_reducible refine LeO.ite ?_ ?_)
   |(with_reducible refine LeO.bind ?_ (fun _=>?_))
   | exact ih0 _ _
   | exact LeO.none _
   | refine LeO.ite ?_ ?_
   | refine LeO.bind ?_ (fun _=>?_)
theorem Qby.mono:∀a0 k,LeO (Qby.f k a0) (Qby.f (k+1) a0):=by
 intro a0 k;have ih0:=Qby.mono_l k;unfold Qby.f
 repeat' first
   |(with_reducible exact ih0 _ _)
   |(with_reducible exact LeO.refl _)
   |(with_reducible exact LeO.none _)
   |(with_reducible refine LeO.ite ?_ ?_)
   |(with_reducible refine LeO.bind ?_ (fun _=>?_))
   | exact ih0 _ _
   | exact LeO.none _
   | refine LeO.ite ?_ ?_
   | refine LeO.bind ?_ (fun _=>?_)
theorem Qby.calls (k:Nat) (A0:Option Addr) (c0:Nat) (l0:List Int) (r:Bool) (w:World) (hr0:Kd.C (Kd.int .u64) w A0 l0.length l0) (hc0:l0.length≤c0) (h:Qby.f k l0=some r) :
  Calls Tryz.prog 223 #[.slice A0 l0.length c0] w fun e w'=>e=.returned (.bool r)∧Drawn0 w w':=by
 have s:=QA hr0;have E:=QA hc0;clear hr0 hc0;have H:(Qby.l0 k l0 (wrap64 ((l0.length:Int)-1)))=some r:=h;clear h;have H':=QA H;clear H
 go_enter Tryz.func223,Tryz.ntmps223
 go_wp2
 repeat(go_quiet (fail);try go_wp2)
 go_loopg [3] k (fun kq v3 w'=>∃(a:Int),v3=.int .i64 a∧Aside0 (Qby.l0 kq l0 a=some r)∧Aside0 (kq≤k)∧Drawn0 w w')
 case atStart=>exact⟨(wrap64 ((l0.length:Int)-1)),qq_8,H',⟨Nat.le_refl _⟩,by repeat(first|exact Drawn0.refl _|apply Drawn0.step)⟩
 case round =>
  clear H';obtain⟨a,rfl,HA,HK1,⟨m1,rfl⟩⟩:=hrel
  cases gk with
  | zero=>exact absurd HA.out (by simp[Qby.l0])
  | succ k1 =>
   have H:=HA.out;clear HA;simp only[Qby.l0]at H
   by_cases c2:a > 0
   ·rw [if_pos c2]at H;have x:decide (0<a)=true:=decide_eq_true c2;clear c2
    by_cases c3:0≤a
    ·rw [if_pos c3]at H;have z:=decide_eq_true c3;clear c3
     by_cases c4:a<(l0.length:Int)
     ·rw [if_pos c4]at H;have A:=decide_eq_true c4;clear c4;obtain⟨b,l⟩:∃j_:Int,(wrap64 (a-1))=j_:=⟨_,rfl⟩;replace H:(if 0≤(b)then(if(b)<(l0.length:Int)then((Qah.f (rd l0 a) (rd l0 (b))).bind fun o=>(if o=true then(some false)else(Qby.l0 k1 l0 b)))else(none))else(none))=some r:=by first |(rw[l]at H;exact H) |(simp only[l]at H ⊢;exact H)
      have y:(IntKind.i64.wrap (a-1))=b:=(Qfu _).trans l
      by_cases c6:0≤(b)
      ·rw[if_pos c6]at H;have B:=decide_eq_true c6;clear c6
       by_cases c7:(b)<(l0.length:Int)
       ·rw[if_pos c7]at H;have D:=decide_eq_true c7;clear c7;replace H:=Option.bind_eq_some_iff.mp H;obtain⟨o,v,H⟩:=H;have A8:=QA v;clear v
        by_cases c9:o=true
        ·subst c9;rw[if_pos rfl]at H;obtain rfl:=Option.some.inj H;have c:0≤(a:Int):=of_decide_eq_true qq_2;have d:a<(l0.length:Int):=of_decide_eq_true qq_2;obtain⟨m,p,t⟩:=Kd.at_int s.out a c d
         cases p
         replace c:=eq_true c;replace d:=eq_true d;have g:0≤((b):Int):=of_decide_eq_true qq_2;have j:(b)<(l0.length:Int):=of_decide_eq_true qq_2;obtain⟨n,q,u⟩:=Kd.at_int s.out (b) g j;obtain rfl:m=n:=(by injection q);replace g:=eq_true g;replace j:=eq_true j
         go_wp2_with (first |(go_at_call 234;(with_reducible refine(Qah.calls (rd l0 a) (rd l0 (b)) true _ A8.out).mono ?_);rintro e w' ⟨rfl,⟨nd,rfl⟩⟩;(try first|exact⟨rfl,_,World.drewN_drewN _ _ _⟩|exact⟨rfl,_,Eq.trans (World.drewN_drewN _ _ _) (congrArg (World.drewN _) (Nat.add_assoc _ _ _))⟩)))
         repeat(go_quiet (first |(go_at_call 234;(with_reducible refine(Qah.calls (rd l0 a) (rd l0 (b)) true _ A8.out).mono ?_);rintro e w' ⟨rfl,⟨nd,rfl⟩⟩;(try first|exact⟨rfl,_,World.drewN_drewN _ _ _⟩|exact⟨rfl,_,Eq.trans (World.drewN_drewN _ _ _) (congrArg (World.drewN _) (Nat.add_assoc _ _ _))⟩)));try go_wp2_with (first |(go_at_call 234;(with_reducible refine(Qah.calls (rd l0 a) (rd l0 (b)) true _ A8.out).mono ?_);rintro e w' ⟨rfl,⟨nd,rfl⟩⟩;(try first|exact⟨rfl,_,World.drewN_drewN _ _ _⟩|exact⟨rfl,_,Eq.trans (World.drewN_drewN _ _ _) (congrArg (World.drewN _) (Nat.add_assoc _ _ _))⟩))))
         go_ret
         exact⟨by first|rfl |(simp;done) |(simp only[← l]<;>(first|rfl|simp)) |(simp[*];done),by repeat(first|exact Drawn0.refl _|apply Drawn0.step)⟩
        ·replace c9:=Bool.eq_false_iff.mpr c9;subst c9;rw[if_neg (show ¬(false=true)by decide)]at H;have H':=QA H;clear H;have c:0≤(a:Int):=of_decide_eq_true qq_2;have d:a<(l0.length:Int):=of_decide_eq_true qq_2;obtain⟨m,p,t⟩:=Kd.at_int s.out a c d
         cases p
         replace c:=eq_true c;replace d:=eq_true d;have g:0≤((b):Int):=of_decide_eq_true qq_2;have j:(b)<(l0.length:Int):=of_decide_eq_true qq_2;obtain⟨n,q,u⟩:=Kd.at_int s.out (b) g j;obtain rfl:m=n:=(by injection q);replace g:=eq_true g;replace j:=eq_true j
         go_wp2_with (first |(go_at_call 234;(with_reducible refine(Qah.calls (rd l0 a) (rd l0 (b)) false _ A8.out).mono ?_);rintro e w' ⟨rfl,⟨nd,rfl⟩⟩;(try first|exact⟨rfl,_,World.drewN_drewN _ _ _⟩|exact⟨rfl,_,Eq.trans (World.drewN_drewN _ _ _) (congrArg (World.drewN _) (Nat.add_assoc _ _ _))⟩)))
         repeat(go_quiet (first |(go_at_call 234;(with_reducible refine(Qah.calls (rd l0 a) (rd l0 (b)) false _ A8.out).mono ?_);rintro e w' ⟨rfl,⟨nd,rfl⟩⟩;(try first|exact⟨rfl,_,World.drewN_drewN _ _ _⟩|exact⟨rfl,_,Eq.trans (World.drewN_drewN _ _ _) (congrArg (World.drewN _) (Nat.add_assoc _ _ _))⟩)));try go_wp2_with (first |(go_at_call 234;(with_reducible refine(Qah.calls (rd l0 a) (rd l0 (b)) false _ A8.out).mono ?_);rintro e w' ⟨rfl,⟨nd,rfl⟩⟩;(try first|exact⟨rfl,_,World.drewN_drewN _ _ _⟩|exact⟨rfl,_,Eq.trans (World.drewN_drewN _ _ _) (congrArg (World.drewN _) (Nat.add_assoc _ _ _))⟩))))
         go_roundg k1
         case measure=>have:=HK1.out;omega
         case rel=>exact⟨(b),(by first|rfl |(simp;done) |(simp only[← l]<;>(first|rfl|simp)) |(simp[*];done)),H',⟨by have:=HK1.out;omega⟩,by repeat(first|exact Drawn0.refl _|apply Drawn0.step)⟩
       ·rw[if_neg c7]at H;exact absurd H (by simp)
      ·rw[if_neg c6]at H;exact absurd H (by simp)
     ·rw[if_neg c4]at H;exact absurd H (by simp)
    ·rw[if_neg c3]at H;exact absurd H (by simp)
   ·rw[if_neg c2]at H;have x:decide (0<a)=false:=decide_eq_false c2;clear c2;obtain rfl:=Option.some.inj H;go_wp2
    repeat(go_quiet (fail);try go_wp2)
    go_ret
    exact⟨by first|rfl |(simp;done) |(simp[*];done),by repeat(first|exact Drawn0.refl _|apply Drawn0.step)⟩
end Go.Proofs.YteaocbonofboeaaGreat.C
end
