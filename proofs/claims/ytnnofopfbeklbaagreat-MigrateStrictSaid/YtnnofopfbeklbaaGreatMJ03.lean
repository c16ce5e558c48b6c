/- Merged texts. -/
import Derived.Test.YtnnofopfbeklbaaGreatMJ01
import Derived.Test.YtnnofopfbeklbaaGreatMJ02
set_option linter.unusedVariables false
set_option linter.unusedSimpArgs false
set_option maxHeartbeats 8000000
set_option maxRecDepth 100000
section
namespace Go.Proofs.YtnnofopfbeklbaaGreat.C
open Go.RowKit Go.Proofs.YtnnofopfbeklbaaGreatW.PrintWords Go.Proofs.YtnnofopfbeklbaaGreatW.PrintLast Go.Proofs.YtnnofopfbeklbaaGreatW.PrintMore
attribute [local go_sem] Qjk Qjl Qjm Qjn Qjo Qjp Qjq Qjr
def Qdh.f(k:Nat)(a0_0:Int)(a0_1:Int)(a1_0:Int)(a1_1:Int):Option (Int):=(Qag.f a0_0 a1_0).bind fun t215=>((Qaf.f a0_1 a1_1).bind fun t216=>((Qah.f k (([t215,t216]:List Int))).bind fun t220=>(some t220)))
def Qdh.T1:Bool × List (List Nat × List Nat):=(true,[([],[]),([0],[0]),([],[]),([2],[2]),([1,3],[1,3]),([],[]),([5],[5]),([],[]),([7],[7]),([6,8,4],[6,8]),([4,9],[4,9]),([10,9],[10]),([11,11,0,1,2,3,4,5,6,7,8,9,10,11],[11])])
def Qdh.B1:List Nat:=[0,1,0,4,15,0,32,0,128,511,1023,2047,4095]
theorem Qdh.tab1:rtab .any (Qjb Tryz.f118 1)=Qdh.T1:=by kernel_rfl
theorem Qdh.bits1:Qiv Qdh.T1.2 Qdh.B1=true:=by kernel_rfl
theorem Qdh.calls(k:Nat)(l:Int)(d:Int)(u:Int)(s:Int)(r:Int)(w:World)(h:Qdh.f k l d u s=some r) :
  Calls Tryz.prog 118 #[.agg #[.int .u64 l,.int .u32 d],.agg #[.int .u64 u,.int .u32 s]] w fun e w'=>e=.returned (.int .i64 r)∧Below w.heap.size w w':=by
 have hu117:=Tryz.underlying117;have HB:=QA (Below.refl w.heap.size w);have H:((Qag.f l u).bind fun p=>((Qaf.f d s).bind fun m=>((Qah.f k (([p,m]:List Int))).bind fun q=>(some q))))=some r:=h;clear h;replace H:=Option.bind_eq_some_iff.mp H;obtain⟨p,E,H⟩:=H;replace H:((Qaf.f d s).bind fun m=>((Qah.f k (([p,m]:List Int))).bind fun q=>(some q)))=some r:=H;have A3:=QA E;clear E;replace H:=Option.bind_eq_some_iff.mp H;obtain⟨m,G,H⟩:=H;replace H:((Qah.f k (([p,m]:List Int))).bind fun q=>(some q))=some r:=H;have A4:=QA G;clear G;obtain⟨A,x⟩:∃y_:List Int,y_=(([p,m]:List Int)):=⟨_,rfl⟩;replace H:((Qah.f k A).bind fun q=>(some q))=some r:=by first |(rw[x];with_reducible exact H) |(have D:=(Option.bind_some _ _).symm.trans H;rw[x];with_reducible exact D) |(have D:=(Option.bind_some _ _).symm.trans H;with_reducible exact D)|with_reducible exact H |(rw[x];exact H)|exact H
 have B:=QA x;clear x;replace H:=Option.bind_eq_some_iff.mp H;obtain⟨q,I,H⟩:=H;replace H:(some q)=some r:=H;have A5:=QA I;clear I;obtain rfl:=Option.some.inj H
 go_enter Tryz.func118,Tryz.ntmps118
 try go_wp2_with (first |((with_reducible refine Qgt (N:=2) rfl ?_);refine qq_e 2 #[.int .u64 l,.int .u32 d] 117 ?_;intro c hg w6 hbox hb;have n_:=qn4 (Qgi qq_b hb) (hbox) (qq_s hg:w.heap.size≤c) (qq_s hg:w.heap.size≤c);clear HB;obtain⟨HB,a,O,P⟩:=n_;clear hb hbox hg) |((with_reducible refine Qgt (N:=3) rfl ?_);refine qq_e 3 #[.int .u64 u,.int .u32 s] 117 ?_;intro t hg w7 hbox hb;have n_:=qn7 (Qfd (g:=c) (o:=.cells #[.int .u64 l,.int .u32 d] 117 (0,0)) qq_0 hb) (Qgi qq_b hb) (hbox) (qq_s hg:w.heap.size≤t) (qq_s hg:w.heap.size≤t) ((by rw[hg];exact Nat.ne_of_lt (Qen (g:=c) (o:=.cells #[.int .u64 l,.int .u32 d] 117 (0,0)) qq_0):c≠t)) ((by rw[hg];exact Nat.ne_of_gt (Qen (g:=c) (o:=.cells #[.int .u64 l,.int .u32 d] 117 (0,0)) qq_0):t≠c));clear a HB;obtain⟨a,HB,b,T,U,J,L⟩:=n_;clear hb hbox hg))
 have n_:=qn3 (Qfb a.out) (Qfb b.out) (Qgp HB.out);clear a b HB;obtain⟨a,b,HB⟩:=n_;refine Qhg (n:=13) (S:=fun w'=>w'.cell? ⟨c,0,none⟩=some (.int .u64 l)∧w'.cell? ⟨c,1,none⟩=some (.int .u32 d)∧w'.cell? ⟨t,0,none⟩=some (.int .u64 u)∧w'.cell? ⟨t,1,none⟩=some (.int .u32 s)) (ds:=[]) (bm 13 0) qq_7 rfl rfl ⟨(Qeo a.out 0).trans rfl,(Qeo a.out 1).trans rfl,(Qeo b.out 0).trans rfl,(Qeo b.out 1).trans rfl⟩ (fun j=>?_);refine Qiz Qdh.tab1 Qdh.bits1 (fun HT_ HW_=>?_);generalize w7.drew=w8 at a b HB j ⊢;refine Qhj (i:=0) (N:=some 5) (v:=?_) (a':=?_) (bm 13 1) rfl rfl (Qir HT_.out qq_7) (fun _ _ _ h=>h) (Or.inl ⟨by rfl,?_⟩) ?_ ?_;rotate_left
 ·intro w';go_simp;with_reducible rfl
 rotate_left
 ·exact qq_2
 refine Qhj (i:=2) (N:=some 7) (v:=?_) (a':=?_) (bm 13 5) rfl rfl (Qir HT_.out qq_7) (fun _ _ _ h=>h) (Or.inl ⟨by rfl,?_⟩) ?_ ?_;rotate_left
 ·intro w';go_simp;with_reducible rfl
 rotate_left
 ·exact qq_2
 refine Qhj (i:=5) (N:=some 10) (v:=?_) (a':=?_) (bm 13 37) rfl rfl (Qir HT_.out qq_7) (fun _ _ _ h=>h) (Or.inl ⟨by rfl,?_⟩) ?_ ?_;rotate_left
 ·intro w';go_simp;with_reducible rfl
 rotate_left
 ·exact qq_2
 refine Qhj (i:=7) (N:=some 12) (v:=?_) (a':=?_) (bm 13 165) rfl rfl (Qir HT_.out qq_7) (fun _ _ _ h=>h) (Or.inl ⟨by rfl,?_⟩) ?_ ?_;rotate_left
 ·intro w';go_simp;with_reducible rfl
 rotate_left
 ·exact qq_2
 refine Qhi (i:=1) (N:=some 6) (v:=?_) (a':=?_) (bm 13 167) rfl rfl (Qiy HT_.out HW_.out qq_7) (fun _ _ _ h=>h) (Or.inl ⟨by rfl,?_⟩) j ?_ ?_;rotate_left
 ·rintro w' ⟨s0,s1,s2,s3⟩;go_simp;with_reducible rfl
 rotate_left
 ·exact qq_2
 refine Qhi (i:=3) (N:=some 8) (v:=?_) (a':=?_) (bm 13 175) rfl rfl (Qiy HT_.out HW_.out qq_7) (fun _ _ _ h=>h) (Or.inl ⟨by rfl,?_⟩) j ?_ ?_;rotate_left
 ·rintro w' ⟨s0,s1,s2,s3⟩;go_simp;with_reducible rfl
 rotate_left
 ·exact qq_2
 refine Qhi (i:=6) (N:=some 11) (v:=?_) (a':=?_) (bm 13 239) rfl rfl (Qiy HT_.out HW_.out qq_7) (fun _ _ _ h=>h) (Or.inl ⟨by rfl,?_⟩) j ?_ ?_;rotate_left
 ·rintro w' ⟨s0,s1,s2,s3⟩;go_simp;with_reducible rfl
 rotate_left
 ·exact qq_2
 refine Qhi (i:=8) (N:=some 13) (v:=?_) (a':=?_) (bm 13 495) rfl rfl (Qiy HT_.out HW_.out qq_7) (fun _ _ _ h=>h) (Or.inl ⟨by rfl,?_⟩) j ?_ ?_;rotate_left
 ·rintro w' ⟨s0,s1,s2,s3⟩;go_simp;with_reducible rfl
 rotate_left
 ·exact qq_2
 refine one_ (i:=4) (N:=some 9) (bm 13 511) rfl rfl (Qis HT_.out qq_7) (by decide) (fun K hK=>?_);refine Qhr Tryz.func166 qq_7 rfl #[.int .u64 l,.int .u64 u] (by rfl) rfl rfl qq_1 ?_;with_reducible refine(Qag.calls l u p _ A3.out).mono ?_
 rintro e w' ⟨rfl,⟨nd,rfl⟩⟩;refine⟨_,rfl,?_⟩;refine hK.out _ _ ⟨(Qeo a.out 0).trans rfl,(Qeo a.out 1).trans rfl,(Qeo b.out 0).trans rfl,(Qeo b.out 1).trans rfl⟩ (fun j=>?_);clear hK K;refine nzp_ 9 ?_;refine one_ (i:=9) (N:=some 14) (bm 13 1023) rfl rfl (Qis HT_.out qq_7) (by decide) (fun K hK=>?_);refine Qhr Tryz.func167 qq_7 rfl #[.int .u32 d,.int .u32 s] (by rfl) rfl rfl qq_1 ?_;with_reducible refine(Qaf.calls d s m _ A4.out).mono ?_
 rintro e w' ⟨rfl,⟨nd,rfl⟩⟩;refine⟨_,rfl,?_⟩;refine hK.out _ _ ⟨(Qeo a.out 0).trans rfl,(Qeo a.out 1).trans rfl,(Qeo b.out 0).trans rfl,(Qeo b.out 1).trans rfl⟩ (fun j=>?_);clear hK K;refine nzp_ 14 ?_;refine one_ (i:=10) (N:=some 15) (bm 13 2047) rfl rfl (Qis HT_.out qq_7) (by decide) (fun K hK=>?_);refine Kd.R_lit_step (Kd.int .i64) _ 3 ?hg (N:=15) ?hd (xs:=([p,m]:List Int)) (inner:=[.int .i64 p,.int .i64 m]) (ok:=fun _=>True) (okp:=fun _=>True) ?hr ?hp (fun _ hk=>hk) trivial (Below.refl _ _) (Nat.le_refl _) (by simp) ?_;(case hd=>rfl);(case hg=>rfl);(case hr=>exact qq_13);(case hp=>exact(Reps.one (show Kd.M (Kd.int .i64) _ _ _ p [.int .i64 p] from rfl) (Reps.one (show Kd.M (Kd.int .i64) _ _ _ m [.int .i64 m] from rfl) (Reps.none _ _))));intro W w9 y hb hg_ hnew_;clear hg_ hnew_
 (first|rw[← B.out]at y |(simp only[Int.reduceToNat]at y;rw[← B.out]at y))
 have n_:=qn4 (Kd.R_lower y (Qgh qq_b)) (Qfd (g:=c) (o:=.cells #[.int .u64 l,.int .u32 d] 117 (0,0)) qq_0 hb) (Qfd (g:=t) (o:=.cells #[.int .u64 u,.int .u32 s] 117 (0,0)) qq_0 hb) (Qgi qq_b hb);clear a b HB;obtain⟨z,a,b,HB⟩:=n_;clear hb y;obtain⟨Ao11,co11,eo11⟩:=Kd.R_slice z.out
 (first|subst eo11 |(injection eo11 with f1_ f2_ f3_;have f4_:=f1_.symm;have f5_:=f3_.symm;clear f1_ f2_ f3_;subst f4_;subst f5_))
 refine hK.out _ _ ⟨(Qeo a.out 0).trans rfl,(Qeo a.out 1).trans rfl,(Qeo b.out 0).trans rfl,(Qeo b.out 1).trans rfl⟩ (fun j=>?_);clear hK K;refine nzp_ 15 ?_;refine one_ (i:=11) (N:=some 16) (bm 13 4095) rfl rfl (Qis HT_.out qq_7) (by decide) (fun K hK=>?_);refine Qhr Tryz.func165 qq_7 rfl #[.slice Ao11 A.length co11] (by rfl) rfl rfl qq_1 ?_;with_reducible refine(Qah.calls k _ _ A q _ ?side1 ?side2 A5.out).mono ?_
 (case side1=>repeat(first|exact(Kd.R_reads' z.out).2.2 |(with_reducible refine Kd.C_alloc ?_ _) |(with_reducible refine Kd.C_drewN ?_ _) |(with_reducible refine Kd.C_drew ?_)))
 (case side2=>exact(Kd.R_reads' z.out).2.1)
 rintro e w' ⟨rfl,⟨nd,rfl⟩⟩;refine⟨_,rfl,?_⟩;refine hK.out _ _ ⟨(Qeo a.out 0).trans rfl,(Qeo a.out 1).trans rfl,(Qeo b.out 0).trans rfl,(Qeo b.out 1).trans rfl⟩ (fun j=>?_);clear hK K;refine nzp_ 16 ?_;refine Qhj (i:=12) (N:=some 4) (v:=?_) (a':=?_) (bm 13 8191) rfl rfl (Qir HT_.out qq_7) (fun _ _ _ h=>h) (Or.inl ⟨by rfl,?_⟩) ?_ ?_;rotate_left
 ·intro w';go_simp;with_reducible rfl
 rotate_left
 ·exact qq_2
 refine Qhl (Qiu HT_.out qq_7) ?_
 try go_wp2
 go_ret
 exact⟨by first|rfl |(simp[Qjz,Qka]<;>rfl) |(simp[*,Qjz,Qka]<;>rfl),qq_b⟩
def Qdi.l0:Nat→List (S117)→Int→Option (Bool)
 | 0,_,_=>none
 | k+1,x0,x3=>if x3<(x0.length:Int)then(if 0≤(wrap64 (x3-1))then(if(wrap64 (x3-1))<(x0.length:Int)then(if 0≤x3 then((Qdh.f k ((Qkn x0 (wrap64 (x3-1))).f0) ((Qkn x0 (wrap64 (x3-1))).f1) ((Qkn x0 x3).f0) ((Qkn x0 x3).f1)).bind fun t225=>(if t225≥0 then(some false)else(Qdi.l0 k x0 (wrap64 (x3+1)))))else(none))else(none))else(none))else(some true)
def Qdi.f(k:Nat)(l0:List (S117)):Option (Bool):=Qdi.l0 k l0 1
def Qdi.T4:Bool × List (List Nat × List Nat):=(true,[([],[]),([],[]),([1],[1]),([0,2],[0,2]),([3],[3]),([],[]),([],[]),([5,6],[5,6]),([7],[7]),([4,8],[4,8]),([9],[9])])
def Qdi.B4:List Nat:=[0,0,2,7,15,0,0,96,224,511,1023]
theorem Qdi.tab4:rtab .any (Qjb Tryz.f160 4)=Qdi.T4:=by kernel_rfl
theorem Qdi.bits4:Qiv Qdi.T4.2 Qdi.B4=true:=by kernel_rfl
theorem Qdi.calls (k:Nat) (A0:Option Addr) (c0:Nat) (l0:List (S117)) (r:Bool) (w:World) (hr0:Kd.C k117 w A0 l0.length l0) (hc0:l0.length≤c0) (h:Qdi.f k l0=some r) :
  Calls Tryz.prog 160 #[.slice A0 l0.length c0] w fun e w'=>e=.returned (.bool r)∧Below w.heap.size w w':=by
 have hu117:=Tryz.underlying117;have A:=QA hr0;have M:=QA hc0;clear hr0 hc0;have HB:=QA (Below.refl w.heap.size w);have H:(Qdi.l0 k l0 1)=some r:=h;clear h;have H':=QA H;clear H
 go_enter Tryz.func160,Tryz.ntmps160
 go_wp2
 go_loopg [3] k (fun kq v3 w'=>∃(a:Int),v3=.int .i64 a∧Aside0 (Qdi.l0 kq l0 a=some r)∧Aside0 (kq≤k)∧Aside0 (Below w.heap.size w w'))
 case atStart=>exact⟨(1),qq_8,H',⟨Nat.le_refl _⟩,⟨qq_b⟩⟩
 case round =>
  clear H';obtain⟨a,rfl,HA,HK1,HB⟩:=hrel
  cases gk with
  | zero=>exact absurd HA.out (by simp[Qdi.l0])
  | succ k1 =>
   have H:=HA.out;clear HA;simp only[Qdi.l0]at H
   by_cases c2:a<(l0.length:Int)
   ·rw [if_pos c2]at H;have D:decide (a<(l0.length:Int))=true:=decide_eq_true c2;clear c2;obtain⟨b,u⟩:∃j_:Int,(wrap64 (a-1))=j_:=⟨_,rfl⟩;replace H:(if 0≤(b)then(if(b)<(l0.length:Int)then(if 0≤a then((Qdh.f k1 ((Qkn l0 (b)).f0) ((Qkn l0 (b)).f1) ((Qkn l0 a).f0) ((Qkn l0 a).f1)).bind fun o=>(if o≥0 then(some false)else(Qdi.l0 k1 l0 (wrap64 (a+1)))))else(none))else(none))else(none))=some r:=by first |(rw[u]at H;exact H) |(simp only[u]at H ⊢;exact H)
    have G:(IntKind.i64.wrap (a-1))=b:=(Qhv _).trans u
    by_cases c4:0≤(b)
    ·rw [if_pos c4]at H;have I:decide (0≤(b))=true:=decide_eq_true c4;clear c4
     by_cases c5:(b)<(l0.length:Int)
     ·rw [if_pos c5]at H;have J:decide ((b)<(l0.length:Int))=true:=decide_eq_true c5;clear c5
      by_cases c6:0≤a
      ·rw[if_pos c6]at H;have L:decide (0≤a)=true:=decide_eq_true c6;clear c6;replace H:=Option.bind_eq_some_iff.mp H;obtain⟨o,B,H⟩:=H;replace H:(if o≥0 then(some false)else(Qdi.l0 k1 l0 (wrap64 (a+1))))=some r:=H;have A7:=QA B;clear B
       by_cases c8:o≥0
       ·rw[if_pos c8]at H;have E:decide (0≤o)=true:=decide_eq_true c8;clear c8;obtain rfl:=Option.some.inj H
        try go_wp2
        have n_:=qn1 (Qgp HB.out);clear HB;have HB:=n_;clear n_;have p:0≤((b):Int):=of_decide_eq_true qq_6;have q:(b)<(l0.length:Int):=of_decide_eq_true qq_6;obtain⟨c,y,d,g⟩:=Qko A.out (b) p q;have hw223_1:=g;have hw223_0:=d
        cases y
        replace d:=qq_h HB.out d;replace g:=qq_h HB.out g;replace p:=eq_true p;replace q:=eq_true q;have s:0≤(a:Int):=of_decide_eq_true qq_6;have t:a<(l0.length:Int):=of_decide_eq_true qq_6;obtain⟨x,z,j,l⟩:=Qko A.out a s t;have hw224_1:=l;have hw224_0:=j;obtain rfl:c=x:=(by injection z);replace j:=qq_h HB.out j;replace l:=qq_h HB.out l;replace s:=eq_true s;replace t:=eq_true t;refine Qhg (n:=11) (S:=fun w'=>w'.cell? (c.add (((b)).toNat*2))=some (.int .u64 ((Qkn l0 (b)).f0))∧w'.cell? ⟨(c.add (((b)).toNat*2)).block,(c.add (((b)).toNat*2)).off+1,none⟩=some (.int .u32 ((Qkn l0 (b)).f1))∧w'.cell? (c.add ((a).toNat*2))=some (.int .u64 ((Qkn l0 a).f0))∧w'.cell? ⟨(c.add ((a).toNat*2)).block,(c.add ((a).toNat*2)).off+1,none⟩=some (.int .u32 ((Qkn l0 a).f1))) (ds:=[]) (bm 11 0) qq_7 rfl rfl ⟨((HB.out.cell (World.block_lt_of_cell? w _ hw223_0)).trans hw223_0),((HB.out.cell (World.block_lt_of_cell? w _ hw223_1)).trans hw223_1),((HB.out.cell (World.block_lt_of_cell? w _ hw224_0)).trans hw224_0),((HB.out.cell (World.block_lt_of_cell? w _ hw224_1)).trans hw224_1)⟩ (fun m=>?_);refine Qiz Qdi.tab4 Qdi.bits4 (fun HT_ HW_=>?_);generalize wr.drew=w9 at HB d g j l m ⊢;refine Qhj (i:=0) (N:=some 10) (v:=?_) (a':=?_) (bm 11 1) rfl rfl (Qir HT_.out qq_7) (fun _ _ _ h=>h) (Or.inl ⟨by rfl,?_⟩) ?_ ?_;rotate_left
        ·intro w';go_simp;with_reducible rfl
        rotate_left
        ·exact qq_2
        refine Qhj (i:=1) (N:=some 11) (v:=?_) (a':=?_) (bm 11 3) rfl rfl (Qir HT_.out qq_7) (fun _ _ _ h=>h) (Or.inl ⟨by rfl,?_⟩) ?_ ?_;rotate_left
        ·intro w';go_simp;with_reducible rfl
        rotate_left
        ·exact qq_2
        refine Qhj (i:=2) (N:=some 12) (v:=?_) (a':=?_) (bm 11 7) rfl rfl (Qir HT_.out qq_7) (fun _ _ _ h=>h) (Or.inl ⟨by rfl,?_⟩) ?_ ?_;rotate_left
        ·intro w';go_simp;with_reducible rfl
        rotate_left
        ·exact qq_2
        refine Qhj (i:=3) (N:=some 13) (v:=?_) (a':=?_) (bm 11 15) rfl rfl (Qir HT_.out qq_7) (fun _ _ _ h=>h) (Or.inl ⟨by rfl,?_⟩) ?_ ?_;rotate_left
        ·intro w';go_simp;with_reducible rfl
        rotate_left
        ·exact qq_2
        refine Qhj (i:=5) (N:=some 15) (v:=?_) (a':=?_) (bm 11 47) rfl rfl (Qir HT_.out qq_7) (fun _ _ _ h=>h) (Or.inl ⟨by rfl,?_⟩) ?_ ?_;rotate_left
        ·intro w';go_simp;with_reducible rfl
        rotate_left
        ·exact qq_2
        refine Qhj (i:=6) (N:=some 16) (v:=?_) (a':=?_) (bm 11 111) rfl rfl (Qir HT_.out qq_7) (fun _ _ _ h=>h) (Or.inl ⟨by rfl,?_⟩) ?_ ?_;rotate_left
        ·intro w';go_simp;with_reducible rfl
        rotate_left
        ·exact qq_2
        refine Qhj (i:=7) (N:=some 17) (v:=?_) (a':=?_) (bm 11 239) rfl rfl (Qir HT_.out qq_7) (fun _ _ _ h=>h) (Or.inl ⟨by rfl,?_⟩) ?_ ?_;rotate_left
        ·intro w';go_simp;with_reducible rfl
        rotate_left
        ·exact qq_2
        refine Qhi (i:=4) (N:=some 14) (v:=?_) (a':=?_) (bm 11 255) rfl rfl (Qiy HT_.out HW_.out qq_7) (fun _ _ _ h=>h) (Or.inl ⟨by rfl,?_⟩) m ?_ ?_;rotate_left
        ·rintro w' ⟨s0,s1,s2,s3⟩;go_simp;with_reducible rfl
        rotate_left
        ·exact qq_2
        refine Qhi (i:=8) (N:=some 18) (v:=?_) (a':=?_) (bm 11 511) rfl rfl (Qiy HT_.out HW_.out qq_7) (fun _ _ _ h=>h) (Or.inl ⟨by rfl,?_⟩) m ?_ ?_;rotate_left
        ·rintro w' ⟨s0,s1,s2,s3⟩;go_simp;with_reducible rfl
        rotate_left
        ·exact qq_2
        refine one_ (i:=9) (N:=some 19) (bm 11 1023) rfl rfl (Qis HT_.out qq_7) (by decide) (fun K hK=>?_);refine Qhr Tryz.func118 qq_7 rfl #[.agg #[.int .u64 ((Qkn l0 (b)).f0),.int .u32 ((Qkn l0 (b)).f1)],.agg #[.int .u64 ((Qkn l0 a).f0),.int .u32 ((Qkn l0 a).f1)]] (by rfl) rfl rfl (by(try simp only[List.map_toArray,List.map_cons,List.map_nil]);first|done |(simp only[u];rfl)|rfl |(simp only[List.length_drop,List.length_take];rfl)) ?_;with_reducible refine(Qdh.calls k1 ((Qkn l0 (b)).f0) ((Qkn l0 (b)).f1) ((Qkn l0 a).f0) ((Qkn l0 a).f1) o _ A7.out).mono ?_
        rintro e O ⟨rfl,hb⟩;refine⟨_,rfl,?_⟩;have n_:=qn1 (Qgi qq_b hb);clear HB;have HB:=n_;clear n_
        (try clear hb)
        (try clear hb2)
        (try clear hk)
        (try clear hi)
        refine hK.out _ _ ⟨((HB.out.cell (World.block_lt_of_cell? w _ hw223_0)).trans hw223_0),((HB.out.cell (World.block_lt_of_cell? w _ hw223_1)).trans hw223_1),((HB.out.cell (World.block_lt_of_cell? w _ hw224_0)).trans hw224_0),((HB.out.cell (World.block_lt_of_cell? w _ hw224_1)).trans hw224_1)⟩ (fun m=>?_);clear hK K;refine nzp_ 19 ?_;refine Qhj (i:=10) (N:=some 20) (v:=?_) (a':=?_) (bm 11 2047) rfl rfl (Qir HT_.out qq_7) (fun _ _ _ h=>h) (Or.inl ⟨by rfl,?_⟩) ?_ ?_;rotate_left
        ·intro w';go_simp;with_reducible rfl
        rotate_left
        ·exact qq_2
        refine Qhl (Qiu HT_.out qq_7) ?_
        try go_wp2
        go_ret
        exact⟨by first|rfl |(simp[Qjz,Qka]<;>rfl) |(simp only[← u];first|rfl |(simp[Qjz,Qka]<;>rfl)) |(simp[*,Qjz,Qka]<;>rfl),qq_b⟩
       ·rw[if_neg c8]at H;have E:decide (0≤o)=false:=decide_eq_false c8;clear c8;have H':=QA H;clear H
        try go_wp2
        have n_:=qn1 (Qgp HB.out);clear HB;have HB:=n_;clear n_;have p:0≤((b):Int):=of_decide_eq_true qq_6;have q:(b)<(l0.length:Int):=of_decide_eq_true qq_6;obtain⟨c,y,d,g⟩:=Qko A.out (b) p q;have hw223_1:=g;have hw223_0:=d
        cases y
        replace d:=qq_h HB.out d;replace g:=qq_h HB.out g;replace p:=eq_true p;replace q:=eq_true q;have s:0≤(a:Int):=of_decide_eq_true qq_6;have t:a<(l0.length:Int):=of_decide_eq_true qq_6;obtain⟨x,z,j,l⟩:=Qko A.out a s t;have hw224_1:=l;have hw224_0:=j;obtain rfl:c=x:=(by injection z);replace j:=qq_h HB.out j;replace l:=qq_h HB.out l;replace s:=eq_true s;replace t:=eq_true t;refine Qhg (n:=11) (S:=fun w'=>w'.cell? (c.add (((b)).toNat*2))=some (.int .u64 ((Qkn l0 (b)).f0))∧w'.cell? ⟨(c.add (((b)).toNat*2)).block,(c.add (((b)).toNat*2)).off+1,none⟩=some (.int .u32 ((Qkn l0 (b)).f1))∧w'.cell? (c.add ((a).toNat*2))=some (.int .u64 ((Qkn l0 a).f0))∧w'.cell? ⟨(c.add ((a).toNat*2)).block,(c.add ((a).toNat*2)).off+1,none⟩=some (.int .u32 ((Qkn l0 a).f1))) (ds:=[]) (bm 11 0) qq_7 rfl rfl ⟨((HB.out.cell (World.block_lt_of_cell? w _ hw223_0)).trans hw223_0),((HB.out.cell (World.block_lt_of_cell? w _ hw223_1)).trans hw223_1),((HB.out.cell (World.block_lt_of_cell? w _ hw224_0)).trans hw224_0),((HB.out.cell (World.block_lt_of_cell? w _ hw224_1)).trans hw224_1)⟩ (fun m=>?_);refine Qiz Qdi.tab4 Qdi.bits4 (fun HT_ HW_=>?_);generalize wr.drew=w11 at HB d g j l m ⊢;refine Qhj (i:=0) (N:=some 10) (v:=?_) (a':=?_) (bm 11 1) rfl rfl (Qir HT_.out qq_7) (fun _ _ _ h=>h) (Or.inl ⟨by rfl,?_⟩) ?_ ?_;rotate_left
        ·intro w';go_simp;with_reducible rfl
        rotate_left
        ·exact qq_2
        refine Qhj (i:=1) (N:=some 11) (v:=?_) (a':=?_) (bm 11 3) rfl rfl (Qir HT_.out qq_7) (fun _ _ _ h=>h) (Or.inl ⟨by rfl,?_⟩) ?_ ?_;rotate_left
        ·intro w';go_simp;with_reducible rfl
        rotate_left
        ·exact qq_2
        refine Qhj (i:=2) (N:=some 12) (v:=?_) (a':=?_) (bm 11 7) rfl rfl (Qir HT_.out qq_7) (fun _ _ _ h=>h) (Or.inl ⟨by rfl,?_⟩) ?_ ?_;rotate_left
        ·intro w';go_simp;with_reducible rfl
        rotate_left
        ·exact qq_2
        refine Qhj (i:=3) (N:=some 13) (v:=?_) (a':=?_) (bm 11 15) rfl rfl (Qir HT_.out qq_7) (fun _ _ _ h=>h) (Or.inl ⟨by rfl,?_⟩) ?_ ?_;rotate_left
        ·intro w';go_simp;with_reducible rfl
        rotate_left
        ·exact qq_2
        refine Qhj (i:=5) (N:=some 15) (v:=?_) (a':=?_) (bm 11 47) rfl rfl (Qir HT_.out qq_7) (fun _ _ _ h=>h) (Or.inl ⟨by rfl,?_⟩) ?_ ?_;rotate_left
        ·intro w';go_simp;with_reducible rfl
        rotate_left
        ·exact qq_2
        refine Qhj (i:=6) (N:=some 16) (v:=?_) (a':=?_) (bm 11 111) rfl rfl (Qir HT_.out qq_7) (fun _ _ _ h=>h) (Or.inl ⟨by rfl,?_⟩) ?_ ?_;rotate_left
        ·intro w';go_simp;with_reducible rfl
        rotate_left
        ·exact qq_2
        refine Qhj (i:=7) (N:=some 17) (v:=?_) (a':=?_) (bm 11 239) rfl rfl (Qir HT_.out qq_7) (fun _ _ _ h=>h) (Or.inl ⟨by rfl,?_⟩) ?_ ?_;rotate_left
        ·intro w';go_simp;with_reducible rfl
        rotate_left
        ·exact qq_2
        refine Qhi (i:=4) (N:=some 14) (v:=?_) (a':=?_) (bm 11 255) rfl rfl (Qiy HT_.out HW_.out qq_7) (fun _ _ _ h=>h) (Or.inl ⟨by rfl,?_⟩) m ?_ ?_;rotate_left
        ·rintro w' ⟨s0,s1,s2,s3⟩;go_simp;with_reducible rfl
        rotate_left
        ·exact qq_2
        refine Qhi (i:=8) (N:=some 18) (v:=?_) (a':=?_) (bm 11 511) rfl rfl (Qiy HT_.out HW_.out qq_7) (fun _ _ _ h=>h) (Or.inl ⟨by rfl,?_⟩) m ?_ ?_;rotate_left
        ·rintro w' ⟨s0,s1,s2,s3⟩;go_simp;with_reducible rfl
        rotate_left
        ·exact qq_2
        refine one_ (i:=9) (N:=some 19) (bm 11 1023) rfl rfl (Qis HT_.out qq_7) (by decide) (fun K hK=>?_);refine Qhr Tryz.func118 qq_7 rfl #[.agg #[.int .u64 ((Qkn l0 (b)).f0),.int .u32 ((Qkn l0 (b)).f1)],.agg #[.int .u64 ((Qkn l0 a).f0),.int .u32 ((Qkn l0 a).f1)]] (by rfl) rfl rfl (by(try simp only[List.map_toArray,List.map_cons,List.map_nil]);first|done |(simp only[u];rfl)|rfl |(simp only[List.length_drop,List.length_take];rfl)) ?_;with_reducible refine(Qdh.calls k1 ((Qkn l0 (b)).f0) ((Qkn l0 (b)).f1) ((Qkn l0 a).f0) ((Qkn l0 a).f1) o _ A7.out).mono ?_
        rintro e P ⟨rfl,hb⟩;refine⟨_,rfl,?_⟩;have n_:=qn1 (Qgi qq_b hb);clear HB;have HB:=n_;clear n_
        (try clear hb)
        (try clear hb2)
        (try clear hk)
        (try clear hi)
        refine hK.out _ _ ⟨((HB.out.cell (World.block_lt_of_cell? w _ hw223_0)).trans hw223_0),((HB.out.cell (World.block_lt_of_cell? w _ hw223_1)).trans hw223_1),((HB.out.cell (World.block_lt_of_cell? w _ hw224_0)).trans hw224_0),((HB.out.cell (World.block_lt_of_cell? w _ hw224_1)).trans hw224_1)⟩ (fun m=>?_);clear hK K;refine nzp_ 19 ?_;refine Qhj (i:=10) (N:=some 20) (v:=?_) (a':=?_) (bm 11 2047) rfl rfl (Qir HT_.out qq_7) (fun _ _ _ h=>h) (Or.inl ⟨by rfl,?_⟩) ?_ ?_;rotate_left
        ·intro w';go_simp;with_reducible rfl
        rotate_left
        ·exact qq_2
        refine Qhl (Qiu HT_.out qq_7) ?_
        try go_wp2
        go_roundg k1
        case measure=>have:=HK1.out;omega
        case rel=>exact⟨(wrap64 (a+1)),qq_8,H',⟨by have:=HK1.out;omega⟩,⟨qq_b⟩⟩
      ·rw[if_neg c6]at H;exact absurd H (by simp)
     ·rw[if_neg c5]at H;exact absurd H (by simp)
    ·rw[if_neg c4]at H;exact absurd H (by simp)
   ·rw[if_neg c2]at H;have D:decide (a<(l0.length:Int))=false:=decide_eq_false c2;clear c2;obtain rfl:=Option.some.inj H;go_wp2;go_ret
    exact⟨by first|rfl |(simp[Qjz,Qka]<;>rfl) |(simp[*,Qjz,Qka]<;>rfl),qq_b⟩
theorem eqA117(d:Nat)(w:World)(x0 y0:Int)(x1 y1:Int) :
  (Op.equalIn (d+2) 117 (.agg #[.int .u64 x0,.int .u32 x1]) (.agg #[.int .u64 y0,.int .u32 y1])).run Tryz.prog w=.ok (x0 == y0 && (x1 == y1)) w:=by
 refine Qji Tryz.underlying117 qq_7 ?_;refine Qjh (by rfl) (by go_simp;rfl) (by go_simp;rfl) (by go_simp) ?_;exact Qjg (by rfl) (by go_simp;rfl) (by go_simp;rfl) (by go_simp)
def Qbl.f(a0_0:Int)(a0_1:Int):Option (Bool):=if a0_0≥12 then(if a0_0≤24 then(if a0_1≥1 then(some (decide (a0_1≤65536)))else(some false))else(some false))else(some false)
theorem Qbl.calls(a:Int)(d:Int)(r:Bool)(w:World)(h:Qbl.f a d=some r) :
  Calls Tryz.prog 54 #[.agg #[.int .u8 a,.int .u32 d]] w fun e w'=>e=.returned (.bool r)∧Below w.heap.size w w':=by
 have hu27:=Tryz.underlying27;have HB:=QA (Below.refl w.heap.size w);have H:(if a≥12 then(if a≤24 then(if d≥1 then(some (decide (d≤65536)))else(some false))else(some false))else(some false))=some r:=h;clear h
 by_cases c2:a≥12
 ·rw[if_pos c2]at H;have k:decide (12≤a)=true:=decide_eq_true c2;clear c2
  by_cases c3:a≤24
  ·rw[if_pos c3]at H;have l:decide (a≤24)=true:=decide_eq_true c3;clear c3
   by_cases c4:d≥1
   ·rw[if_pos c4]at H;have m:decide (1≤d)=true:=decide_eq_true c4;clear c4;obtain rfl:=Option.some.inj H
    go_enter Tryz.func54,Tryz.ntmps54
    go_wp2_with (first |((with_reducible refine Qgt (N:=1) rfl ?_);refine qq_e 1 #[.int .u8 a,.int .u32 d] 27 ?_;intro b hg w5 hbox hb;have n_:=qn4 (Qgi qq_b hb) (hbox) (qq_s hg:w.heap.size≤b) (qq_s hg:w.heap.size≤b);clear HB;obtain⟨HB,c,g,j⟩:=n_;clear hb hbox hg;obtain⟨s,t⟩:=qc2 c.out;have z:=Qep c.out))
    go_ret
    exact⟨by first|rfl |(simp[Qjz,Qka]<;>rfl) |(simp[*,Qjz,Qka]<;>rfl),qq_b⟩
   ·rw[if_neg c4]at H;have m:decide (1≤d)=false:=decide_eq_false c4;clear c4;obtain rfl:=Option.some.inj H
    go_enter Tryz.func54,Tryz.ntmps54
    go_wp2_with (first |((with_reducible refine Qgt (N:=1) rfl ?_);refine qq_e 1 #[.int .u8 a,.int .u32 d] 27 ?_;intro b hg w7 hbox hb;have n_:=qn4 (Qgi qq_b hb) (hbox) (qq_s hg:w.heap.size≤b) (qq_s hg:w.heap.size≤b);clear HB;obtain⟨HB,c,g,j⟩:=n_;clear hb hbox hg;obtain⟨u,v⟩:=qc2 c.out;have A:=Qep c.out))
    go_ret
    exact⟨by first|rfl |(simp[Qjz,Qka]<;>rfl) |(simp[*,Qjz,Qka]<;>rfl),qq_b⟩
  ·rw[if_neg c3]at H;have l:decide (a≤24)=false:=decide_eq_false c3;clear c3;obtain rfl:=Option.some.inj H
   go_enter Tryz.func54,Tryz.ntmps54
   go_wp2_with (first |((with_reducible refine Qgt (N:=1) rfl ?_);refine qq_e 1 #[.int .u8 a,.int .u32 d] 27 ?_;intro b hg w9 hbox hb;have n_:=qn4 (Qgi qq_b hb) (hbox) (qq_s hg:w.heap.size≤b) (qq_s hg:w.heap.size≤b);clear HB;obtain⟨HB,c,g,j⟩:=n_;clear hb hbox hg;obtain⟨n,o⟩:=qc2 c.out;have x:=Qep c.out))
   go_ret
   exact⟨by first|rfl |(simp[Qjz,Qka]<;>rfl) |(simp[*,Qjz,Qka]<;>rfl),qq_b⟩
 ·rw[if_neg c2]at H;have k:decide (12≤a)=false:=decide_eq_false c2;clear c2;obtain rfl:=Option.some.inj H
  go_enter Tryz.func54,Tryz.ntmps54
  go_wp2_with (first |((with_reducible refine Qgt (N:=1) rfl ?_);refine qq_e 1 #[.int .u8 a,.int .u32 d] 27 ?_;intro b hg B hbox hb;have n_:=qn4 (Qgi qq_b hb) (hbox) (qq_s hg:w.heap.size≤b) (qq_s hg:w.heap.size≤b);clear HB;obtain⟨HB,c,g,j⟩:=n_;clear hb hbox hg;obtain⟨p,q⟩:=qc2 c.out;have y:=Qep c.out))
  go_ret
  exact⟨by first|rfl |(simp[Qjz,Qka]<;>rfl) |(simp[*,Qjz,Qka]<;>rfl),qq_b⟩
def Qau.l0:Nat→Int→ByteArray→Int→Int→Option (ByteArray)
 | 0,_,_,_,_=>none
 | k+1,x0,x5,x6,x7=>if x7<x6 then((some (([(Int.tmod x0 256)%256]:List Int):List Int)).bind fun y286=>(if x5.size+(strOfNums y286).size≤9223372036854775807 then(Qau.l0 k (IntKind.u64.wrap (Int.tdiv x0 256)) (x5++(strOfNums y286)) x6 (wrap64 (x7+1)))else(none)))else(some x5)
def Qau.f(k:Nat)(a0:Int)(a1:Int):Option (ByteArray):=Qau.l0 k a0 (⟨#[]⟩:ByteArray) a1 0
theorem Qau.calls(k:Nat)(a0:Int)(a1:Int)(r:ByteArray)(w:World)(h:Qau.f k a0 a1=some r) :
  Calls Tryz.prog 103 #[.int .u64 a0,.int .i64 a1] w fun e w'=>e=.returned (.string r)∧Below w.heap.size w w':=by
 have HB:=QA (Below.refl w.heap.size w);have H:(Qau.l0 k a0 (⟨#[]⟩:ByteArray) a1 0)=some r:=h;clear h;have H':=QA H;clear H
 go_enter Tryz.func103,Tryz.ntmps103
 go_wp2
 go_loopg [0,5,7] k (fun kq v0 v5 v7 w'=>∃(a:Int) (x5_1:ByteArray) (b:Int),v0=.int .u64 a∧v5=.string x5_1∧v7=.int .i64 b∧Aside0 (Qau.l0 kq a x5_1 a1 b=some r)∧Aside0 (kq≤k)∧Aside0 (Below w.heap.size w w'))
 case atStart=>exact⟨(a0),((⟨#[]⟩:ByteArray)),(0),qq_8,qq_8,qq_8,H',⟨Nat.le_refl _⟩,⟨qq_b⟩⟩
 case round =>
  clear H';obtain⟨a,x5_1,b,rfl,rfl,rfl,HA,HK1,HB⟩:=hrel
  cases gk with
  | zero=>exact absurd HA.out (by simp[Qau.l0])
  | succ k1 =>
   have H:=HA.out;clear HA;simp only[Qau.l0]at H
   by_cases c3:b<a1
   ·rw[if_pos c3]at H;have n:decide (b<a1)=true:=decide_eq_true c3;clear c3;obtain⟨d,c⟩:∃y_:List Int,y_=(([(Int.tmod a 256)%256]:List Int)):=⟨_,rfl⟩;replace H:(if x5_1.size+(strOfNums d).size≤9223372036854775807 then(Qau.l0 k1 (IntKind.u64.wrap (Int.tdiv a 256)) (x5_1++(strOfNums d)) a1 (wrap64 (b+1)))else(none))=some r:=by first |(rw[c];with_reducible exact H) |(have l:=(Option.bind_some _ _).symm.trans H;rw[c];with_reducible exact l) |(have l:=(Option.bind_some _ _).symm.trans H;with_reducible exact l)|with_reducible exact H |(rw[c];exact H)|exact H
    have j:=QA c;clear c
    by_cases c4:x5_1.size+(strOfNums d).size≤9223372036854775807
    ·rw[if_pos c4]at H;have o:=eq_true c4;have p:decide (x5_1.size+(strOfNums d).size≤9223372036854775807)=true:=decide_eq_true c4
     try have q:(9223372036854775807<x5_1.size+(strOfNums d).size)=False:=eq_false (Nat.not_lt.2 c4)
     have H':=QA H;clear H
     go_wp2_with (first |((with_reducible refine Qgt (N:=13) rfl ?_);refine Kd.R_lit (Kd.int .u8) _ 5 ?hg (N:=13) ?hd (xs:=([(Int.tmod a 256)%256]:List Int)) (inner:=[.int .u8 ((Int.tmod a 256)%256)]) (ok:=fun _=>True) (okp:=fun _=>True) ?hr ?hp (fun _ hk=>hk) trivial (Below.refl _ _) (Nat.le_refl _) (by simp) ?_;(case hd=>rfl);(case hg=>rfl);(case hr=>exact qq_13);(case hp=>exact(Reps.one (show Kd.M (Kd.int .u8) _ _ _ ((Int.tmod a 256)%256) [.int .u8 ((Int.tmod a 256)%256)] from rfl) (Reps.none _ _)));intro s w5 g hb hg_ hnew_;clear hg_ hnew_;(first|rw[← j.out]at g |(simp only[Int.reduceToNat]at g;rw[← j.out]at g));have n_:=qn2 (Kd.R_lower g (Qgh qq_b)) (Qgi qq_b hb);clear HB;obtain⟨m,HB⟩:=n_;clear hb g;have t:=Qdz (P:=Tryz.prog) Tryz.underlying52 Tryz.underlying5 Tryz.underlying9 (Kd.own_of_R m.out)))
     go_roundg k1
     case measure=>have:=HK1.out;omega
     case rel=>exact⟨(IntKind.u64.wrap (Int.tdiv a 256)),(x5_1++(strOfNums d)),(wrap64 (b+1)),qq_8,qq_8,qq_8,H',⟨by have:=HK1.out;omega⟩,⟨qq_b⟩⟩
    ·rw[if_neg c4]at H;exact absurd H (by simp)
   ·rw[if_neg c3]at H;have n:decide (b<a1)=false:=decide_eq_false c3;clear c3;obtain rfl:=Option.some.inj H;go_wp2;go_ret
    exact⟨by first|rfl |(simp[Qjz,Qka]<;>rfl) |(simp[*,Qjz,Qka]<;>rfl),qq_b⟩
def Qbb.l0:Nat→Int→Int→Int→Option (Int)
 | 0,_,_,_=>none
 | k+1,x0,x5,x6=>if x6<x5 then(Qbb.l0 k (IntKind.u64.wrap ((Int.tmod (IntKind.u64.wrap (2*x0)) 4294967296)+(IntKind.u64.wrap (Int.tdiv x0 2147483648)))) x5 (wrap64 (x6+1)))else(some x0)
def Qbb.f(k:Nat)(a0:Int)(a1:Int):Option (Int):=Qbb.l0 k a0 a1 0
theorem Qbb.calls(k:Nat)(a0:Int)(a1:Int)(r:Int)(w:World)(h:Qbb.f k a0 a1=some r) :
  Calls Tryz.prog 237 #[.int .u64 a0,.int .i64 a1] w fun e w'=>e=.returned (.int .u64 r)∧Drawn0 w w':=by
 have H:(Qbb.l0 k a0 a1 0)=some r:=h;clear h;have H':=QA H;clear H
 go_enter Tryz.func237,Tryz.ntmps237
 go_wp2
 go_loopg [0,6] k (fun kq v0 v6 w'=>∃(b:Int) (a:Int),v0=.int .u64 b∧v6=.int .i64 a∧Aside0 (Qbb.l0 kq b a1 a=some r)∧Aside0 (kq≤k)∧Drawn0 w w')
 case atStart=>exact⟨(a0),(0),qq_8,qq_8,H',⟨Nat.le_refl _⟩,by repeat(first|exact Drawn0.refl _|apply Drawn0.step)⟩
 case round =>
  clear H';obtain⟨b,a,rfl,rfl,HA,HK1,⟨m1,rfl⟩⟩:=hrel
  cases gk with
  | zero=>exact absurd HA.out (by simp[Qbb.l0])
  | succ k1 =>
   have H:=HA.out;clear HA;simp only[Qbb.l0]at H
   by_cases c3:a<a1
   ·rw[if_pos c3]at H;have c:decide (a<a1)=true:=decide_eq_true c3;clear c3;have H':=QA H;clear H;go_wp2
    go_roundg k1
    case measure=>have:=HK1.out;omega
    case rel=>exact⟨(IntKind.u64.wrap ((Int.tmod (IntKind.u64.wrap (2*b)) 4294967296)+(IntKind.u64.wrap (Int.tdiv b 2147483648)))),(wrap64 (a+1)),qq_8,qq_8,H',⟨by have:=HK1.out;omega⟩,by repeat(first|exact Drawn0.refl _|apply Drawn0.step)⟩
   ·rw[if_neg c3]at H;have c:decide (a<a1)=false:=decide_eq_false c3;clear c3;obtain rfl:=Option.some.inj H;go_wp2;go_ret
    exact⟨by first|rfl |(simp;done) |(simp[*];done),by repeat(first|exact Drawn0.refl _|apply Drawn0.step)⟩
def Qaz.f(k:Nat)(a0:Int)(a1:Int):Option (Int):=(Qbb.f k (Int.tmod (IntKind.u64.wrap (a0+(IntKind.u64.wrap (a1*2246822519)))) 4294967296) 13).bind fun t771=>(some (Int.tmod (IntKind.u64.wrap (t771*2654435761)) 4294967296))
theorem Qaz.calls(k:Nat)(a0:Int)(a1:Int)(r:Int)(w:World)(h:Qaz.f k a0 a1=some r) :
  Calls Tryz.prog 236 #[.int .u64 a0,.int .u64 a1] w fun e w'=>e=.returned (.int .u64 r)∧Drawn0 w w':=by
 have H:((Qbb.f k (Int.tmod (IntKind.u64.wrap (a0+(IntKind.u64.wrap (a1*2246822519)))) 4294967296) 13).bind fun t771=>(some (Int.tmod (IntKind.u64.wrap (t771*2654435761)) 4294967296)))=some r:=h;clear h;replace H:=Option.bind_eq_some_iff.mp H;obtain⟨t771,A30,H⟩:=H;replace H:(some (Int.tmod (IntKind.u64.wrap (t771*2654435761)) 4294967296))=some r:=H;have A3:=QA A30;clear A30;obtain rfl:=Option.some.inj H
 go_enter Tryz.func236,Tryz.ntmps236
 go_wp2_with (first |((with_reducible refine Qjs (f:=237) rfl ?_);refine Qhs (some 10) rfl rfl Tryz.func237 qq_7 rfl #[.int .u64 (Int.tmod (IntKind.u64.wrap (a0+(IntKind.u64.wrap (a1*2246822519)))) 4294967296),.int .i64 13] rfl qq_1 ?_;(with_reducible refine(Qbb.calls k (Int.tmod (IntKind.u64.wrap (a0+(IntKind.u64.wrap (a1*2246822519)))) 4294967296) 13 t771 _ A3.out).mono ?_);rintro e w' ⟨rfl,⟨nd,rfl⟩⟩;refine⟨_,rfl,?_⟩))
 go_ret
 exact⟨by first|rfl |(simp;done) |(simp[*];done),by repeat(first|exact Drawn0.refl _|apply Drawn0.step)⟩
def Qba.l0:Nat→Int→Int→Int→Int→Option (Int)
 | 0,_,_,_,_=>none
 | k+1,x0,x5,x7,x8=>if x8<x7 then(Qba.l0 k x0 (IntKind.u64.wrap (Int.tdiv x5 2)) x7 (wrap64 (x8+1)))else(some (Go.bits .xor .u64 x0 x5))
def Qba.f(k:Nat)(a0:Int)(a1:Int):Option (Int):=Qba.l0 k a0 a0 a1 0
theorem Qba.calls(k:Nat)(a0:Int)(a1:Int)(r:Int)(w:World)(h:Qba.f k a0 a1=some r) :
  Calls Tryz.prog 238 #[.int .u64 a0,.int .i64 a1] w fun e w'=>e=.returned (.int .u64 r)∧Drawn0 w w':=by
 have H:(Qba.l0 k a0 a0 a1 0)=some r:=h;clear h;have H':=QA H;clear H
 go_enter Tryz.func238,Tryz.ntmps238
 go_wp2
 go_loopg [5,8] k (fun kq v5 v8 w'=>∃(x5_1:Int) (x8_1:Int),v5=.int .u64 x5_1∧v8=.int .i64 x8_1∧Aside0 (Qba.l0 kq a0 x5_1 a1 x8_1=some r)∧Aside0 (kq≤k)∧Drawn0 w w')
 case atStart=>exact⟨(a0),(0),qq_8,qq_8,H',⟨Nat.le_refl _⟩,by repeat(first|exact Drawn0.refl _|apply Drawn0.step)⟩
 case round =>
  clear H';obtain⟨x5_1,x8_1,rfl,rfl,HA,HK1,⟨m1,rfl⟩⟩:=hrel
  cases gk with
  | zero=>exact absurd HA.out (by simp[Qba.l0])
  | succ k1 =>
   have H:=HA.out;clear HA;simp only[Qba.l0]at H
   by_cases c3:x8_1<a1
   ·rw[if_pos c3]at H;have a:decide (x8_1<a1)=true:=decide_eq_true c3;clear c3;have H':=QA H;clear H;go_wp2
    go_roundg k1
    case measure=>have:=HK1.out;omega
    case rel=>exact⟨(IntKind.u64.wrap (Int.tdiv x5_1 2)),(wrap64 (x8_1+1)),qq_8,qq_8,H',⟨by have:=HK1.out;omega⟩,by repeat(first|exact Drawn0.refl _|apply Drawn0.step)⟩
   ·rw[if_neg c3]at H;have a:decide (x8_1<a1)=false:=decide_eq_false c3;clear c3;obtain rfl:=Option.some.inj H;go_wp2;go_ret
    exact⟨by first|rfl |(simp;done) |(simp[*];done),by repeat(first|exact Drawn0.refl _|apply Drawn0.step)⟩
def Qbm.l0:Nat→Int→Int→Int→Option (Int)
 | 0,_,_,_=>none
 | k+1,x3,x5,x6=>if x6<x5 then(Qbm.l0 k (IntKind.u64.wrap (2*x3)) x5 ((x6+1)%256))else(some x3)
def Qbm.f(k:Nat)(a0_0:Int)(a0_1:Int):Option (Int):=Qbm.l0 k 1 a0_0 0
theorem Qbm.calls(k:Nat)(a:Int)(d:Int)(r:Int)(w:World)(h:Qbm.f k a d=some r) :
  Calls Tryz.prog 63 #[.agg #[.int .u8 a,.int .u32 d]] w fun e w'=>e=.returned (.int .u64 r)∧Below w.heap.size w w':=by
 have hu27:=Tryz.underlying27;have HB:=QA (Below.refl w.heap.size w);have H:(Qbm.l0 k 1 a 0)=some r:=h;clear h;have H':=QA H;clear H
 go_enter Tryz.func63,Tryz.ntmps63
 go_wp2_with (first |((with_reducible refine Qgt (N:=1) rfl ?_);refine qq_e 1 #[.int .u8 a,.int .u32 d] 27 ?_;intro g hg w2 hbox hb;have n_:=qn4 (Qgi qq_b hb) (hbox) (qq_s hg:w.heap.size≤g) (qq_s hg:w.heap.size≤g);clear HB;obtain⟨HB,c,p,q⟩:=n_;clear hb hbox hg;obtain⟨l,m⟩:=qc2 c.out;have n:=Qep c.out))
 go_loopg [3,6] k (fun kq v3 v6 w'=>∃(j:Int) (b:Int),v3=.int .u64 j∧v6=.int .u8 b∧Aside0 (Qbm.l0 kq j a b=some r)∧Aside0 (kq≤k)∧Aside0 (w'.heap[g]? = some (.cells #[.int .u8 a,.int .u32 d] 27 (0,0)))∧Aside0 (Below w.heap.size w w'))
 case atStart=>exact⟨(1),(0),qq_8,qq_8,H',⟨Nat.le_refl _⟩,⟨by(with_reducible repeat(first|apply Qfc|apply Qfb|apply Qfa));exact c.out⟩,⟨qq_b⟩⟩
 case round =>
  clear H'
  try clear l
  try clear m
  try clear n
  obtain⟨j,b,rfl,rfl,HA,HK1,c,HB⟩:=hrel
  cases gk with
  | zero=>exact absurd HA.out (by simp[Qbm.l0])
  | succ k1 =>
   have H:=HA.out;clear HA;simp only[Qbm.l0]at H
   by_cases c4:b<a
   ·rw[if_pos c4]at H;have o:decide (b<a)=true:=decide_eq_true c4;clear c4;have H':=QA H;clear H;go_wp2
    go_roundg k1
    case measure=>have:=HK1.out;omega
    case rel=>exact⟨(IntKind.u64.wrap (2*j)),((b+1)%256),qq_8,qq_8,H',⟨by have:=HK1.out;omega⟩,⟨by(with_reducible repeat(first|apply Qfc|apply Qfb|apply Qfa));exact c.out⟩,⟨qq_b⟩⟩
   ·rw[if_neg c4]at H;have o:decide (b<a)=false:=decide_eq_false c4;clear c4;obtain rfl:=Option.some.inj H;go_wp2;go_ret
    exact⟨by first|rfl |(simp[Qjz,Qka]<;>rfl) |(simp[*,Qjz,Qka]<;>rfl),qq_b⟩
mutual
def Qbh.l0:Nat→ByteArray→ByteArray→ByteArray→Int→Option (ByteArray)
 | 0,_,_,_,_=>none
 | k+1,x3,x4,x5,x6=>if x6<(x3.size:Int)then(if 0≤x6 then(if(bt x3 x6)=0 then(if x6=(wrap64 ((x3.size:Int)-1))then(if x5.toList=([]:List UInt8)then(if x6 > 0 then(if 0≤(wrap64 (x6-1))then(if(wrap64 (x6-1))<(x3.size:Int)then(Qbh.j1 k x3 x4 x5 x6 ((bt x3 (wrap64 (x6-1))) != 0))else(none))else(none))else(Qbh.j1 k x3 x4 x5 x6 false))else(Qbh.j1 k x3 x4 x5 x6 false))else(Qbh.j1 k x3 x4 x5 x6 false))else(if x6≤(wrap64 (x6+1))then(if(wrap64 (x6+1))≤(x3.size:Int)then(if x5.size+(x3.extract (x6:Int).toNat ((wrap64 (x6+1)):Int).toNat).size≤9223372036854775807 then(if((x5++(x3.extract (x6:Int).toNat ((wrap64 (x6+1)):Int).toNat)).size:Int)=254 then(if x4.size+1≤9223372036854775807 then(if(x4++(⟨#[255]⟩:ByteArray)).size+(x5++(x3.extract (x6:Int).toNat ((wrap64 (x6+1)):Int).toNat)).size≤9223372036854775807 then(Qbh.l0 k x3 ((x4++(⟨#[255]⟩:ByteArray))++(x5++(x3.extract (x6:Int).toNat ((wrap64 (x6+1)):Int).toNat))) (⟨#[]⟩:ByteArray) (wrap64 (x6+1)))else(none))else(none))else(Qbh.l0 k x3 x4 (x5++(x3.extract (x6:Int).toNat ((wrap64 (x6+1)):Int).toNat)) (wrap64 (x6+1))))else(none))else(none))else(none)))else(none))else(some x4)
def Qbh.j1:Nat→ByteArray→ByteArray→ByteArray→Int→Bool→Option (ByteArray)
 | 0,_,_,_,_,_=>none
 | k+1,x3,x4,x5,x6,x38=>if x38=true then(some x4)else((some (([(wrap64 ((x5.size:Int)+1))%256]:List Int):List Int)).bind fun y283=>(if x4.size+(strOfNums y283).size≤9223372036854775807 then(if(x4++(strOfNums y283)).size+x5.size≤9223372036854775807 then(Qbh.l0 k x3 ((x4++(strOfNums y283))++x5) (⟨#[]⟩:ByteArray) (wrap64 (x6+1)))else(none))else(none)))
end
def Qbh.f(k:Nat)(a0:ByteArray):Option (ByteArray):=if a0.size+1≤9223372036854775807 then(Qbh.l0 k (a0++(⟨#[0]⟩:ByteArray)) (⟨#[]⟩:ByteArray) (⟨#[]⟩:ByteArray) 0)else(none)
theorem Qbh.calls (k:Nat) (a0:ByteArray) (r:ByteArray) (w:World) (h:Qbh.f k a0=some r) :
  Calls Tryz.prog 102 #[.string a0] w fun e w'=>e=.returned (.string r)∧Below w.heap.size w w':=by
 have HB:=QA (Below.refl w.heap.size w);have H:(if a0.size+1≤9223372036854775807 then(Qbh.l0 k (a0++(⟨#[0]⟩:ByteArray)) (⟨#[]⟩:ByteArray) (⟨#[]⟩:ByteArray) 0)else(none))=some r:=h;clear h
 by_cases c2:a0.size+1≤9223372036854775807
 ·rw [if_pos c2]at H;have K:=eq_true c2;have L:decide (a0.size+1≤9223372036854775807)=true:=decide_eq_true c2
  try have O:(9223372036854775807<a0.size+1)=False:=eq_false (Nat.not_lt.2 c2)
  have H':=QA H;clear H
  go_enter Tryz.func102,Tryz.ntmps102
  go_wp2;generalize hal:a0++(⟨#[0]⟩:ByteArray)=al at *;clear hal
  go_loopg [4,5,6] k (fun kq v4 v5 v6 w'=>∃(b:ByteArray) (x5_1:ByteArray) (a:Int),v4=.string b∧v5=.string x5_1∧v6=.int .i64 a∧Aside0 (Qbh.l0 kq al b x5_1 a=some r)∧Aside0 (kq≤k)∧Aside0 (Below w.heap.size w w'))
  case atStart=>exact⟨((⟨#[]⟩:ByteArray)),((⟨#[]⟩:ByteArray)),(0),qq_8,qq_8,qq_8,H',⟨Nat.le_refl _⟩,⟨qq_b⟩⟩
  case round =>
   clear H'
   try clear c2
   try clear K
   try clear L
   try clear O
   obtain⟨b,x5_1,a,rfl,rfl,rfl,HA,HK1,HB⟩:=hrel
   cases gk with
   | zero=>exact absurd HA.out (by simp[Qbh.l0])
   | succ k1 =>
    have H:=HA.out;clear HA;simp only[Qbh.l0]at H
    by_cases c3:a<(al.size:Int)
    ·rw [if_pos c3]at H;have T:decide (a<(al.size:Int))=true:=decide_eq_true c3;clear c3
     by_cases c4:0≤a
     ·rw [if_pos c4]at H;have an:decide (0≤a)=true:=decide_eq_true c4;clear c4
      by_cases c6:(bt al a)=0
      ·rw [if_pos c6]at H;have U:((bt al a) == 0)=true:=beq_iff_eq.mpr c6;have W:((bt al a) != 0)=false:=bne_eq_false_iff_eq.mpr c6;clear c6;have X:=QA H;clear H;have p5:0≤(a:Int):=of_decide_eq_true qq_6;have q5:a<(al.size:Int):=of_decide_eq_true qq_6;have Y:=Qdp al a;replace p5:=eq_true p5;replace q5:=eq_true q5
       go_upto_region 8 with(fail)
       go_cut [38] (fun ap wc=>∃(kq:Nat) (l:Bool),ap=.bool l∧Aside0 (Qbh.j1 kq al b x5_1 a l=some r)∧Aside0 (kq≤k1)∧Aside0 (Below w.heap.size w wc))
       case first =>
        have H:=X.out;clear X
        by_cases c8:a=(wrap64 ((al.size:Int)-1))
        ·rw [if_pos c8]at H;have j:(a == (wrap64 ((al.size:Int)-1)))=true:=beq_iff_eq.mpr c8;have Z:(a != (wrap64 ((al.size:Int)-1)))=false:=bne_eq_false_iff_eq.mpr c8;clear c8
         (first|rw[j] |(simp only[Qhv,Qhw];rw[j])|skip)
         by_cases c9:x5_1.toList=([]:List UInt8)
         ·rw [if_pos c9]at H;have aa:(x5_1.toList == ([]:List UInt8))=true:=beq_iff_eq.mpr c9;have ab:(x5_1.toList != ([]:List UInt8))=false:=bne_eq_false_iff_eq.mpr c9;clear c9
          by_cases c10:a > 0
          ·rw[if_pos c10]at H;have y:decide (0<a)=true:=decide_eq_true c10;clear c10;obtain⟨d,m⟩:∃j_:Int,(wrap64 (a-1))=j_:=⟨_,rfl⟩;replace H:(if 0≤(d)then(if(d)<(al.size:Int)then(Qbh.j1 k1 al b x5_1 a ((bt al (d)) != 0))else(none))else(none))=some r:=by first |(rw[m]at H;exact H) |(simp only[m]at H ⊢;exact H)
           have aq:(IntKind.i64.wrap (a-1))=d:=(Qhv _).trans m
           by_cases p:0≤(d)
           ·rw[if_pos p]at H;have ad:decide (0≤(d))=true:=decide_eq_true p;clear p
            by_cases q:(d)<(al.size:Int)
            ·rw[if_pos q]at H;have ae:decide ((d)<(al.size:Int))=true:=decide_eq_true q;clear q;have H':=QA H;clear H;have z:0≤((d):Int):=of_decide_eq_true qq_6;have A:(d)<(al.size:Int):=of_decide_eq_true qq_6;have ao:=Qdp al (d);replace z:=eq_true z;replace A:=eq_true A;go_wp2
             go_meet
             case rel=>exact⟨_,(((bt al (d)) != 0)),(by first|rfl |(simp;done) |(simp only[← m]<;>(first|rfl|simp)) |(simp[*];done)),H',⟨by have:=HK1.out;first|omega|exact Nat.le_refl _⟩,⟨qq_b⟩⟩
            ·rw[if_neg q]at H;exact absurd H (by simp)
           ·rw[if_neg p]at H;exact absurd H (by simp)
          ·rw[if_neg c10]at H;have y:decide (0<a)=false:=decide_eq_false c10;clear c10;have H':=QA H;clear H;go_wp2
           go_meet
           case rel=>exact⟨_,(false),qq_8,H',⟨by have:=HK1.out;first|omega|exact Nat.le_refl _⟩,⟨qq_b⟩⟩
         ·rw[if_neg c9]at H;have aa:(x5_1.toList == ([]:List UInt8))=false:=beq_eq_false_iff_ne.mpr c9;have ab:(x5_1.toList != ([]:List UInt8))=true:=bne_iff_ne.mpr c9;have H':=QA H;clear H;go_wp2
          go_meet
          case rel=>exact⟨_,(false),qq_8,H',⟨by have:=HK1.out;first|omega|exact Nat.le_refl _⟩,⟨qq_b⟩⟩
        ·rw[if_neg c8]at H;have j:(a == (wrap64 ((al.size:Int)-1)))=false:=beq_eq_false_iff_ne.mpr c8;have Z:(a != (wrap64 ((al.size:Int)-1)))=true:=bne_iff_ne.mpr c8
         (first|rw[j] |(simp only[Qhv,Qhw];rw[j])|skip)
         have H':=QA H;clear H;go_wp2
         go_meet
         case rel=>exact⟨_,(false),qq_8,H',⟨by have:=HK1.out;first|omega|exact Nat.le_refl _⟩,⟨qq_b⟩⟩
       case rest =>
        clear X
        try clear c2
        try clear K
        try clear L
        try clear O
        try clear c3
        try clear T
        try clear c4
        try clear an
        try clear p5
        try clear q5
        try clear Y
        try clear c6
        try clear U
        try clear W
        try clear c8
        try clear j
        try clear Z
        try clear c9
        try clear aa
        try clear ab
        try clear c10
        try clear y
        try clear p
        try clear ad
        try clear q
        try clear ae
        try clear z
        try clear A
        try clear ao
        try clear z
        try clear p5
        try clear A
        try clear q5
        obtain⟨kq,l,rfl,HA,HJ6,HB⟩:=hcut
        cases kq with
        | zero=>exact absurd HA.out (by simp[Qbh.j1])
        | succ kj6 =>
         have H:=HA.out;clear HA;simp only[Qbh.j1]at H
         by_cases B:l=true
         ·subst B;have H1:(some b)=some r:=by rw[if_pos rfl]at H;exact H
          clear H;have H:=H1;clear H1;obtain rfl:=Option.some.inj H;go_wp2;go_ret
          exact⟨by first|rfl |(simp[Qjz,Qka]<;>rfl) |(simp[*,Qjz,Qka]<;>rfl),qq_b⟩
         ·replace B:=Bool.eq_false_iff.mpr B;subst B;have H1:((some (([(wrap64 ((x5_1.size:Int)+1))%256]:List Int):List Int)).bind fun c=>(if b.size+(strOfNums c).size≤9223372036854775807 then(if(b++(strOfNums c)).size+x5_1.size≤9223372036854775807 then(Qbh.l0 kj6 al ((b++(strOfNums c))++x5_1) (⟨#[]⟩:ByteArray) (wrap64 (a+1)))else(none))else(none)))=some r:=by rw[if_neg (show ¬(false=true)by decide)]at H;exact H
          clear H;have H:=H1;clear H1;obtain⟨c,g⟩:∃y_:List Int,y_=(([(wrap64 ((x5_1.size:Int)+1))%256]:List Int)):=⟨_,rfl⟩;replace H:(if b.size+(strOfNums c).size≤9223372036854775807 then(if(b++(strOfNums c)).size+x5_1.size≤9223372036854775807 then(Qbh.l0 kj6 al ((b++(strOfNums c))++x5_1) (⟨#[]⟩:ByteArray) (wrap64 (a+1)))else(none))else(none))=some r:=by first |(rw[g];with_reducible exact H) |(have ac:=(Option.bind_some _ _).symm.trans H;rw[g];with_reducible exact ac) |(have ac:=(Option.bind_some _ _).symm.trans H;with_reducible exact ac)|with_reducible exact H |(rw[g];exact H)|exact H
          have D:=QA g;clear g
          by_cases s:b.size+(strOfNums c).size≤9223372036854775807
          ·rw[if_pos s]at H;have ar:=eq_true s;have au:decide (b.size+(strOfNums c).size≤9223372036854775807)=true:=decide_eq_true s
           try have av:(9223372036854775807<b.size+(strOfNums c).size)=False:=eq_false (Nat.not_lt.2 s)
           by_cases t:(b++(strOfNums c)).size+x5_1.size≤9223372036854775807
           ·rw[if_pos t]at H;have aw:=eq_true t;have ax:decide ((b++(strOfNums c)).size+x5_1.size≤9223372036854775807)=true:=decide_eq_true t
            try have E:(9223372036854775807<(b++(strOfNums c)).size+x5_1.size)=False:=eq_false (Nat.not_lt.2 t)
            try have af:=E
            try simp only[ByteArray.size_append,(show ∀x_:UInt8,(⟨#[x_]⟩:ByteArray).size=1 from fun _=>rfl),(show ∀x_ y_:UInt8,(⟨#[x_,y_]⟩:ByteArray).size=2 from fun _ _=>rfl)]at af
            try have ag:=E
            try simp only[ByteArray.size_append,ByteArray.size_extract,(show ∀x_:UInt8,(⟨#[x_]⟩:ByteArray).size=1 from fun _=>rfl),(show ∀x_ y_:UInt8,(⟨#[x_,y_]⟩:ByteArray).size=2 from fun _ _=>rfl)]at ag
            have H':=QA H;clear H
            go_wp2_with (first |((with_reducible refine Qgt (N:=44) rfl ?_);refine Kd.R_lit (Kd.int .u8) _ 5 ?hg (N:=44) ?hd (xs:=([(wrap64 ((x5_1.size:Int)+1))%256]:List Int)) (inner:=[.int .u8 ((wrap64 ((x5_1.size:Int)+1))%256)]) (ok:=fun _=>True) (okp:=fun _=>True) ?hr ?hp (fun _ hk=>hk) trivial (Below.refl _ _) (Nat.le_refl _) (by simp) ?_;(case hd=>rfl);(case hg=>rfl);(case hr=>exact qq_13);(case hp=>exact(Reps.one (show Kd.M (Kd.int .u8) _ _ _ ((wrap64 ((x5_1.size:Int)+1))%256) [.int .u8 ((wrap64 ((x5_1.size:Int)+1))%256)] from rfl) (Reps.none _ _)));intro aM aN n hb hg_ hnew_;clear hg_ hnew_;(first|rw[← D.out]at n |(simp only[Int.reduceToNat]at n;rw[← D.out]at n));have n_:=qn2 (Kd.R_lower n (Qgh qq_b)) (Qgi qq_b hb);clear HB;obtain⟨ah,HB⟩:=n_;clear hb n;have ay:=Qdz (P:=Tryz.prog) Tryz.underlying52 Tryz.underlying5 Tryz.underlying9 (Kd.own_of_R ah.out)))
            go_roundg kj6
            case measure=>have:=HK1.out;have:=HJ6.out;omega
            case rel=>exact⟨((b++(strOfNums c))++x5_1),((⟨#[]⟩:ByteArray)),(wrap64 (a+1)),qq_8,qq_8,qq_8,H',⟨by have:=HK1.out;have:=HJ6.out;omega⟩,⟨qq_b⟩⟩
           ·rw[if_neg t]at H;exact absurd H (by simp)
          ·rw[if_neg s]at H;exact absurd H (by simp)
      ·rw [if_neg c6]at H;have U:((bt al a) == 0)=false:=beq_eq_false_iff_ne.mpr c6;have W:((bt al a) != 0)=true:=bne_iff_ne.mpr c6;have az:=eq_true (of_decide_eq_true qq_6:0≤a)
       by_cases G:a≤(wrap64 (a+1))
       ·rw [if_pos G]at H;have aA:=eq_true G;have aB:decide (a≤(wrap64 (a+1)))=true:=decide_eq_true G
        by_cases I:(wrap64 (a+1))≤(al.size:Int)
        ·rw [if_pos I]at H;have aC:=eq_true I;have aD:decide ((wrap64 (a+1))≤(al.size:Int))=true:=decide_eq_true I
         by_cases u:x5_1.size+(al.extract (a:Int).toNat ((wrap64 (a+1)):Int).toNat).size≤9223372036854775807
         ·rw [if_pos u]at H;have aE:=eq_true u;have aF:decide (x5_1.size+(al.extract (a:Int).toNat ((wrap64 (a+1)):Int).toNat).size≤9223372036854775807)=true:=decide_eq_true u
          try have aG:(9223372036854775807<x5_1.size+(al.extract (a:Int).toNat ((wrap64 (a+1)):Int).toNat).size)=False:=eq_false (Nat.not_lt.2 u)
          generalize hnw:(x5_1++(al.extract (a:Int).toNat ((wrap64 (a+1)):Int).toNat))=nw at *
          by_cases o:(nw.size:Int)=254
          ·rw[if_pos o]at H;have ai:((nw.size:Int) == 254)=true:=beq_iff_eq.mpr o;have aj:((nw.size:Int) != 254)=false:=bne_eq_false_iff_eq.mpr o;clear o
           by_cases v:b.size+1≤9223372036854775807
           ·rw[if_pos v]at H;have aH:=eq_true v;have aI:decide (b.size+1≤9223372036854775807)=true:=decide_eq_true v
            try have aJ:(9223372036854775807<b.size+1)=False:=eq_false (Nat.not_lt.2 v)
            by_cases x:(b++(⟨#[255]⟩:ByteArray)).size+nw.size≤9223372036854775807
            ·rw[if_pos x]at H;have aK:=eq_true x;have aL:decide ((b++(⟨#[255]⟩:ByteArray)).size+nw.size≤9223372036854775807)=true:=decide_eq_true x
             try have J:(9223372036854775807<(b++(⟨#[255]⟩:ByteArray)).size+nw.size)=False:=eq_false (Nat.not_lt.2 x)
             try have ak:=J
             try simp only[ByteArray.size_append,(show ∀x_:UInt8,(⟨#[x_]⟩:ByteArray).size=1 from fun _=>rfl),(show ∀x_ y_:UInt8,(⟨#[x_,y_]⟩:ByteArray).size=2 from fun _ _=>rfl)]at ak
             try have am:=J
             try simp only[ByteArray.size_append,ByteArray.size_extract,(show ∀x_:UInt8,(⟨#[x_]⟩:ByteArray).size=1 from fun _=>rfl),(show ∀x_ y_:UInt8,(⟨#[x_,y_]⟩:ByteArray).size=2 from fun _ _=>rfl)]at am
             have H':=QA H;clear H;have p5:0≤(a:Int):=of_decide_eq_true qq_6;have q5:a<(al.size:Int):=of_decide_eq_true qq_6;have Y:=Qdp al a;replace p5:=eq_true p5;replace q5:=eq_true q5;go_wp2
             go_roundg k1
             case measure=>have:=HK1.out;omega
             case rel=>exact⟨((b++(⟨#[255]⟩:ByteArray))++nw),((⟨#[]⟩:ByteArray)),(wrap64 (a+1)),qq_8,qq_8,qq_8,H',⟨by have:=HK1.out;omega⟩,⟨qq_b⟩⟩
            ·rw[if_neg x]at H;exact absurd H (by simp)
           ·rw[if_neg v]at H;exact absurd H (by simp)
          ·rw[if_neg o]at H;have ai:((nw.size:Int) == 254)=false:=beq_eq_false_iff_ne.mpr o;have aj:((nw.size:Int) != 254)=true:=bne_iff_ne.mpr o;have H':=QA H;clear H;have p5:0≤(a:Int):=of_decide_eq_true qq_6;have q5:a<(al.size:Int):=of_decide_eq_true qq_6;have Y:=Qdp al a;replace p5:=eq_true p5;replace q5:=eq_true q5;go_wp2
           go_roundg k1
           case measure=>have:=HK1.out;omega
           case rel=>exact⟨(b),nw,(wrap64 (a+1)),qq_8,qq_8,qq_8,H',⟨by have:=HK1.out;omega⟩,⟨qq_b⟩⟩
         ·rw[if_neg u]at H;exact absurd H (by simp)
        ·rw[if_neg I]at H;exact absurd H (by simp)
       ·rw[if_neg G]at H;exact absurd H (by simp)
     ·rw[if_neg c4]at H;exact absurd H (by simp)
    ·rw[if_neg c3]at H;have T:decide (a<(al.size:Int))=false:=decide_eq_false c3;clear c3;obtain rfl:=Option.some.inj H;go_wp2;go_ret
     exact⟨by first|rfl |(simp[Qjz,Qka]<;>rfl) |(simp[*,Qjz,Qka]<;>rfl),qq_b⟩
 ·rw[if_neg c2]at H;exact absurd H (by simp)
def Qbv.l0:Nat→ByteArray→List (S122)→Int→Int→Option (ByteArray)
 | 0,_,_,_,_=>none
 | k+1,x3,x6,x7,x8=>if x8<x7 then(if 0≤x8 then(if x8<(x6.length:Int)then((Qau.f k ((Qkt x6 x8).f0) 8).bind fun t465=>(if x3.size+t465.size≤9223372036854775807 then((Qau.f k (IntKind.u64.wrap ((Qkt x6 x8).f1)) 4).bind fun t466=>(if(x3++t465).size+t466.size≤9223372036854775807 then(Qbv.l0 k ((x3++t465)++t466) x6 x7 (wrap64 (x8+1)))else(none)))else(none)))else(none))else(none))else(some x3)
def Qbv.f(k:Nat)(l0:List (S122)):Option (ByteArray):=Qbv.l0 k (⟨#[]⟩:ByteArray) l0 (l0.length:Int) 0
def Qbv.T5:Bool × List (List Nat × List Nat):=(true,[([],[]),([],[]),([1],[1]),([2],[2]),([0,3],[0,3]),([],[]),([5],[5]),([6],[6]),([7,3],[7]),([4,8],[4,8]),([9,8,0,1,2,3,4,5,6,7,8,9],[0,9])])
def Qbv.B5:List Nat:=[0,0,2,6,15,0,32,96,238,511,1023]
theorem Qbv.tab5:rtab .any (Qjb Tryz.f121 5)=Qbv.T5:=by kernel_rfl
theorem Qbv.bits5:Qiv Qbv.T5.2 Qbv.B5=true:=by kernel_rfl
theorem Qbv.calls (k:Nat) (A0:Option Addr) (c0:Nat) (l0:List (S122)) (r:ByteArray) (w:World) (hr0:Kd.C k122 w A0 l0.length l0) (hc0:l0.length≤c0) (h:Qbv.f k l0=some r) :
  Calls Tryz.prog 121 #[.slice A0 l0.length c0] w fun e w'=>e=.returned (.string r)∧Below w.heap.size w w':=by
 have hu122:=Tryz.underlying122;have J:=QA hr0;have ab:=QA hc0;clear hr0 hc0;have HB:=QA (Below.refl w.heap.size w);have H:(Qbv.l0 k (⟨#[]⟩:ByteArray) l0 (l0.length:Int) 0)=some r:=h;clear h;have H':=QA H;clear H
 go_enter Tryz.func121,Tryz.ntmps121
 go_wp2
 go_loopg [3,8] k (fun kq v3 v8 w'=>∃(c:ByteArray) (x8_1:Int),v3=.string c∧v8=.int .i64 x8_1∧Aside0 (Qbv.l0 kq c l0 (l0.length:Int) x8_1=some r)∧Aside0 (kq≤k)∧Aside0 (Below w.heap.size w w'))
 case atStart=>exact⟨((⟨#[]⟩:ByteArray)),(0),qq_8,qq_8,H',⟨Nat.le_refl _⟩,⟨qq_b⟩⟩
 case round =>
  clear H';obtain⟨c,x8_1,rfl,rfl,HA,HK1,HB⟩:=hrel
  cases gk with
  | zero=>exact absurd HA.out (by simp[Qbv.l0])
  | succ k1 =>
   have H:=HA.out;clear HA;simp only[Qbv.l0]at H
   by_cases c2:x8_1<(l0.length:Int)
   ·rw [if_pos c2]at H;have A:decide (x8_1<(l0.length:Int))=true:=decide_eq_true c2;clear c2
    by_cases c3:0≤x8_1
    ·rw [if_pos c3]at H;have T:decide (0≤x8_1)=true:=decide_eq_true c3;clear c3
     by_cases c4:x8_1<(l0.length:Int)
     ·rw [if_pos c4]at H;have U:decide (x8_1<(l0.length:Int))=true:=decide_eq_true c4;clear c4;replace H:=Option.bind_eq_some_iff.mp H;obtain⟨d,y,H⟩:=H;replace H:(if c.size+d.size≤9223372036854775807 then((Qau.f k1 (IntKind.u64.wrap ((Qkt l0 x8_1).f1)) 4).bind fun j=>(if(c++d).size+j.size≤9223372036854775807 then(Qbv.l0 k1 ((c++d)++j) l0 (l0.length:Int) (wrap64 (x8_1+1)))else(none)))else(none))=some r:=H;have A5:=QA y;clear y
      by_cases c6:c.size+d.size≤9223372036854775807
      ·rw[if_pos c6]at H;have W:=eq_true c6;have X:decide (c.size+d.size≤9223372036854775807)=true:=decide_eq_true c6
       try have Y:(9223372036854775807<c.size+d.size)=False:=eq_false (Nat.not_lt.2 c6)
       replace H:=Option.bind_eq_some_iff.mp H;obtain⟨j,z,H⟩:=H;replace H:(if(c++d).size+j.size≤9223372036854775807 then(Qbv.l0 k1 ((c++d)++j) l0 (l0.length:Int) (wrap64 (x8_1+1)))else(none))=some r:=H;have A7:=QA z;clear z
       by_cases c8:(c++d).size+j.size≤9223372036854775807
       ·rw[if_pos c8]at H;have Z:=eq_true c8;have aa:decide ((c++d).size+j.size≤9223372036854775807)=true:=decide_eq_true c8
        try have t:(9223372036854775807<(c++d).size+j.size)=False:=eq_false (Nat.not_lt.2 c8)
        try have B:=t
        try simp only[ByteArray.size_append,(show ∀x_:UInt8,(⟨#[x_]⟩:ByteArray).size=1 from fun _=>rfl),(show ∀x_ y_:UInt8,(⟨#[x_,y_]⟩:ByteArray).size=2 from fun _ _=>rfl)]at B
        try have D:=t
        try simp only[ByteArray.size_append,ByteArray.size_extract,(show ∀x_:UInt8,(⟨#[x_]⟩:ByteArray).size=1 from fun _=>rfl),(show ∀x_ y_:UInt8,(⟨#[x_,y_]⟩:ByteArray).size=2 from fun _ _=>rfl)]at D
        have H':=QA H;clear H;have q:0≤(x8_1:Int):=of_decide_eq_true qq_6;have s:x8_1<(l0.length:Int):=of_decide_eq_true qq_6;obtain⟨L,E,m,p⟩:=Qku J.out x8_1 q s
        cases E
        replace m:=qq_h HB.out m;replace p:=qq_h HB.out p;replace q:=eq_true q;replace s:=eq_true s
        try go_wp2_with (first |((with_reducible refine Qgt (N:=5) rfl ?_);refine qq_e 5 #[.int .u64 0,.int .u32 0] 122 ?_;intro b hg w9 hbox hb;have n_:=qn4 (Qgi qq_b hb) (hbox) (qq_s hg:w.heap.size≤b) (qq_s hg:w.heap.size≤b);clear HB;obtain⟨HB,a,M,O⟩:=n_;clear hb hbox hg;obtain⟨G,I⟩:=qc2 a.out;have P:=Qep a.out))
        have u:Aside0 (((w9.setCell ⟨b,0,none⟩ (.int .u64 ((Qkt l0 x8_1).f0))).setCell ⟨b,1,none⟩ (.int .u32 ((Qkt l0 x8_1).f1))).heap[b]? = some (.cells #[.int .u64 ((Qkt l0 x8_1).f0),.int .u32 ((Qkt l0 x8_1).f1)] 122 (0,0))):=⟨by(with_reducible repeat(first|apply Qfc|apply Qfb|apply Qfa));refine Qgo (cs:=#[.int .u64 ((Qkt l0 x8_1).f0),.int .u32 0]) ?_ 1 _ rfl;(with_reducible repeat(first|apply Qfc|apply Qfb|apply Qfa));refine Qgo (cs:=#[.int .u64 0,.int .u32 0]) ?_ 0 _ rfl;(with_reducible repeat(first|apply Qfc|apply Qfb|apply Qfa));exact a.out⟩;have x:Aside0 (Below w.heap.size w ((w9.setCell ⟨b,0,none⟩ (.int .u64 ((Qkt l0 x8_1).f0))).setCell ⟨b,1,none⟩ (.int .u32 ((Qkt l0 x8_1).f1)))):=⟨qq_b⟩
        (try clear a)
        (try clear HB)
        generalize ((w9.setCell ⟨b,0,none⟩ (.int .u64 ((Qkt l0 x8_1).f0))).setCell ⟨b,1,none⟩ (.int .u32 ((Qkt l0 x8_1).f1)))=w11 at u x ⊢;have a:=u;have HB:=x;clear u x;have n_:=qn2 (Qfb a.out) (Qgp HB.out);clear a HB;obtain⟨a,HB⟩:=n_;refine Qhg (n:=11) (S:=fun w'=>w'.cell? ⟨b,0,none⟩=some (.int .u64 ((Qkt l0 x8_1).f0))∧w'.cell? ⟨b,1,none⟩=some (.int .u32 ((Qkt l0 x8_1).f1))) (ds:=[]) (bm 11 0) qq_7 rfl rfl ⟨(Qeo a.out 0).trans rfl,(Qeo a.out 1).trans rfl⟩ (fun l=>?_);refine Qiz Qbv.tab5 Qbv.bits5 (fun HT_ HW_=>?_);generalize w11.drew=w12 at a HB l ⊢;refine Qhj (i:=0) (N:=some 12) (v:=?_) (a':=?_) (bm 11 1) rfl rfl (Qir HT_.out qq_7) (fun _ _ _ h=>h) (Or.inl ⟨by rfl,?_⟩) ?_ ?_;rotate_left
        ·intro w';go_simp;with_reducible rfl
        rotate_left
        ·exact qq_2
        refine Qhj (i:=1) (N:=some 13) (v:=?_) (a':=?_) (bm 11 3) rfl rfl (Qir HT_.out qq_7) (fun _ _ _ h=>h) (Or.inl ⟨by rfl,?_⟩) ?_ ?_;rotate_left
        ·intro w';go_simp;with_reducible rfl
        rotate_left
        ·exact qq_2
        refine Qhj (i:=5) (N:=some 17) (v:=?_) (a':=?_) (bm 11 35) rfl rfl (Qir HT_.out qq_7) (fun _ _ _ h=>h) (Or.inl ⟨by rfl,?_⟩) ?_ ?_;rotate_left
        ·intro w';go_simp;with_reducible rfl
        rotate_left
        ·exact qq_2
        refine Qhi (i:=2) (N:=some 14) (v:=?_) (a':=?_) (bm 11 39) rfl rfl (Qiy HT_.out HW_.out qq_7) (fun _ _ _ h=>h) (Or.inl ⟨by rfl,?_⟩) l ?_ ?_;rotate_left
        ·rintro w' ⟨s0,s1⟩;go_simp;with_reducible rfl
        rotate_left
        ·exact qq_2
        refine Qhi (i:=6) (N:=some 18) (v:=?_) (a':=?_) (bm 11 103) rfl rfl (Qiy HT_.out HW_.out qq_7) (fun _ _ _ h=>h) (Or.inl ⟨by rfl,?_⟩) l ?_ ?_;rotate_left
        ·rintro w' ⟨s0,s1⟩;go_simp;with_reducible rfl
        rotate_left
        ·exact qq_2
        refine Qhj (i:=7) (N:=some 19) (v:=?_) (a':=?_) (bm 11 231) rfl rfl (Qir HT_.out qq_7) (fun _ _ _ h=>h) (Or.inl ⟨by rfl,?_⟩) ?_ ?_;rotate_left
        ·intro w';go_simp;with_reducible rfl
        rotate_left
        ·exact qq_2
        refine one_ (i:=3) (N:=some 15) (bm 11 239) rfl rfl (Qis HT_.out qq_7) (by decide) (fun K hK=>?_);refine Qhr Tryz.func103 qq_7 rfl #[.int .u64 ((Qkt l0 x8_1).f0),.int .i64 8] (by rfl) rfl rfl qq_1 ?_;with_reducible refine(Qau.calls k1 ((Qkt l0 x8_1).f0) 8 d _ A5.out).mono ?_
        rintro e ac ⟨rfl,hb⟩;refine⟨_,rfl,?_⟩;have n_:=qn2 (Qfd (g:=b) (o:=.cells #[.int .u64 ((Qkt l0 x8_1).f0),.int .u32 ((Qkt l0 x8_1).f1)] 122 (0,0)) qq_0 hb) (Qgi qq_b hb);clear a HB;obtain⟨a,HB⟩:=n_
        (try clear hb)
        (try clear hb2)
        (try clear hk)
        (try clear hi)
        refine hK.out _ _ ⟨(Qeo a.out 0).trans rfl,(Qeo a.out 1).trans rfl⟩ (fun l=>?_);clear hK K;refine nzp_ 15 ?_;refine Qhj (i:=4) (N:=some 16) (v:=?_) (a':=?_) (bm 11 255) rfl rfl (Qir HT_.out qq_7) (fun _ _ _ h=>h) (Or.inl ⟨by rfl,?_⟩) ?_ ?_;rotate_left
        ·intro w';go_simp;with_reducible rfl
        rotate_left
        ·exact qq_2
        refine one_ (i:=8) (N:=some 20) (bm 11 511) rfl rfl (Qis HT_.out qq_7) (by decide) (fun K hK=>?_);refine Qhr Tryz.func103 qq_7 rfl #[.int .u64 (IntKind.u64.wrap ((Qkt l0 x8_1).f1)),.int .i64 4] (by rfl) rfl rfl qq_1 ?_;with_reducible refine(Qau.calls k1 (IntKind.u64.wrap ((Qkt l0 x8_1).f1)) 4 j _ A7.out).mono ?_
        rintro e ad ⟨rfl,hb⟩;refine⟨_,rfl,?_⟩;have n_:=qn2 (Qfd (g:=b) (o:=.cells #[.int .u64 ((Qkt l0 x8_1).f0),.int .u32 ((Qkt l0 x8_1).f1)] 122 (0,0)) qq_0 hb) (Qgi qq_b hb);clear a HB;obtain⟨a,HB⟩:=n_
        (try clear hb)
        (try clear hb2)
        (try clear hk)
        (try clear hi)
        refine hK.out _ _ ⟨(Qeo a.out 0).trans rfl,(Qeo a.out 1).trans rfl⟩ (fun l=>?_);clear hK K;refine nzp_ 20 ?_;refine Qhj (i:=9) (N:=some 21) (v:=?_) (a':=?_) (bm 11 1023) rfl rfl (Qir HT_.out qq_7) (fun _ _ _ h=>h) (Or.inl ⟨by rfl,?_⟩) ?_ ?_;rotate_left
        ·intro w';go_simp;with_reducible rfl
        rotate_left
        ·exact qq_2
        refine Qhj (i:=10) (N:=some 3) (v:=?_) (a':=?_) (bm 11 2047) rfl rfl (Qir HT_.out qq_7) (fun _ _ _ h=>h) (Or.inl ⟨by rfl,?_⟩) ?_ ?_;rotate_left
        ·intro w';go_simp;with_reducible rfl
        rotate_left
        ·exact qq_2
        refine Qhl (Qiu HT_.out qq_7) ?_
        try go_wp2
        go_roundg k1
        case measure=>have:=HK1.out;omega
        case rel=>exact⟨((c++d)++j),(wrap64 (x8_1+1)),qq_8,qq_8,H',⟨by have:=HK1.out;omega⟩,⟨qq_b⟩⟩
       ·rw[if_neg c8]at H;exact absurd H (by simp)
      ·rw[if_neg c6]at H;exact absurd H (by simp)
     ·rw[if_neg c4]at H;exact absurd H (by simp)
    ·rw[if_neg c3]at H;exact absurd H (by simp)
   ·rw[if_neg c2]at H;have A:decide (x8_1<(l0.length:Int))=false:=decide_eq_false c2;clear c2;obtain rfl:=Option.some.inj H;go_wp2;go_ret
    exact⟨by first|rfl |(simp[Qjz,Qka]<;>rfl) |(simp[*,Qjz,Qka]<;>rfl),qq_b⟩
def Qbx.l0:Nat→List Int→List (S122)→Int→Int→Option (List Int)
 | 0,_,_,_,_=>none
 | k+1,x3,x6,x7,x8=>if x8<x7 then(if 0≤x8 then(if x8<(x6.length:Int)then(if(Int.tmod x8 16)=0 then(if x3.length<17592186044416 then(Qbx.l0 k (x3++[(Qkt x6 x8).f0]) x6 x7 (wrap64 (x8+1)))else(none))else(Qbx.l0 k x3 x6 x7 (wrap64 (x8+1))))else(none))else(none))else(some x3)
def Qbx.f(k:Nat)(l0:List (S122)):Option (List Int):=Qbx.l0 k ([]:List Int) l0 (l0.length:Int) 0
theorem Qbx.calls (k:Nat) (A0:Option Addr) (c0:Nat) (l0:List (S122)) (r:List Int) (w:World) (hr0:Kd.C k122 w A0 l0.length l0) (hc0:l0.length≤c0) (h:Qbx.f k l0=some r) :
  Calls Tryz.prog 123 #[.slice A0 l0.length c0] w fun e w'=>∃B:Value,e=.returned (B)∧Kd.R (Kd.int .u64) 34 w' w.heap.size (fun _=>True) B r∧Below w.heap.size w w':=by
 have hu122:=Tryz.underlying122;have D:=QA hr0;have Y:=QA hc0;clear hr0 hc0;have HB:=QA (Below.refl w.heap.size w);have H:(Qbx.l0 k ([]:List Int) l0 (l0.length:Int) 0)=some r:=h;clear h;have H':=QA H;clear H
 go_enter Tryz.func123,Tryz.ntmps123
 go_wp2
 go_loopg [3,8] k (fun kq v3 v8 w'=>∃(l:List Int) (x8_1:Int),v8=.int .i64 x8_1∧Aside0 (Qbx.l0 kq l l0 (l0.length:Int) x8_1=some r)∧Aside0 (kq≤k)∧Aside0 (Kd.R (Kd.int .u64) 34 w' w.heap.size (fun _=>True) v3 l)∧Aside0 (Below w.heap.size w w'))
 case atStart=>exact⟨(([]:List Int)),(0),qq_8,H',⟨Nat.le_refl _⟩,⟨by first|exact Kd.R_nil _ _ _ _ _|exact Kd.N_nil _ _ _ _ _|exact Kd.V_nil _ _ _ _ _|exact Kd.Q_nil _ _ _ _ _|exact Kd.S_nil _ _ _ _ _⟩,⟨qq_b⟩⟩
 case round =>
  clear H';obtain⟨l,x8_1,rfl,HA,HK1,HO_3,HB⟩:=hrel
  cases gk with
  | zero=>exact absurd HA.out (by simp[Qbx.l0])
  | succ k1 =>
   have H:=HA.out;clear HA;simp only[Qbx.l0]at H
   by_cases c2:x8_1<(l0.length:Int)
   ·rw [if_pos c2]at H;have E:decide (x8_1<(l0.length:Int))=true:=decide_eq_true c2;clear c2
    by_cases c3:0≤x8_1
    ·rw [if_pos c3]at H;have T:decide (0≤x8_1)=true:=decide_eq_true c3;clear c3
     by_cases c4:x8_1<(l0.length:Int)
     ·rw[if_pos c4]at H;have U:decide (x8_1<(l0.length:Int))=true:=decide_eq_true c4;clear c4
      by_cases c5:(Int.tmod x8_1 16)=0
      ·rw[if_pos c5]at H;have G:((Int.tmod x8_1 16) == 0)=true:=beq_iff_eq.mpr c5;have I:((Int.tmod x8_1 16) != 0)=false:=bne_eq_false_iff_eq.mpr c5;clear c5
       by_cases c6:l.length<17592186044416
       ·rw[if_pos c6]at H;have J:=QA c6;clear c6;obtain⟨t,q⟩:∃y_:List Int,y_=(l++[(Qkt l0 x8_1).f0]):=⟨_,rfl⟩;replace H:(Qbx.l0 k1 t l0 (l0.length:Int) (wrap64 (x8_1+1)))=some r:=by first |(rw[q];with_reducible exact H) |(have u:=(Option.bind_some _ _).symm.trans H;rw[q];with_reducible exact u) |(have u:=(Option.bind_some _ _).symm.trans H;with_reducible exact u)|with_reducible exact H |(rw[q];exact H)|exact H
        have v:=QA q;clear q;have H':=QA H;clear H;have m:0≤(x8_1:Int):=of_decide_eq_true qq_6;have n:x8_1<(l0.length:Int):=of_decide_eq_true qq_6;obtain⟨x,s,d,j⟩:=Qku D.out x8_1 m n
        cases s
        replace d:=qq_h HB.out d;replace j:=qq_h HB.out j;replace m:=eq_true m;replace n:=eq_true n
        go_wp2_with (first |((with_reducible refine Qgt (N:=5) rfl ?_);refine qq_e 5 #[.int .u64 0,.int .u32 0] 122 ?_;intro a hg w7 hbox hb;have n_:=qn5 (Kd.R_below qq_5 hb) (Qgi qq_b hb) (hbox) (qq_s hg:w.heap.size≤a) (qq_s hg:w.heap.size≤a);clear HO_3 HB;obtain⟨HO_3,HB,c,y,z⟩:=n_;clear hb hbox hg;obtain⟨M,O⟩:=qc2 c.out;have W:=Qep c.out) |((with_reducible refine Qjt (b:=.append) (xs:=#[.tmp 16,.tmp 19]) rfl ?_);at_builtin;refine Kd.R_append (Kd.int .u64) (w0:=w) w.heap.size rfl (.tmp 16) (.tmp 19) 70 34 (.int .u64 0) 8 rfl Tryz.underlying70 Qkd rfl (by decide) (by omega) u3 l ((Qkt l0 x8_1).f0) [.int .u64 ((Qkt l0 x8_1).f0)] (fun _=>True) (fun _=>False) rfl qq_13 ?aP (fun _ hk=>hk.elim) ?aF ?aO ?aB ?aS ?aL ?_;(case aP=>exact rfl);(case aB=>exact qq_b);(case aF=>exact(fun _ _=>trivial));(case aO=>exact(by(with_reducible repeat(first|apply Kd.R_alloc|apply Kd.R_drewN|apply Kd.R_drew));exact Kd.R_mono (Kd.R_far (p:=⟨a,1,none⟩) (Kd.R_far (p:=⟨a,0,none⟩) (Kd.R_types HO_3.out c.out (by decide)) (fun _ hk=>hk.2) (.int .u64 ((Qkt l0 x8_1).f0))) (fun _ hk=>hk.2) (.int .u32 ((Qkt l0 x8_1).f1))) (fun _ hk=>trivial)));(case aS=>exact(Qgh qq_b));(case aL=>have:=J.out;omega);intro X w9 ho hb hg hat;rw[← v.out]at ho;have n_:=qn3 (Qeq (g:=a) (o:=.cells #[.int .u64 ((Qkt l0 x8_1).f0),.int .u32 ((Qkt l0 x8_1).f1)] 122 (0,0)) qq_x hg (Kd.R_ne HO_3.out c.out (by decide))) (hb) (ho);clear c HB HO_3;obtain⟨c,HB,A⟩:=n_;clear ho hb hg hat))
        go_roundg k1
        case measure=>have:=HK1.out;omega
        case rel=>exact⟨(t),(wrap64 (x8_1+1)),qq_8,H',⟨by have:=HK1.out;omega⟩,⟨by(with_reducible repeat(first|apply Kd.R_alloc|apply Kd.R_drewN|apply Kd.R_drew));exact A.out⟩,⟨qq_b⟩⟩
       ·rw[if_neg c6]at H;exact absurd H (by simp)
      ·rw[if_neg c5]at H;have G:((Int.tmod x8_1 16) == 0)=false:=beq_eq_false_iff_ne.mpr c5;have I:((Int.tmod x8_1 16) != 0)=true:=bne_iff_ne.mpr c5;have H':=QA H;clear H;have m:0≤(x8_1:Int):=of_decide_eq_true qq_6;have n:x8_1<(l0.length:Int):=of_decide_eq_true qq_6;obtain⟨x,s,d,j⟩:=Qku D.out x8_1 m n
       cases s
       replace d:=qq_h HB.out d;replace j:=qq_h HB.out j;replace m:=eq_true m;replace n:=eq_true n
       go_wp2_with (first |((with_reducible refine Qgt (N:=5) rfl ?_);refine qq_e 5 #[.int .u64 0,.int .u32 0] 122 ?_;intro a hg Z hbox hb;have n_:=qn5 (Kd.R_below qq_5 hb) (Qgi qq_b hb) (hbox) (qq_s hg:w.heap.size≤a) (qq_s hg:w.heap.size≤a);clear HO_3 HB;obtain⟨HO_3,HB,c,y,z⟩:=n_;clear hb hbox hg;obtain⟨K,L⟩:=qc2 c.out;have P:=Qep c.out))
       go_roundg k1
       case measure=>have:=HK1.out;omega
       case rel=>exact⟨(l),(wrap64 (x8_1+1)),qq_8,H',⟨by have:=HK1.out;omega⟩,⟨by(with_reducible repeat(first|apply Kd.R_alloc|apply Kd.R_drewN|apply Kd.R_drew));exact Kd.R_mono (Kd.R_far (p:=⟨a,1,none⟩) (Kd.R_far (p:=⟨a,0,none⟩) (Kd.R_types HO_3.out c.out (by decide)) (fun _ hk=>hk.2) (.int .u64 ((Qkt l0 x8_1).f0))) (fun _ hk=>hk.2) (.int .u32 ((Qkt l0 x8_1).f1))) (fun _ hk=>trivial)⟩,⟨qq_b⟩⟩
     ·rw[if_neg c4]at H;exact absurd H (by simp)
    ·rw[if_neg c3]at H;exact absurd H (by simp)
   ·rw[if_neg c2]at H;have E:decide (x8_1<(l0.length:Int))=false:=decide_eq_false c2;clear c2;obtain rfl:=Option.some.inj H;go_wp2;go_ret
    exact⟨_,by first|rfl |(simp[Qjz,Qka]<;>rfl) |(simp[*,Qjz,Qka]<;>rfl),by(with_reducible repeat(first|apply Kd.R_alloc|apply Kd.R_drewN|apply Kd.R_drew));exact HO_3.out,qq_b⟩
def Qby.l0:Nat→ByteArray→List Int→Int→Int→Option (ByteArray)
 | 0,_,_,_,_=>none
 | k+1,x3,x6,x7,x8=>if x8<x7 then(if 0≤x8 then(if x8<(x6.length:Int)then((Qau.f k (rd x6 x8) 8).bind fun t468=>(if x3.size+t468.size≤9223372036854775807 then(Qby.l0 k (x3++t468) x6 x7 (wrap64 (x8+1)))else(none)))else(none))else(none))else(some x3)
def Qby.f(k:Nat)(l0:List Int):Option (ByteArray):=Qby.l0 k (⟨#[]⟩:ByteArray) l0 (l0.length:Int) 0
theorem Qby.calls(k:Nat)(A0:Option Addr)(c0:Nat)(l0:List Int)(r:ByteArray)(w:World)(hr0:Kd.C (Kd.int .u64) w A0 l0.length l0)(hc0:l0.length≤c0)(h:Qby.f k l0=some r) :
  Calls Tryz.prog 122 #[.slice A0 l0.length c0] w fun e w'=>e=.returned (.string r)∧Below w.heap.size w w':=by
 have n:=QA hr0;have v:=QA hc0;clear hr0 hc0;have HB:=QA (Below.refl w.heap.size w);have H:(Qby.l0 k (⟨#[]⟩:ByteArray) l0 (l0.length:Int) 0)=some r:=h;clear h;have H':=QA H;clear H
 go_enter Tryz.func122,Tryz.ntmps122
 go_wp2
 go_loopg [3,8] k (fun kq v3 v8 w'=>∃(a:ByteArray) (x8_1:Int),v3=.string a∧v8=.int .i64 x8_1∧Aside0 (Qby.l0 kq a l0 (l0.length:Int) x8_1=some r)∧Aside0 (kq≤k)∧Aside0 (Below w.heap.size w w'))
 case atStart=>exact⟨((⟨#[]⟩:ByteArray)),(0),qq_8,qq_8,H',⟨Nat.le_refl _⟩,⟨qq_b⟩⟩
 case round =>
  clear H';obtain⟨a,x8_1,rfl,rfl,HA,HK1,HB⟩:=hrel
  cases gk with
  | zero=>exact absurd HA.out (by simp[Qby.l0])
  | succ k1 =>
   have H:=HA.out;clear HA;simp only[Qby.l0]at H
   by_cases c2:x8_1<(l0.length:Int)
   ·rw [if_pos c2]at H;have l:decide (x8_1<(l0.length:Int))=true:=decide_eq_true c2;clear c2
    by_cases c3:0≤x8_1
    ·rw[if_pos c3]at H;have p:decide (0≤x8_1)=true:=decide_eq_true c3;clear c3
     by_cases c4:x8_1<(l0.length:Int)
     ·rw[if_pos c4]at H;have q:decide (x8_1<(l0.length:Int))=true:=decide_eq_true c4;clear c4;replace H:=Option.bind_eq_some_iff.mp H;obtain⟨b,j,H⟩:=H;replace H:(if a.size+b.size≤9223372036854775807 then(Qby.l0 k1 (a++b) l0 (l0.length:Int) (wrap64 (x8_1+1)))else(none))=some r:=H;have A5:=QA j;clear j
      by_cases c6:a.size+b.size≤9223372036854775807
      ·rw[if_pos c6]at H;have s:=eq_true c6;have t:decide (a.size+b.size≤9223372036854775807)=true:=decide_eq_true c6
       try have u:(9223372036854775807<a.size+b.size)=False:=eq_false (Nat.not_lt.2 c6)
       have H':=QA H;clear H;have d:0≤(x8_1:Int):=of_decide_eq_true qq_6;have g:x8_1<(l0.length:Int):=of_decide_eq_true qq_6;obtain⟨o,m,c⟩:=Kd.at_int n.out x8_1 d g
       cases m
       replace c:=qq_h HB.out c;replace d:=eq_true d;replace g:=eq_true g
       go_wp2_with (first |((with_reducible refine Qjs (f:=103) rfl ?_);refine Qhs (some 14) rfl rfl Tryz.func103 qq_7 rfl #[.int .u64 (rd l0 x8_1),.int .i64 8] rfl qq_1 ?_;(with_reducible refine(Qau.calls k1 (rd l0 x8_1) 8 b _ A5.out).mono ?_);rintro e w7 ⟨rfl,hb⟩;refine⟨_,rfl,?_⟩;have n_:=qn1 (Qgi qq_b hb);clear HB;have HB:=n_;clear n_;(try clear hb);(try clear hb2);(try clear hk);(try clear hi)))
       go_roundg k1
       case measure=>have:=HK1.out;omega
       case rel=>exact⟨(a++b),(wrap64 (x8_1+1)),qq_8,qq_8,H',⟨by have:=HK1.out;omega⟩,⟨qq_b⟩⟩
      ·rw[if_neg c6]at H;exact absurd H (by simp)
     ·rw[if_neg c4]at H;exact absurd H (by simp)
    ·rw[if_neg c3]at H;exact absurd H (by simp)
   ·rw[if_neg c2]at H;have l:decide (x8_1<(l0.length:Int))=false:=decide_eq_false c2;clear c2;obtain rfl:=Option.some.inj H;go_wp2;go_ret
    exact⟨by first|rfl |(simp[Qjz,Qka]<;>rfl) |(simp[*,Qjz,Qka]<;>rfl),qq_b⟩
def Qcf.l0:Nat→List Int→Int→Int→Option (ByteArray)
 | 0,_,_,_=>none
 | k+1,x3,x9,x10=>if x10<x9 then(if 0≤x10 then(if x10<(x3.length:Int)then(Qcf.l0 k (x3.set (x10:Int).toNat 255) x9 (wrap64 (x10+1)))else(none))else(none))else(some (strOfNums x3))
def Qcf.f(k:Nat)(a0:Int):Option (ByteArray):=if 0≤(mx 0 a0)then(if(mx 0 a0:Int).toNat≤281474976710656 then((some (List.replicate (mx 0 a0:Int).toNat 0:List Int)).bind fun y483=>(Qcf.l0 k y483 (y483.length:Int) 0))else(none))else(none)
theorem Qcf.calls (k:Nat) (a0:Int) (r:ByteArray) (w:World) (h:Qcf.f k a0=some r) :
  Calls Tryz.prog 72 #[.int .i64 a0] w fun e w'=>e=.returned (.string r)∧Below w.heap.size w w':=by
 have HB:=QA (Below.refl w.heap.size w);have H:(if 0≤(mx 0 a0)then(if(mx 0 a0:Int).toNat≤281474976710656 then((some (List.replicate (mx 0 a0:Int).toNat 0:List Int)).bind fun a=>(Qcf.l0 k a (a.length:Int) 0))else(none))else(none))=some r:=h;clear h;obtain⟨b,hji2⟩:∃j_:Int,(mx 0 a0)=j_:=⟨_,rfl⟩;replace H:(if 0≤(b)then(if(b:Int).toNat≤281474976710656 then((some (List.replicate (b:Int).toNat 0:List Int)).bind fun a=>(Qcf.l0 k a (a.length:Int) 0))else(none))else(none))=some r:=by first |(rw[hji2]at H;exact H) |(simp only[hji2]at H ⊢;exact H)
 (try(have K:0≤b:=by(rw[← hji2];unfold mx;(repeat' split)<;>omega)))
 (try(have L:0≤b:=by omega))
 have M:(if 0<a0 then a0 else 0)=b:=hji2
 by_cases c3:0≤(b)
 ·rw [if_pos c3]at H;have A:=eq_true c3;have B:decide (0≤(b))=true:=decide_eq_true c3;clear c3
  by_cases c4:(b:Int).toNat≤281474976710656
  ·rw [if_pos c4]at H;have D:=eq_true c4;have E:decide ((b:Int).toNat≤281474976710656)=true:=decide_eq_true c4;clear c4;obtain⟨a,d⟩:∃y_:List Int,y_=(List.replicate (b:Int).toNat 0):=⟨_,rfl⟩;replace H:(Qcf.l0 k a (a.length:Int) 0)=some r:=by first |(rw[d];with_reducible exact H) |(have j:=(Option.bind_some _ _).symm.trans H;rw[d];with_reducible exact j) |(have j:=(Option.bind_some _ _).symm.trans H;with_reducible exact j)|with_reducible exact H |(rw[d];exact H)|exact H
   have n:=QA d;clear d;have H':=QA H;clear H
   go_enter Tryz.func72,Tryz.ntmps72
   go_wp2_with (first |((with_reducible refine Qgt (N:=7) rfl ?_);refine Kd.R_make (Kd.int .u8) _ 5 rfl (N:=7) rfl 52 _ _ rfl b rfl rfl Tryz.underlying52 (.int .u8 0) 1 Qkb rfl (by decide) (by omega) 0 (ok:=fun _=>True) (okp:=fun _=>True) rfl (fun _ hk=>hk) trivial (of_decide_eq_true qq_6) (Nat.le_trans (Nat.mul_le_mul_right _ (of_decide_eq_true qq_6:b.toNat≤281474976710656)) (by omega)) (Below.refl _ _) (Nat.le_refl _) ?_;intro U w5 l hb hg_ hnew_;clear hg_ hnew_;(first|rw[← n.out]at l |(simp only[Int.reduceToNat]at l;rw[← n.out]at l));have n_:=qn2 (Kd.R_lower l (Qgh qq_b)) (Qgi qq_b hb);clear HB;obtain⟨o,HB⟩:=n_;clear hb l;obtain⟨Ao7,co7,eo7⟩:=Kd.R_slice o.out;subst eo7))
   go_loopg [10] k (fun kq I w'=>∃(c:List Int) (x10_1:Int),I=.int .i64 x10_1∧Aside0 (Qcf.l0 kq c (a.length:Int) x10_1=some r)∧Aside0 (kq≤k)∧Aside0 (Kd.R (Kd.int .u8) 5 w' w.heap.size (fun _=>True) (.slice Ao7 a.length co7) c)∧Aside0 (Below w.heap.size w w'))
   case atStart=>exact⟨(a),(0),qq_8,H',⟨Nat.le_refl _⟩,⟨by(with_reducible repeat(first|apply Kd.R_alloc|apply Kd.R_drewN|apply Kd.R_drew));exact o.out⟩,⟨qq_b⟩⟩
   case round =>
    clear H'
    try clear c3
    try clear A
    try clear B
    try clear c4
    try clear D
    try clear E
    obtain⟨c,x10_1,rfl,HA,HK1,HO_3,HB⟩:=hrel;have hl3_1:=(Kd.R_reads' HO_3.out).1;rw[hl3_1]at HO_3
    (try simp only[hl3_1])
    cases gk with
    | zero=>exact absurd HA.out (by simp[Qcf.l0])
    | succ k1 =>
     have H:=HA.out;clear HA;simp only[Qcf.l0]at H
     by_cases c8:x10_1<(a.length:Int)
     ·rw[if_pos c8]at H;have q:decide (x10_1<(a.length:Int))=true:=decide_eq_true c8;clear c8
      by_cases c9:0≤x10_1
      ·rw[if_pos c9]at H;have W:decide (0≤x10_1)=true:=decide_eq_true c9;clear c9
       by_cases c10:x10_1<(c.length:Int)
       ·rw[if_pos c10]at H;have O:decide (x10_1<(c.length:Int))=true:=decide_eq_true c10;clear c10;obtain⟨m,g⟩:∃y_:List Int,y_=(c.set (x10_1:Int).toNat 255):=⟨_,rfl⟩;replace H:(Qcf.l0 k1 m (a.length:Int) (wrap64 (x10_1+1)))=some r:=by first |(rw[g];with_reducible exact H) |(have j:=(Option.bind_some _ _).symm.trans H;rw[g];with_reducible exact j) |(have j:=(Option.bind_some _ _).symm.trans H;with_reducible exact j)|with_reducible exact H |(rw[g];exact H)|exact H
        have z:=QA g;clear g;have H':=QA H;clear H;have s:0≤(x10_1:Int):=of_decide_eq_true qq_6;have u:(x10_1:Int)<((c.length:Int):Int):=of_decide_eq_true qq_6;obtain⟨go11,co11,eo11,x,gl11,cl11,HG11⟩:=Kd.R_form HO_3.out (by omega)
        (first|cases eo11 |(injection eo11 with ea_ en_ ec_;(first|subst ea_ |(injection ea_ with ea_;subst ea_));subst ec_;clear en_))
        have GB11:=QA x;have GG11:=QA HG11;clear x gl11 HG11;obtain⟨J,hf11_0⟩:=Kd.R_celln 0 HO_3.out (x10_1:Int) s u;replace s:=eq_true s;replace u:=eq_true u;have HP12:=Kd.R_putg HO_3.out (x10_1:Int) 255
        go_wp2_with (first |((with_reducible refine Qgu (t:=5) (p:=15) rfl ?_);refine Qgs (t:=5) (p:=15) (v:=?vo_w13) (w1:=(wr.setCell ⟨go11,(x10_1:Int).toNat,none⟩ (.int .u8 255))) ?hg ?ho ?hn ?hr ?_;(case ho=>rfl);(case hg=>rfl);(case hn=>rfl);(case hr=>exact qq_13);intro y hw;have hg:wr.grownBy y (some go11):=(by rw[hw];exact HP12.2);have hp_:Kd.R (Kd.int .u8) 5 y w.heap.size (fun _=>True) (.slice (some ⟨go11,0,none⟩) c.length co7) m:=(by rw[hw,z.out];exact HP12.1);clear HP12;have n_:=qn2 (hp_) ((by rw[hw];exact Qgk (HB.out) GB11.out:Below w.heap.size w y));clear HO_3 HB;obtain⟨HO_3,HB⟩:=n_;clear hg hw hp_))
        (try simp only[← hl3_1])
        go_roundg k1
        case measure=>have:=HK1.out;omega
        case rel=>exact⟨(m),(wrap64 (x10_1+1)),qq_8,H',⟨by have:=HK1.out;omega⟩,⟨by(try simp only[hl3_1]);(with_reducible repeat(first|apply Kd.R_alloc|apply Kd.R_drewN|apply Kd.R_drew));exact HO_3.out⟩,⟨qq_b⟩⟩
       ·rw[if_neg c10]at H;exact absurd H (by simp)
      ·rw[if_neg c9]at H;exact absurd H (by simp)
     ·rw[if_neg c8]at H;have q:decide (x10_1<(a.length:Int))=false:=decide_eq_false c8
      first |(have G:=q;simp only[hl3_1]at G)|skip
      clear c8;obtain rfl:=Option.some.inj H;have T:=Qdz (P:=Tryz.prog) Tryz.underlying52 Tryz.underlying5 Tryz.underlying9 (Kd.own_of_R HO_3.out);go_wp2;go_ret
      exact⟨by first|rfl |(simp[Qjz,Qka]<;>rfl) |(simp only[← hji2];first|rfl |(simp[Qjz,Qka]<;>rfl)) |(simp[*,Qjz,Qka]<;>rfl),qq_b⟩
  ·rw[if_neg c4]at H;exact absurd H (by simp)
 ·rw[if_neg c3]at H;exact absurd H (by simp)
def Qaw.f:Nat→Int→Option (ByteArray)
 | 0,_=>none
 | k+1,a0=>if a0<128 then(some (strOfNums (([(a0)%256]:List Int))))else((some (([(IntKind.u64.wrap (128+(Int.tmod a0 128)))%256]:List Int):List Int)).bind fun y295=>((Qaw.f k (IntKind.u64.wrap (Int.tdiv a0 128))).bind fun t298=>(if(strOfNums y295).size+t298.size≤9223372036854775807 then(some ((strOfNums y295)++t298))else(none))))
def Qaw.T3:Bool × List (List Nat × List Nat):=(true,[([],[]),([0],[0]),([1],[1]),([2],[2]),([3],[3]),([4],[4]),([],[]),([6],[6]),([7],[7]),([5,8],[5,8]),([9,8,0,1,2,3,4,5,6,7,8,9],[9])])
def Qaw.B3:List Nat:=[0,1,3,7,15,31,0,64,192,511,1023]
theorem Qaw.tab3:rtab .any (Qjb Tryz.f98 3)=Qaw.T3:=by kernel_rfl
theorem Qaw.bits3:Qiv Qaw.T3.2 Qaw.B3=true:=by kernel_rfl
theorem Qaw.calls(k:Nat):∀(a0:Int) (r:ByteArray) (w:World) (h:Qaw.f k a0=some r),
  Calls Tryz.prog 98 #[.int .u64 a0] w fun e w'=>e=.returned (.string r)∧Below w.heap.size w w':=by
 induction k using Nat.strongRecOn with
 | _ k ih =>
 intro a0 r w h
 cases k with
 | zero=>exact absurd h (by simp[Qaw.f])
 | succ k =>
 simp only[Qaw.f]at h;have HB:=QA (Below.refl w.heap.size w);have H:(if a0<128 then(some (strOfNums (([(a0)%256]:List Int))))else((some (([(IntKind.u64.wrap (128+(Int.tmod a0 128)))%256]:List Int):List Int)).bind fun b=>((Qaw.f k (IntKind.u64.wrap (Int.tdiv a0 128))).bind fun a=>(if(strOfNums b).size+a.size≤9223372036854775807 then(some ((strOfNums b)++a))else(none)))))=some r:=h;clear h
 by_cases c2:a0<128
 ·rw[if_pos c2]at H;have J:decide (a0<128)=true:=decide_eq_true c2;clear c2;obtain⟨L,g⟩:∃y_:List Int,y_=(([(a0)%256]:List Int)):=⟨_,rfl⟩;replace H:(some (strOfNums L))=some r:=by first |(rw[g];with_reducible exact H) |(have p:=(Option.bind_some _ _).symm.trans H;rw[g];with_reducible exact p) |(have p:=(Option.bind_some _ _).symm.trans H;with_reducible exact p)|with_reducible exact H |(rw[g];exact H)|exact H
  have x:=QA g;clear g;obtain rfl:=Option.some.inj H
  go_enter Tryz.func98,Tryz.ntmps98
  go_wp2_with (first |((with_reducible refine Qgt (N:=7) rfl ?_);refine Kd.R_lit (Kd.int .u8) _ 5 ?hg (N:=7) ?hd (xs:=([(a0)%256]:List Int)) (inner:=[.int .u8 ((a0)%256)]) (ok:=fun _=>True) (okp:=fun _=>True) ?hr ?hp (fun _ hk=>hk) trivial (Below.refl _ _) (Nat.le_refl _) (by simp) ?_;(case hd=>rfl);(case hg=>rfl);(case hr=>exact qq_13);(case hp=>exact(Reps.one (show Kd.M (Kd.int .u8) _ _ _ ((a0)%256) [.int .u8 ((a0)%256)] from rfl) (Reps.none _ _)));intro O w3 u hb hg_ hnew_;clear hg_ hnew_;(first|rw[← x.out]at u |(simp only[Int.reduceToNat]at u;rw[← x.out]at u));have n_:=qn2 (Kd.R_lower u (Qgh qq_b)) (Qgi qq_b hb);clear HB;obtain⟨y,HB⟩:=n_;clear hb u;have T:=Qdz (P:=Tryz.prog) Tryz.underlying52 Tryz.underlying5 Tryz.underlying9 (Kd.own_of_R y.out)))
  go_ret
  exact⟨by first|rfl |(simp[Qjz,Qka]<;>rfl) |(simp[*,Qjz,Qka]<;>rfl),qq_b⟩
 ·rw [if_neg c2]at H;have J:decide (a0<128)=false:=decide_eq_false c2;clear c2;obtain⟨b,l⟩:∃y_:List Int,y_=(([(IntKind.u64.wrap (128+(Int.tmod a0 128)))%256]:List Int)):=⟨_,rfl⟩;replace H:((Qaw.f k (IntKind.u64.wrap (Int.tdiv a0 128))).bind fun a=>(if(strOfNums b).size+a.size≤9223372036854775807 then(some ((strOfNums b)++a))else(none)))=some r:=by first |(rw[l];with_reducible exact H) |(have p:=(Option.bind_some _ _).symm.trans H;rw[l];with_reducible exact p) |(have p:=(Option.bind_some _ _).symm.trans H;with_reducible exact p)|with_reducible exact H |(rw[l];exact H)|exact H
  have o:=QA l;clear l;replace H:=Option.bind_eq_some_iff.mp H;obtain⟨a,A,H⟩:=H;replace H:(if(strOfNums b).size+a.size≤9223372036854775807 then(some ((strOfNums b)++a))else(none))=some r:=H;have A6:=QA A;clear A
  by_cases c7:(strOfNums b).size+a.size≤9223372036854775807
  ·rw [if_pos c7]at H;have U:=eq_true c7;have W:decide ((strOfNums b).size+a.size≤9223372036854775807)=true:=decide_eq_true c7
   try have X:(9223372036854775807<(strOfNums b).size+a.size)=False:=eq_false (Nat.not_lt.2 c7)
   obtain rfl:=Option.some.inj H
   go_enter Tryz.func98,Tryz.ntmps98
   try go_wp2
   have n_:=qn1 (Qgp HB.out);clear HB;have HB:=n_;clear n_;refine Qhg (n:=11) (S:=fun w'=>True) (ds:=[]) (bm 11 0) qq_7 rfl rfl trivial (fun c=>?_);refine Qiz Qaw.tab3 Qaw.bits3 (fun HT_ HW_=>?_);generalize w.drew=w8 at HB c ⊢;refine Qhj (i:=0) (N:=some 9) (v:=?_) (a':=?_) (bm 11 1) rfl rfl (Qir HT_.out qq_7) (fun _ _ _ h=>h) (Or.inl ⟨by rfl,?_⟩) ?_ ?_;rotate_left
   ·intro w';go_simp;with_reducible rfl
   rotate_left
   ·exact qq_2
   refine Qhj (i:=1) (N:=some 10) (v:=?_) (a':=?_) (bm 11 3) rfl rfl (Qir HT_.out qq_7) (fun _ _ _ h=>h) (Or.inl ⟨by rfl,?_⟩) ?_ ?_;rotate_left
   ·intro w';go_simp;with_reducible rfl
   rotate_left
   ·exact qq_2
   refine Qhj (i:=2) (N:=some 11) (v:=?_) (a':=?_) (bm 11 7) rfl rfl (Qir HT_.out qq_7) (fun _ _ _ h=>h) (Or.inl ⟨by rfl,?_⟩) ?_ ?_;rotate_left
   ·intro w';go_simp;with_reducible rfl
   rotate_left
   ·exact qq_2
   refine Qhj (i:=3) (N:=some 12) (v:=?_) (a':=?_) (bm 11 15) rfl rfl (Qir HT_.out qq_7) (fun _ _ _ h=>h) (Or.inl ⟨by rfl,?_⟩) ?_ ?_;rotate_left
   ·intro w';go_simp;with_reducible rfl
   rotate_left
   ·exact qq_2
   refine Qhj (i:=6) (N:=some 15) (v:=?_) (a':=?_) (bm 11 79) rfl rfl (Qir HT_.out qq_7) (fun _ _ _ h=>h) (Or.inl ⟨by rfl,?_⟩) ?_ ?_;rotate_left
   ·intro w';go_simp;with_reducible rfl
   rotate_left
   ·exact qq_2
   refine Qhj (i:=7) (N:=some 16) (v:=?_) (a':=?_) (bm 11 207) rfl rfl (Qir HT_.out qq_7) (fun _ _ _ h=>h) (Or.inl ⟨by rfl,?_⟩) ?_ ?_;rotate_left
   ·intro w';go_simp;with_reducible rfl
   rotate_left
   ·exact qq_2
   refine Qho (σ:=Value) 2 (bm 11 511) (fun s_=>[(13,s_),(14,.string (strOfNums b)),(17,.string a)]) (fun s_ w'=>(Kd.R (Kd.int .u8) 5 w' w.heap.size (fun _=>True) s_ b)∧(Below w.heap.size w w')) ?_ ?_;rotate_left
   ·intro hCont;refine two_ (i:=4) (j:=8) (Ni:=some 13) (Nj:=some 17) (bm 11 223) (bm 11 463) rfl rfl rfl rfl (Qit HT_.out qq_7) (by decide) (by decide) (fun K hK=>?_) (fun K hK=>?_)
    ·skip
     refine Kd.R_lit_step (Kd.int .u8) _ 5 ?hg (N:=13) ?hd (xs:=([(IntKind.u64.wrap (128+(Int.tmod a0 128)))%256]:List Int)) (inner:=[.int .u8 ((IntKind.u64.wrap (128+(Int.tmod a0 128)))%256)]) (ok:=fun _=>True) (okp:=fun _=>True) ?hr ?hp (fun _ hk=>hk) trivial (Below.refl _ _) (Nat.le_refl _) (by simp) ?_;(case hd=>rfl);(case hg=>rfl);(case hr=>exact qq_13);(case hp=>exact(Reps.one (show Kd.M (Kd.int .u8) _ _ _ ((IntKind.u64.wrap (128+(Int.tmod a0 128)))%256) [.int .u8 ((IntKind.u64.wrap (128+(Int.tmod a0 128)))%256)] from rfl) (Reps.none _ _)));intro m w9 q hb hg_ hnew_;clear hg_ hnew_
     (first|rw[← o.out]at q |(simp only[Int.reduceToNat]at q;rw[← o.out]at q))
     have n_:=qn2 (Kd.R_lower q (Qgh qq_b)) (Qgi qq_b hb);clear HB;obtain⟨d,HB⟩:=n_;clear hb q;refine hK.out _ _ trivial (fun c=>?_);clear hK K;refine nzp_ 13 ?_;refine two_ (i:=5) (j:=8) (Ni:=some 14) (Nj:=some 17) (bm 11 255) (bm 11 479) rfl rfl rfl rfl (Qit HT_.out qq_7) (by decide) (by decide) (fun K hK=>?_) (fun K hK=>?_)
     ·skip
      have z:=Qdz (P:=Tryz.prog) Tryz.underlying52 Tryz.underlying5 Tryz.underlying9 (Kd.own_of_R d.out);refine Qht (w1:=?_) (v:=?_) (by rfl) rfl ?_ ?_;rotate_left 2
      ·go_simp
       constructor
       ·rfl
       ·rfl
      clear z;refine hK.out _ _ trivial (fun c=>?_);clear hK K;refine nzp_ 14 ?_;refine one_ (i:=8) (N:=some 17) (bm 11 511) rfl rfl (Qis HT_.out qq_7) (by decide) (fun K hK=>?_);refine Qhr Tryz.func98 qq_7 rfl #[.int .u64 (IntKind.u64.wrap (Int.tdiv a0 128))] (by rfl) rfl rfl qq_1 ?_;with_reducible refine(ih k (by omega) (IntKind.u64.wrap (Int.tdiv a0 128)) a _ A6.out).mono ?_
      rintro e Y ⟨rfl,hb⟩;refine⟨_,rfl,?_⟩;have n_:=qn2 (Kd.R_below qq_5 hb) (Qgi qq_b hb);clear d HB;obtain⟨d,HB⟩:=n_
      (try clear hb)
      (try clear hb2)
      (try clear hk)
      (try clear hi)
      refine hK.out _ _ trivial (fun c=>?_);clear hK K;refine nzp_ 17 ?_;exact Qhp (by simp only[Qhn,Act.put,List.setIfInBounds_toArray,List.set_cons_zero,List.set_cons_succ]) (hCont (m) _ ⟨qq_5,qq_b⟩)
     ·skip
      refine Qhr Tryz.func98 qq_7 rfl #[.int .u64 (IntKind.u64.wrap (Int.tdiv a0 128))] (by rfl) rfl rfl qq_1 ?_;with_reducible refine(ih k (by omega) (IntKind.u64.wrap (Int.tdiv a0 128)) a _ A6.out).mono ?_
      rintro e Z ⟨rfl,hb⟩;refine⟨_,rfl,?_⟩;have n_:=qn2 (Kd.R_below qq_5 hb) (Qgi qq_b hb);clear d HB;obtain⟨d,HB⟩:=n_
      (try clear hb)
      (try clear hb2)
      (try clear hk)
      (try clear hi)
      refine hK.out _ _ trivial (fun c=>?_);clear hK K;refine nzp_ 17 ?_;refine one_ (i:=5) (N:=some 14) (bm 11 511) rfl rfl (Qis HT_.out qq_7) (by decide) (fun K hK=>?_);have t:=Qdz (P:=Tryz.prog) Tryz.underlying52 Tryz.underlying5 Tryz.underlying9 (Kd.own_of_R d.out);refine Qht (w1:=?_) (v:=?_) (by rfl) rfl ?_ ?_;rotate_left 2
      ·go_simp
       constructor
       ·rfl
       ·rfl
      clear t;refine hK.out _ _ trivial (fun c=>?_);clear hK K;refine nzp_ 14 ?_;exact Qhp (by simp only[Qhn,Act.put,List.setIfInBounds_toArray,List.set_cons_zero,List.set_cons_succ]) (hCont (m) _ ⟨qq_5,qq_b⟩)
    ·skip
     refine Qhr Tryz.func98 qq_7 rfl #[.int .u64 (IntKind.u64.wrap (Int.tdiv a0 128))] (by rfl) rfl rfl qq_1 ?_;with_reducible refine(ih k (by omega) (IntKind.u64.wrap (Int.tdiv a0 128)) a _ A6.out).mono ?_
     rintro e w9 ⟨rfl,hb⟩;refine⟨_,rfl,?_⟩;have n_:=qn1 (Qgi qq_b hb);clear HB;have HB:=n_;clear n_
     (try clear hb)
     (try clear hb2)
     (try clear hk)
     (try clear hi)
     refine hK.out _ _ trivial (fun c=>?_);clear hK K;refine nzp_ 17 ?_;refine one_ (i:=4) (N:=some 13) (bm 11 479) rfl rfl (Qis HT_.out qq_7) (by decide) (fun K hK=>?_);refine Kd.R_lit_step (Kd.int .u8) _ 5 ?hg (N:=13) ?hd (xs:=([(IntKind.u64.wrap (128+(Int.tmod a0 128)))%256]:List Int)) (inner:=[.int .u8 ((IntKind.u64.wrap (128+(Int.tmod a0 128)))%256)]) (ok:=fun _=>True) (okp:=fun _=>True) ?hr ?hp (fun _ hk=>hk) trivial (Below.refl _ _) (Nat.le_refl _) (by simp) ?_;(case hd=>rfl);(case hg=>rfl);(case hr=>exact qq_13);(case hp=>exact(Reps.one (show Kd.M (Kd.int .u8) _ _ _ ((IntKind.u64.wrap (128+(Int.tmod a0 128)))%256) [.int .u8 ((IntKind.u64.wrap (128+(Int.tmod a0 128)))%256)] from rfl) (Reps.none _ _)));intro m aa s hb hg_ hnew_;clear hg_ hnew_
     (first|rw[← o.out]at s |(simp only[Int.reduceToNat]at s;rw[← o.out]at s))
     have n_:=qn2 (Kd.R_lower s (Qgh qq_b)) (Qgi qq_b hb);clear HB;obtain⟨d,HB⟩:=n_;clear hb s;refine hK.out _ _ trivial (fun c=>?_);clear hK K;refine nzp_ 13 ?_;refine one_ (i:=5) (N:=some 14) (bm 11 511) rfl rfl (Qis HT_.out qq_7) (by decide) (fun K hK=>?_);have t:=Qdz (P:=Tryz.prog) Tryz.underlying52 Tryz.underlying5 Tryz.underlying9 (Kd.own_of_R d.out);refine Qht (w1:=?_) (v:=?_) (by rfl) rfl ?_ ?_;rotate_left 2
     ·go_simp
      constructor
      ·rfl
      ·rfl
     clear t;refine hK.out _ _ trivial (fun c=>?_);clear hK K;refine nzp_ 14 ?_;exact Qhp (by simp only[Qhn,Act.put,List.setIfInBounds_toArray,List.set_cons_zero,List.set_cons_succ]) (hCont (m) _ ⟨qq_5,qq_b⟩)
   rintro m B ⟨D,E⟩;have G:Aside0 (Kd.R (Kd.int .u8) 5 B w.heap.size (fun _=>True) m b):=⟨D⟩;have I:Aside0 (Below w.heap.size w B):=⟨E⟩;clear HB D E;have d:=G;have HB:=I;clear G I;have c:=trivial;refine nza_ ?_;refine Qhj (i:=9) (N:=some 18) (v:=?_) (a':=?_) (bm 11 1023) rfl rfl (Qir HT_.out qq_7) (fun _ _ _ h=>h) (Or.inl ⟨by rfl,?_⟩) ?_ ?_;rotate_left
   ·intro w';go_simp;with_reducible rfl
   rotate_left
   ·exact qq_2
   refine Qhj (i:=10) (N:=some 2) (v:=?_) (a':=?_) (bm 11 2047) rfl rfl (Qir HT_.out qq_7) (fun _ _ _ h=>h) (Or.inl ⟨by rfl,?_⟩) ?_ ?_;rotate_left
   ·intro w';go_simp;with_reducible rfl
   rotate_left
   ·exact qq_2
   refine Qhl (Qiu HT_.out qq_7) ?_
   try go_wp2
   go_ret
   exact⟨by first|rfl |(simp[Qjz,Qka]<;>rfl) |(simp[*,Qjz,Qka]<;>rfl),qq_b⟩
  ·rw[if_neg c7]at H;exact absurd H (by simp)
theorem eqA122(d:Nat)(w:World)(x0 y0:Int)(x1 y1:Int) :
  (Op.equalIn (d+2) 122 (.agg #[.int .u64 x0,.int .u32 x1]) (.agg #[.int .u64 y0,.int .u32 y1])).run Tryz.prog w=.ok (x0 == y0 && (x1 == y1)) w:=by
 refine Qji Tryz.underlying122 qq_7 ?_;refine Qjh (by rfl) (by go_simp;rfl) (by go_simp;rfl) (by go_simp) ?_;exact Qjg (by rfl) (by go_simp;rfl) (by go_simp;rfl) (by go_simp)
def Qbw.f(a0_0:Int)(a0_1:Int)(a1_0:Int)(a1_1:Int):Option (Bool):=if a0_0<a1_0 then(some true)else(if a0_0=a1_0 then(some (decide (a0_1<a1_1)))else(some false))
theorem Qbw.calls(b:Int)(j:Int)(k:Int)(p:Int)(r:Bool)(w:World)(h:Qbw.f b j k p=some r) :
  Calls Tryz.prog 158 #[.agg #[.int .u64 b,.int .u32 j],.agg #[.int .u64 k,.int .u32 p]] w fun e w'=>e=.returned (.bool r)∧Below w.heap.size w w':=by
 have hu122:=Tryz.underlying122;have HB:=QA (Below.refl w.heap.size w);have H:(if b<k then(some true)else(if b=k then(some (decide (j<p)))else(some false)))=some r:=h;clear h
 by_cases c3:b<k
 ·rw[if_pos c3]at H;have v:decide (b<k)=true:=decide_eq_true c3;clear c3;obtain rfl:=Option.some.inj H
  go_enter Tryz.func158,Tryz.ntmps158
  go_wp2_with (first |((with_reducible refine Qgt (N:=2) rfl ?_);refine qq_e 2 #[.int .u64 b,.int .u32 j] 122 ?_;intro a hg w4 hbox hb;have n_:=qn4 (Qgi qq_b hb) (hbox) (qq_s hg:w.heap.size≤a) (qq_s hg:w.heap.size≤a);clear HB;obtain⟨HB,c,q,s⟩:=n_;clear hb hbox hg) |((with_reducible refine Qgt (N:=3) rfl ?_);refine qq_e 3 #[.int .u64 k,.int .u32 p] 122 ?_;intro d hg w5 hbox hb;have n_:=qn7 (Qfd (g:=a) (o:=.cells #[.int .u64 b,.int .u32 j] 122 (0,0)) qq_0 hb) (Qgi qq_b hb) (hbox) (qq_s hg:w.heap.size≤d) (qq_s hg:w.heap.size≤d) ((by rw[hg];exact Nat.ne_of_lt (Qen (g:=a) (o:=.cells #[.int .u64 b,.int .u32 j] 122 (0,0)) qq_0):a≠d)) ((by rw[hg];exact Nat.ne_of_gt (Qen (g:=a) (o:=.cells #[.int .u64 b,.int .u32 j] 122 (0,0)) qq_0):d≠a));clear c HB;obtain⟨c,HB,n,t,u,l,m⟩:=n_;clear hb hbox hg;have ab:=l.out;have ac:=m.out;obtain⟨K,L⟩:=qc2 c.out;have ad:=Qep c.out;obtain⟨M,O⟩:=qc2 n.out;have ae:=Qep n.out))
  go_ret
  exact⟨by first|rfl |(simp[Qjz,Qka]<;>rfl) |(simp[*,Qjz,Qka]<;>rfl),qq_b⟩
 ·rw[if_neg c3]at H;have v:decide (b<k)=false:=decide_eq_false c3;clear c3
  by_cases c9:b=k
  ·rw[if_pos c9]at H;have x:(b == k)=true:=beq_iff_eq.mpr c9;have y:(b != k)=false:=bne_eq_false_iff_eq.mpr c9;clear c9;obtain rfl:=Option.some.inj H
   go_enter Tryz.func158,Tryz.ntmps158
   go_wp2_with (first |((with_reducible refine Qgt (N:=2) rfl ?_);refine qq_e 2 #[.int .u64 b,.int .u32 j] 122 ?_;intro a hg af hbox hb;have n_:=qn4 (Qgi qq_b hb) (hbox) (qq_s hg:w.heap.size≤a) (qq_s hg:w.heap.size≤a);clear HB;obtain⟨HB,c,q,s⟩:=n_;clear hb hbox hg) |((with_reducible refine Qgt (N:=3) rfl ?_);refine qq_e 3 #[.int .u64 k,.int .u32 p] 122 ?_;intro d hg ag hbox hb;have n_:=qn7 (Qfd (g:=a) (o:=.cells #[.int .u64 b,.int .u32 j] 122 (0,0)) qq_0 hb) (Qgi qq_b hb) (hbox) (qq_s hg:w.heap.size≤d) (qq_s hg:w.heap.size≤d) ((by rw[hg];exact Nat.ne_of_lt (Qen (g:=a) (o:=.cells #[.int .u64 b,.int .u32 j] 122 (0,0)) qq_0):a≠d)) ((by rw[hg];exact Nat.ne_of_gt (Qen (g:=a) (o:=.cells #[.int .u64 b,.int .u32 j] 122 (0,0)) qq_0):d≠a));clear c HB;obtain⟨c,HB,n,t,u,l,m⟩:=n_;clear hb hbox hg;have P:=l.out;have T:=m.out;obtain⟨z,A⟩:=qc2 c.out;have U:=Qep c.out;obtain⟨B,D⟩:=qc2 n.out;have W:=Qep n.out))
   go_ret
   exact⟨by first|rfl |(simp[Qjz,Qka]<;>rfl) |(simp[*,Qjz,Qka]<;>rfl),qq_b⟩
  ·rw[if_neg c9]at H;have x:(b == k)=false:=beq_eq_false_iff_ne.mpr c9;have y:(b != k)=true:=bne_iff_ne.mpr c9;obtain rfl:=Option.some.inj H
   go_enter Tryz.func158,Tryz.ntmps158
   go_wp2_with (first |((with_reducible refine Qgt (N:=2) rfl ?_);refine qq_e 2 #[.int .u64 b,.int .u32 j] 122 ?_;intro a hg ah hbox hb;have n_:=qn4 (Qgi qq_b hb) (hbox) (qq_s hg:w.heap.size≤a) (qq_s hg:w.heap.size≤a);clear HB;obtain⟨HB,c,q,s⟩:=n_;clear hb hbox hg) |((with_reducible refine Qgt (N:=3) rfl ?_);refine qq_e 3 #[.int .u64 k,.int .u32 p] 122 ?_;intro d hg ai hbox hb;have n_:=qn7 (Qfd (g:=a) (o:=.cells #[.int .u64 b,.int .u32 j] 122 (0,0)) qq_0 hb) (Qgi qq_b hb) (hbox) (qq_s hg:w.heap.size≤d) (qq_s hg:w.heap.size≤d) ((by rw[hg];exact Nat.ne_of_lt (Qen (g:=a) (o:=.cells #[.int .u64 b,.int .u32 j] 122 (0,0)) qq_0):a≠d)) ((by rw[hg];exact Nat.ne_of_gt (Qen (g:=a) (o:=.cells #[.int .u64 b,.int .u32 j] 122 (0,0)) qq_0):d≠a));clear c HB;obtain⟨c,HB,n,t,u,l,m⟩:=n_;clear hb hbox hg;have X:=l.out;have Y:=m.out;obtain⟨E,G⟩:=qc2 c.out;have Z:=Qep c.out;obtain⟨I,J⟩:=qc2 n.out;have aa:=Qep n.out))
   go_ret
   exact⟨by first|rfl |(simp[Qjz,Qka]<;>rfl) |(simp[*,Qjz,Qka]<;>rfl),qq_b⟩
end Go.Proofs.YtnnofopfbeklbaaGreat.C
end
