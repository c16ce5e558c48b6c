/- Merged texts. -/
import Derived.Test.YtepkfjmjidjedaaGreatMB02
set_option linter.unusedVariables false
set_option linter.unusedSimpArgs false
set_option maxHeartbeats 8000000
set_option maxRecDepth 100000
section
namespace Go.Proofs.YtepkfjmjidjedaaGreat.C
open Go.RowKit Go.Proofs.YtepkfjmjidjedaaGreatW.PrintWords Go.Proofs.YtepkfjmjidjedaaGreatW.PrintLast Go.Proofs.YtepkfjmjidjedaaGreatW.PrintMore
attribute [local go_sem] Qhj Qhk Qhl Qhm Qhn Qho Qhp Qhq
def Qbq.f(a0_0:Int)(a0_1:Int)(a1:Int):Option (Int):=(Qal.f a0_0 a0_1).bind fun t119=>(if t119=0 then(if a1≥a0_1 then(some 1)else(some 0))else(some 1))
theorem Qbq.calls(c:Int)(b:Int)(a1:Int)(r:Int)(w:World)(h:Qbq.f c b a1=some r) :
  Calls Tryz.prog 152 #[.agg #[.int .u8 c,.int .u32 b],.int .u32 a1] w fun e w'=>e=.returned (.int .i64 r)∧Below w.heap.size w w':=by
 have hu40:=Tryz.underlying40;have HB:=QA (Below.refl w.heap.size w);have H:((Qal.f c b).bind fun j=>(if j=0 then(if a1≥b then(some 1)else(some 0))else(some 1)))=some r:=h;clear h;replace H:=Option.bind_eq_some_iff.mp H;obtain⟨j,m,H⟩:=H;have A3:=QA m;clear m
 by_cases c4:j=0
 ·rw[if_pos c4]at H;have n:(j == 0)=true:=beq_iff_eq.mpr c4;have p:(j != 0)=false:=bne_eq_false_iff_eq.mpr c4;clear c4
  by_cases c5:a1≥b
  ·rw[if_pos c5]at H;have q:decide (b≤a1)=true:=decide_eq_true c5;clear c5;obtain rfl:=Option.some.inj H
   go_enter Tryz.func152,Tryz.ntmps152
   go_wp2_with (first |((with_reducible refine Qfe (N:=2) rfl ?_);refine qq_e 2 #[.int .u8 c,.int .u32 b] 40 ?_;intro d hg w6 hbox hb;have n_:=qn4 (Qeu qq_b hb) (hbox) (qq_s hg:w.heap.size≤d) (qq_s hg:w.heap.size≤d);clear HB;obtain⟨HB,a,k,l⟩:=n_;clear hb hbox hg;obtain⟨z,A⟩:=qc2 a.out;have J:=Qdm a.out) |((with_reducible refine Qhr (f:=82) rfl ?_);refine Qfz (some 6) rfl rfl Tryz.func82 qq_6 rfl #[.agg #[.int .u8 c,.int .u32 b]] rfl qq_2 ?_;(with_reducible refine(Qal.calls c b j _ A3.out).mono ?_);rintro e w8 ⟨rfl,hb⟩;refine⟨_,rfl,?_⟩;have n_:=qn2 (Qdy (g:=d) (o:=.cells #[.int .u8 c,.int .u32 b] 40 (0,0)) qq_0 hb) (Qeu qq_b hb);clear a HB;obtain⟨a,HB⟩:=n_;(try clear hb);(try clear hb2);(try clear hk);(try clear hi);obtain⟨B,D⟩:=qc2 a.out;have L:=Qdm a.out))
   go_ret
   exact⟨qq_5,qq_b⟩
  ·rw[if_neg c5]at H;have q:decide (b≤a1)=false:=decide_eq_false c5;clear c5;obtain rfl:=Option.some.inj H
   go_enter Tryz.func152,Tryz.ntmps152
   go_wp2_with (first |((with_reducible refine Qfe (N:=2) rfl ?_);refine qq_e 2 #[.int .u8 c,.int .u32 b] 40 ?_;intro d hg M hbox hb;have n_:=qn4 (Qeu qq_b hb) (hbox) (qq_s hg:w.heap.size≤d) (qq_s hg:w.heap.size≤d);clear HB;obtain⟨HB,a,k,l⟩:=n_;clear hb hbox hg;obtain⟨s,t⟩:=qc2 a.out;have E:=Qdm a.out) |((with_reducible refine Qhr (f:=82) rfl ?_);refine Qfz (some 6) rfl rfl Tryz.func82 qq_6 rfl #[.agg #[.int .u8 c,.int .u32 b]] rfl qq_2 ?_;(with_reducible refine(Qal.calls c b j _ A3.out).mono ?_);rintro e O ⟨rfl,hb⟩;refine⟨_,rfl,?_⟩;have n_:=qn2 (Qdy (g:=d) (o:=.cells #[.int .u8 c,.int .u32 b] 40 (0,0)) qq_0 hb) (Qeu qq_b hb);clear a HB;obtain⟨a,HB⟩:=n_;(try clear hb);(try clear hb2);(try clear hk);(try clear hi);obtain⟨u,v⟩:=qc2 a.out;have G:=Qdm a.out))
   go_ret
   exact⟨qq_5,qq_b⟩
 ·rw[if_neg c4]at H;have n:(j == 0)=false:=beq_eq_false_iff_ne.mpr c4;have p:(j != 0)=true:=bne_iff_ne.mpr c4;obtain rfl:=Option.some.inj H
  go_enter Tryz.func152,Tryz.ntmps152
  go_wp2_with (first |((with_reducible refine Qfe (N:=2) rfl ?_);refine qq_e 2 #[.int .u8 c,.int .u32 b] 40 ?_;intro d hg P hbox hb;have n_:=qn4 (Qeu qq_b hb) (hbox) (qq_s hg:w.heap.size≤d) (qq_s hg:w.heap.size≤d);clear HB;obtain⟨HB,a,k,l⟩:=n_;clear hb hbox hg;obtain⟨x,y⟩:=qc2 a.out;have I:=Qdm a.out) |((with_reducible refine Qhr (f:=82) rfl ?_);refine Qfz (some 6) rfl rfl Tryz.func82 qq_6 rfl #[.agg #[.int .u8 c,.int .u32 b]] rfl qq_2 ?_;(with_reducible refine(Qal.calls c b j _ A3.out).mono ?_);rintro e T ⟨rfl,hb⟩;refine⟨_,rfl,?_⟩;have n_:=qn2 (Qdy (g:=d) (o:=.cells #[.int .u8 c,.int .u32 b] 40 (0,0)) qq_0 hb) (Qeu qq_b hb);clear a HB;obtain⟨a,HB⟩:=n_;(try clear hb);(try clear hb2);(try clear hk);(try clear hi)))
  go_ret
  exact⟨qq_5,qq_b⟩
def Qam.f(a0_0:Int)(a0_1:Int):Option (Int):=(Qal.f a0_0 a0_1).bind fun t127=>(if t127=0 then(if 0≤a0_0 then(some (shl .i64 1 a0_0))else(none))else(some 0))
theorem Qam.calls(a:Int)(c:Int)(r:Int)(w:World)(h:Qam.f a c=some r) :
  Calls Tryz.prog 57 #[.agg #[.int .u8 a,.int .u32 c]] w fun e w'=>e=.returned (.int .i64 r)∧Below w.heap.size w w':=by
 have hu40:=Tryz.underlying40;have HB:=QA (Below.refl w.heap.size w);have H:((Qal.f a c).bind fun d=>(if d=0 then(if 0≤a then(some (shl .i64 1 a))else(none))else(some 0)))=some r:=h;clear h;replace H:=Option.bind_eq_some_iff.mp H;obtain⟨d,s,H⟩:=H;have A2:=QA s;clear s
 by_cases c3:d=0
 ·rw[if_pos c3]at H;have t:(d == 0)=true:=beq_iff_eq.mpr c3;have u:(d != 0)=false:=bne_eq_false_iff_eq.mpr c3;clear c3
  by_cases c4:0≤a
  ·rw[if_pos c4]at H;have L:=eq_true c4;have M:=decide_eq_true c4;clear c4;obtain⟨l,k⟩:∃j_:Int,(shl .i64 1 a)=j_:=⟨_,rfl⟩;replace H:(some l)=some r:=by first |(rw[k]at H;exact H) |(simp only[k]at H ⊢;exact H)
   (try rw[k]at A2)
   have m:(IntKind.i64.wrap (1*2^min a.toNat 64))=l:=k;have n:a≤64→(IntKind.i64.wrap (1*2^a.toNat))=l:=Qht k;have D:(IntKind.i64.wrap (2^min a.toNat 64))=l:=by have h_:=m;rw[Int.one_mul]at h_;exact h_
   have E:a≤64→(IntKind.i64.wrap (2^a.toNat))=l:=fun hle_=>by have h_:=n hle_;rw[Int.one_mul]at h_;exact h_
   have G:(wrap64 (1*2^min a.toNat 64))=l:=(Qgb _).symm.trans m;have I:a≤64→(wrap64 (1*2^a.toNat))=l:=fun h_=>(Qgb _).symm.trans (n h_)
   obtain rfl:=Option.some.inj H
   go_enter Tryz.func57,Tryz.ntmps57
   go_wp2_with (first |((with_reducible refine Qfe (N:=1) rfl ?_);refine qq_e 1 #[.int .u8 a,.int .u32 c] 40 ?_;intro j hg w6 hbox hb;have n_:=qn4 (Qeu qq_b hb) (hbox) (qq_s hg:w.heap.size≤j) (qq_s hg:w.heap.size≤j);clear HB;obtain⟨HB,b,p,q⟩:=n_;clear hb hbox hg;obtain⟨y,z⟩:=qc2 b.out;have O:=Qdm b.out) |((with_reducible refine Qhr (f:=82) rfl ?_);refine Qfz (some 4) rfl rfl Tryz.func82 qq_6 rfl #[.agg #[.int .u8 a,.int .u32 c]] rfl qq_2 ?_;(with_reducible refine(Qal.calls a c d _ A2.out).mono ?_);rintro e w8 ⟨rfl,hb⟩;refine⟨_,rfl,?_⟩;have n_:=qn2 (Qdy (g:=j) (o:=.cells #[.int .u8 a,.int .u32 c] 40 (0,0)) qq_0 hb) (Qeu qq_b hb);clear b HB;obtain⟨b,HB⟩:=n_;(try clear hb);(try clear hb2);(try clear hk);(try clear hi);obtain⟨A,B⟩:=qc2 b.out;have P:=Qdm b.out))
   go_ret
   exact⟨by first|rfl |(simp[Qhv,Qhw]<;>rfl) |(simp only[← k];first|rfl |(simp[Qhv,Qhw]<;>rfl)) |(simp[*,Qhv,Qhw]<;>rfl),qq_b⟩
  ·rw[if_neg c4]at H;exact absurd H (by simp)
 ·rw[if_neg c3]at H;have t:(d == 0)=false:=beq_eq_false_iff_ne.mpr c3;have u:(d != 0)=true:=bne_iff_ne.mpr c3;obtain rfl:=Option.some.inj H
  go_enter Tryz.func57,Tryz.ntmps57
  go_wp2_with (first |((with_reducible refine Qfe (N:=1) rfl ?_);refine qq_e 1 #[.int .u8 a,.int .u32 c] 40 ?_;intro j hg T hbox hb;have n_:=qn4 (Qeu qq_b hb) (hbox) (qq_s hg:w.heap.size≤j) (qq_s hg:w.heap.size≤j);clear HB;obtain⟨HB,b,p,q⟩:=n_;clear hb hbox hg;obtain⟨v,x⟩:=qc2 b.out;have J:=Qdm b.out) |((with_reducible refine Qhr (f:=82) rfl ?_);refine Qfz (some 4) rfl rfl Tryz.func82 qq_6 rfl #[.agg #[.int .u8 a,.int .u32 c]] rfl qq_2 ?_;(with_reducible refine(Qal.calls a c d _ A2.out).mono ?_);rintro e U ⟨rfl,hb⟩;refine⟨_,rfl,?_⟩;have n_:=qn2 (Qdy (g:=j) (o:=.cells #[.int .u8 a,.int .u32 c] 40 (0,0)) qq_0 hb) (Qeu qq_b hb);clear b HB;obtain⟨b,HB⟩:=n_;(try clear hb);(try clear hb2);(try clear hk);(try clear hi)))
  go_ret
  exact⟨qq_5,qq_b⟩
def Qbj.f(a0:Int):Option (Int):=some (wrap64 (Int.tdiv (wrap64 ((wrap64 ((mx 0 a0)+16))-1)) 16))
theorem Qbj.calls(a0:Int)(r:Int)(w:World)(h:Qbj.f a0=some r) :
  Calls Tryz.prog 239 #[.int .i64 a0] w fun e w'=>e=.returned (.int .i64 r)∧Below w.heap.size w w':=by
 have HB:=QA (Below.refl w.heap.size w);have H:(some (wrap64 (Int.tdiv (wrap64 ((wrap64 ((mx 0 a0)+16))-1)) 16)))=some r:=h;clear h;obtain⟨ji2,hji2⟩:∃j_:Int,(mx 0 a0)=j_:=⟨_,rfl⟩;replace H:(some (wrap64 (Int.tdiv (wrap64 ((wrap64 ((ji2)+16))-1)) 16)))=some r:=by first |(rw[hji2]at H;exact H) |(simp only[hji2]at H ⊢;exact H)
 (try(have hji2l:0≤ji2:=by(rw[← hji2];unfold mx;(repeat' split)<;>omega)))
 (try(have hji2m:0≤ji2:=by omega))
 have hji2_:(if 0<a0 then a0 else 0)=ji2:=hji2;obtain rfl:=Option.some.inj H
 go_enter Tryz.func239,Tryz.ntmps239
 go_wp2;go_ret
 exact⟨by first|rfl |(simp[Qhv,Qhw]<;>rfl) |(simp only[← hji2];first|rfl |(simp[Qhv,Qhw]<;>rfl)) |(simp[*,Qhv,Qhw]<;>rfl),qq_b⟩
def Qbp.f(a0:Int):Option (Int):=(Qak.f (wrap64 ((mx 0 a0)+8))).bind fun t128=>(some (wrap64 (t128+1)))
theorem Qbp.calls(a0:Int)(r:Int)(w:World)(h:Qbp.f a0=some r) :
  Calls Tryz.prog 285 #[.int .i64 a0] w fun e w'=>e=.returned (.int .i64 r)∧Below w.heap.size w w':=by
 have HB:=QA (Below.refl w.heap.size w);have H:((Qak.f (wrap64 ((mx 0 a0)+8))).bind fun t128=>(some (wrap64 (t128+1))))=some r:=h;clear h;obtain⟨ji2,hji2⟩:∃j_:Int,(mx 0 a0)=j_:=⟨_,rfl⟩;replace H:((Qak.f (wrap64 ((ji2)+8))).bind fun t128=>(some (wrap64 (t128+1))))=some r:=by first |(rw[hji2]at H;exact H) |(simp only[hji2]at H ⊢;exact H)
 (try(have hji2l:0≤ji2:=by(rw[← hji2];unfold mx;(repeat' split)<;>omega)))
 (try(have hji2m:0≤ji2:=by omega))
 have hji2_:(if 0<a0 then a0 else 0)=ji2:=hji2;replace H:=Option.bind_eq_some_iff.mp H;obtain⟨t128,A30,H⟩:=H;have A3:=QA A30;clear A30;obtain rfl:=Option.some.inj H
 go_enter Tryz.func285,Tryz.ntmps285
 go_wp2_with (first |((with_reducible refine Qhr (f:=246) rfl ?_);refine Qfz (some 6) rfl rfl Tryz.func246 qq_6 rfl #[.int .i64 (wrap64 ((ji2)+8))] rfl qq_20 ?_;(with_reducible refine(Qak.calls (wrap64 ((ji2)+8)) t128 _ A3.out).mono ?_);rintro e w' ⟨rfl,⟨nd,rfl⟩⟩;refine⟨_,rfl,?_⟩))
 go_ret
 exact⟨by first|rfl |(simp[Qhv,Qhw]<;>rfl) |(simp only[← hji2];first|rfl |(simp[Qhv,Qhw]<;>rfl)) |(simp[*,Qhv,Qhw]<;>rfl),qq_b⟩
def Qbl.f(a0:Int):Option (Int):=(Qbj.f (mx 0 a0)).bind fun t129=>((Qbp.f (wrap64 ((wrap64 (9+(wrap64 (12*(mx 0 a0)))))+(wrap64 (8*t129))))).bind fun t130=>(some t130))
theorem Qbl.calls(a0:Int)(r:Int)(w:World)(h:Qbl.f a0=some r) :
  Calls Tryz.prog 247 #[.int .i64 a0] w fun e w'=>e=.returned (.int .i64 r)∧Below w.heap.size w w':=by
 have HB:=QA (Below.refl w.heap.size w);have H:((Qbj.f (mx 0 a0)).bind fun a=>((Qbp.f (wrap64 ((wrap64 (9+(wrap64 (12*(mx 0 a0)))))+(wrap64 (8*a))))).bind fun c=>(some c)))=some r:=h;clear h;obtain⟨b,hji2⟩:∃j_:Int,(mx 0 a0)=j_:=⟨_,rfl⟩;replace H:((Qbj.f (b)).bind fun a=>((Qbp.f (wrap64 ((wrap64 (9+(wrap64 (12*(b)))))+(wrap64 (8*a))))).bind fun c=>(some c)))=some r:=by first |(rw[hji2]at H;exact H) |(simp only[hji2]at H ⊢;exact H)
 (try(have j:0≤b:=by(rw[← hji2];unfold mx;(repeat' split)<;>omega)))
 (try(have k:0≤b:=by omega))
 have l:(if 0<a0 then a0 else 0)=b:=hji2;replace H:=Option.bind_eq_some_iff.mp H;obtain⟨a,d,H⟩:=H;have A3:=QA d;clear d;replace H:=Option.bind_eq_some_iff.mp H;obtain⟨c,g,H⟩:=H;have A4:=QA g;clear g;obtain rfl:=Option.some.inj H
 go_enter Tryz.func247,Tryz.ntmps247
 go_wp2_with (first |((with_reducible refine Qhr (f:=239) rfl ?_);refine Qfz (some 9) rfl rfl Tryz.func239 qq_6 rfl #[.int .i64 b] rfl qq_20 ?_;(with_reducible refine(Qbj.calls b a _ A3.out).mono ?_);rintro e w5 ⟨rfl,hb⟩;refine⟨_,rfl,?_⟩;have n_:=qn1 (Qeu qq_b hb);clear HB;have HB:=n_;clear n_;(try clear hb);(try clear hb2);(try clear hk);(try clear hi)) |((with_reducible refine Qhr (f:=285) rfl ?_);refine Qfz (some 12) rfl rfl Tryz.func285 qq_6 rfl #[.int .i64 (wrap64 ((wrap64 (9+(wrap64 (12*(b)))))+(wrap64 (8*a))))] rfl qq_20 ?_;(with_reducible refine(Qbp.calls (wrap64 ((wrap64 (9+(wrap64 (12*(b)))))+(wrap64 (8*a)))) c _ A4.out).mono ?_);rintro e w6 ⟨rfl,hb⟩;refine⟨_,rfl,?_⟩;have n_:=qn1 (Qeu qq_b hb);clear HB;have HB:=n_;clear n_;(try clear hb);(try clear hb2);(try clear hk);(try clear hi)))
 go_ret
 exact⟨by first|rfl |(simp[Qhv,Qhw]<;>rfl) |(simp only[← hji2];first|rfl |(simp[Qhv,Qhw]<;>rfl)) |(simp[*,Qhv,Qhw]<;>rfl),qq_b⟩
def Qbz.f(a0_0:Int)(a0_1:Int)(a0_2:Int)(a0_3:Int)(a0_4:Int):Option (Int):=(Qam.f a0_0 a0_1).bind fun t132=>((Qbl.f (wrap64 (a0_4+1))).bind fun t133=>(some (mx 0 (wrap64 ((wrap64 (t132-a0_3))-t133)))))
def Qbz.T1:Bool × List (List Nat × List Nat):=(true,[([],[]),([0],[0]),([1],[1]),([],[]),([3],[3]),([2,4],[2,4]),([],[]),([6],[6]),([7],[7]),([8,2],[8]),([5,9],[5,9]),([10],[10]),([11,9,0,1,2,3,4,5,6,7,8,9,10,11],[11])])
def Qbz.B1:List Nat:=[0,1,3,0,8,31,0,64,192,455,1023,2047,4095]
theorem Qbz.tab1:rtab .any (Qhf Tryz.f198 1)=Qbz.T1:=by kernel_rfl
theorem Qbz.bits1:Qgz Qbz.T1.2 Qbz.B1=true:=by kernel_rfl
theorem Qbz.calls(d:Int)(j:Int)(p:Int)(c:Int)(k:Int)(r:Int)(w:World)(h:Qbz.f d j p c k=some r) :
  Calls Tryz.prog 198 #[.agg #[.int .u8 d,.int .u32 j,.int .u32 p,.int .i64 c,.int .i64 k]] w fun e w'=>e=.returned (.int .i64 r)∧Below w.heap.size w w':=by
 have hu125:=Tryz.underlying125;have hu40:=Tryz.underlying40;have HB:=QA (Below.refl w.heap.size w);have H:((Qam.f d j).bind fun q=>((Qbl.f (wrap64 (k+1))).bind fun s=>(some (mx 0 (wrap64 ((wrap64 (q-c))-s))))))=some r:=h;clear h;replace H:=Option.bind_eq_some_iff.mp H;obtain⟨q,u,H⟩:=H;have A2:=QA u;clear u;replace H:=Option.bind_eq_some_iff.mp H;obtain⟨s,v,H⟩:=H;have A3:=QA v;clear v;obtain⟨t,m⟩:∃j_:Int,(mx 0 (wrap64 ((wrap64 (q-c))-s)))=j_:=⟨_,rfl⟩;replace H:(some t)=some r:=by first |(rw[m]at H;exact H) |(simp only[m]at H ⊢;exact H)
 (try rw[m]at A2)
 (try rw[m]at A3)
 (try(have x:0≤t:=by(rw[← m];unfold mx;(repeat' split)<;>omega)))
 (try(have y:0≤t:=by omega))
 have z:(if 0<(wrap64 ((wrap64 (q-c))-s))then(wrap64 ((wrap64 (q-c))-s))else 0)=t:=m;obtain rfl:=Option.some.inj H
 go_enter Tryz.func198,Tryz.ntmps198
 try go_wp2_with (first |((with_reducible refine Qfe (N:=1) rfl ?_);refine qq_e 1 #[.int .u8 d,.int .u32 j,.int .u32 p,.int .i64 c,.int .i64 k] 125 ?_;intro b hg w5 hbox hb;have n_:=qn4 (Qeu qq_b hb) (hbox) (qq_s hg:w.heap.size≤b) (qq_s hg:w.heap.size≤b);clear HB;obtain⟨HB,a,A,B⟩:=n_;clear hb hbox hg))
 have n_:=qn2 (Qdw a.out) (Qfb HB.out);clear a HB;obtain⟨a,HB⟩:=n_;refine Qfp (n:=13) (S:=fun w'=>w'.cell? ⟨b,0,none⟩=some (.int .u8 d)∧w'.cell? ⟨b,1,none⟩=some (.int .u32 j)∧w'.cell? ⟨b,2,none⟩=some (.int .u32 p)∧w'.cell? ⟨b,3,none⟩=some (.int .i64 c)∧w'.cell? ⟨b,4,none⟩=some (.int .i64 k)) (ds:=[]) (bm 13 0) qq_6 rfl rfl ⟨(Qdl a.out 0).trans rfl,(Qdl a.out 1).trans rfl,(Qdl a.out 2).trans rfl,(Qdl a.out 3).trans rfl,(Qdl a.out 4).trans rfl⟩ (fun l=>?_);refine Qhd Qbz.tab1 Qbz.bits1 (fun HT_ HW_=>?_);generalize w5.drew=w6 at a HB l ⊢;refine pz_ (i:=0) (N:=some 3) (bm 13 1) (Qgw HT_.out qq_6) ?_;refine pz_ (i:=3) (N:=some 6) (bm 13 9) (Qgw HT_.out qq_6) ?_;refine pz_ (i:=6) (N:=some 9) (bm 13 73) (Qgw HT_.out qq_6) ?_;refine tz_ (i:=1) (N:=some 4) (bm 13 75) (Qhc HT_.out HW_.out qq_6) l ?_;refine tz_ (i:=4) (N:=some 7) (bm 13 91) (Qhc HT_.out HW_.out qq_6) l ?_;refine tz_ (i:=7) (N:=some 10) (bm 13 219) (Qhc HT_.out HW_.out qq_6) l ?_;refine pz_ (i:=8) (N:=some 11) (bm 13 475) (Qgw HT_.out qq_6) ?_;refine one_ (i:=2) (N:=some 5) (bm 13 479) rfl rfl (Qgx HT_.out qq_6) (by decide) (fun K hK=>?_);refine Qfy Tryz.func57 qq_6 rfl #[.agg #[.int .u8 d,.int .u32 j]] (by rfl) rfl rfl qq_2 ?_;with_reducible refine(Qam.calls d j q _ A2.out).mono ?_
 rintro e w7 ⟨rfl,hb⟩;refine⟨_,rfl,?_⟩;have n_:=qn2 (Qdy (g:=b) (o:=.cells #[.int .u8 d,.int .u32 j,.int .u32 p,.int .i64 c,.int .i64 k] 125 (0,0)) qq_0 hb) (Qeu qq_b hb);clear a HB;obtain⟨a,HB⟩:=n_
 (try clear hb)
 (try clear hb2)
 (try clear hk)
 (try clear hi)
 refine hK.out _ _ ⟨(Qdl a.out 0).trans rfl,(Qdl a.out 1).trans rfl,(Qdl a.out 2).trans rfl,(Qdl a.out 3).trans rfl,(Qdl a.out 4).trans rfl⟩ (fun l=>?_);clear hK K;refine nzp_ 5 ?_;refine pz_ (i:=5) (N:=some 8) (bm 13 511) (Qgw HT_.out qq_6) ?_;refine one_ (i:=9) (N:=some 12) (bm 13 1023) rfl rfl (Qgx HT_.out qq_6) (by decide) (fun K hK=>?_);refine Qfy Tryz.func247 qq_6 rfl #[.int .i64 (wrap64 (k+1))] (by rfl) rfl rfl qq_2 ?_;with_reducible refine(Qbl.calls (wrap64 (k+1)) s _ A3.out).mono ?_
 rintro e w8 ⟨rfl,hb⟩;refine⟨_,rfl,?_⟩;have n_:=qn2 (Qdy (g:=b) (o:=.cells #[.int .u8 d,.int .u32 j,.int .u32 p,.int .i64 c,.int .i64 k] 125 (0,0)) qq_0 hb) (Qeu qq_b hb);clear a HB;obtain⟨a,HB⟩:=n_
 (try clear hb)
 (try clear hb2)
 (try clear hk)
 (try clear hi)
 refine hK.out _ _ ⟨(Qdl a.out 0).trans rfl,(Qdl a.out 1).trans rfl,(Qdl a.out 2).trans rfl,(Qdl a.out 3).trans rfl,(Qdl a.out 4).trans rfl⟩ (fun l=>?_);clear hK K;refine nzp_ 12 ?_;refine pz_ (i:=10) (N:=some 13) (bm 13 2047) (Qgw HT_.out qq_6) ?_;refine pz_ (i:=11) (N:=some 14) (bm 13 4095) (Qgw HT_.out qq_6) ?_;refine pz_ (i:=12) (N:=some 2) (bm 13 8191) (Qgw HT_.out qq_6) ?_;refine Qfs (Qgy HT_.out qq_6) ?_
 try go_wp2
 go_ret
 exact⟨by first|rfl |(simp[Qhv,Qhw]<;>rfl) |(simp only[← m];first|rfl |(simp[Qhv,Qhw]<;>rfl)) |(simp[*,Qhv,Qhw]<;>rfl),qq_b⟩
def Qby.f(a0_0:Int)(a0_1:Int)(a0_2:Int)(a0_3:Int)(a0_4:Int)(a1:Int):Option (Bool):=if a1≥1 then((Qbz.f a0_0 a0_1 a0_2 a0_3 a0_4).bind fun t135=>(some (decide (a1≤t135))))else(some false)
theorem Qby.calls(b:Int)(c:Int)(d:Int)(j:Int)(k:Int)(a1:Int)(r:Bool)(w:World)(h:Qby.f b c d j k a1=some r) :
  Calls Tryz.prog 139 #[.agg #[.int .u8 b,.int .u32 c,.int .u32 d,.int .i64 j,.int .i64 k],.int .i64 a1] w fun e w'=>e=.returned (.bool r)∧Below w.heap.size w w':=by
 have hu125:=Tryz.underlying125;have HB:=QA (Below.refl w.heap.size w);have H:(if a1≥1 then((Qbz.f b c d j k).bind fun m=>(some (decide (a1≤m))))else(some false))=some r:=h;clear h
 by_cases c3:a1≥1
 ·rw[if_pos c3]at H;have s:decide (1≤a1)=true:=decide_eq_true c3;clear c3;replace H:=Option.bind_eq_some_iff.mp H;obtain⟨m,q,H⟩:=H;have A4:=QA q;clear q;obtain rfl:=Option.some.inj H
  go_enter Tryz.func139,Tryz.ntmps139
  go_wp2_with (first |((with_reducible refine Qfe (N:=2) rfl ?_);refine qq_e 2 #[.int .u8 b,.int .u32 c,.int .u32 d,.int .i64 j,.int .i64 k] 125 ?_;intro a hg w5 hbox hb;have n_:=qn4 (Qeu qq_b hb) (hbox) (qq_s hg:w.heap.size≤a) (qq_s hg:w.heap.size≤a);clear HB;obtain⟨HB,l,n,p⟩:=n_;clear hb hbox hg;obtain⟨t,u,v,x,y⟩:=qc5 l.out;have z:=Qdm l.out) |(go_at_call 198;(with_reducible refine(Qbz.calls b c d j k m _ A4.out).mono ?_);rintro e w7 ⟨rfl,hb⟩;have n_:=qn2 (Qdy (g:=a) (o:=.cells #[.int .u8 b,.int .u32 c,.int .u32 d,.int .i64 j,.int .i64 k] 125 (0,0)) qq_0 hb) (Qeu qq_b hb);clear l HB;obtain⟨l,HB⟩:=n_;(try clear hb);(try clear hb2);(try clear hk);(try clear hi)))
  go_ret
  exact⟨qq_5,qq_b⟩
 ·rw[if_neg c3]at H;have s:decide (1≤a1)=false:=decide_eq_false c3;clear c3;obtain rfl:=Option.some.inj H
  go_enter Tryz.func139,Tryz.ntmps139
  go_wp2_with (first |((with_reducible refine Qfe (N:=2) rfl ?_);refine qq_e 2 #[.int .u8 b,.int .u32 c,.int .u32 d,.int .i64 j,.int .i64 k] 125 ?_;intro a hg w8 hbox hb;have n_:=qn4 (Qeu qq_b hb) (hbox) (qq_s hg:w.heap.size≤a) (qq_s hg:w.heap.size≤a);clear HB;obtain⟨HB,l,n,p⟩:=n_;clear hb hbox hg))
  go_ret
  exact⟨qq_5,qq_b⟩
def Qca.f(a0_0:Int)(a0_1:Int)(a0_2:Int)(a0_3:Int)(a0_4:Int)(a1:Int):Option (Int × Int × Int × Int × Int × Int):=(Qby.f a0_0 a0_1 a0_2 a0_3 a0_4 a1).bind fun t138=>(if t138=true then(some (a0_0,a0_1,a0_2,wrap64 (a0_3+a1),wrap64 (a0_4+1),0))else(some (0,0,0,0,0,7)))
theorem Qca.calls(a:Int)(b:Int)(d:Int)(j:Int)(k:Int)(a1:Int)(r1:Int)(r2:Int)(r3:Int)(r4:Int)(r5:Int)(r6:Int)(w:World)(h:Qca.f a b d j k a1=some (r1,r2,r3,r4,r5,r6)) :
  Calls Tryz.prog 93 #[.agg #[.int .u8 a,.int .u32 b,.int .u32 d,.int .i64 j,.int .i64 k],.int .i64 a1] w fun e w'=>e=.returned (.tuple #[.agg #[.int .u8 r1,.int .u32 r2,.int .u32 r3,.int .i64 r4,.int .i64 r5],.int .i64 r6])∧Below w.heap.size w w':=by
 have hu125:=Tryz.underlying125;have HB:=QA (Below.refl w.heap.size w);have H:((Qby.f a b d j k a1).bind fun r=>(if r=true then(some (a,b,d,wrap64 (j+a1),wrap64 (k+1),0))else(some (0,0,0,0,0,7))))=some (r1,r2,r3,r4,r5,r6):=h;clear h;replace H:=Option.bind_eq_some_iff.mp H;obtain⟨r,x,H⟩:=H;have A3:=QA x;clear x
 by_cases c4:r=true
 ·subst c4;rw[if_pos rfl]at H;simp only[Option.some.injEq,Prod.mk.injEq]at H;obtain⟨rfl,rfl,rfl,rfl,rfl,rfl⟩:=H
  go_enter Tryz.func93,Tryz.ntmps93
  go_wp2_with (first |((with_reducible refine Qfe (N:=2) rfl ?_);refine qq_e 2 #[.int .u8 a,.int .u32 b,.int .u32 d,.int .i64 j,.int .i64 k] 125 ?_;intro c hg w5 hbox hb;have n_:=qn4 (Qeu qq_b hb) (hbox) (qq_s hg:w.heap.size≤c) (qq_s hg:w.heap.size≤c);clear HB;obtain⟨HB,l,s,t⟩:=n_;clear hb hbox hg) |((with_reducible refine Qfe (N:=4) rfl ?_);refine qq_e 4 #[.int .u8 0,.int .u32 0,.int .u32 0,.int .i64 0,.int .i64 0] 125 ?_;intro m hg w6 hbox hb;have n_:=qn7 (Qdy (g:=c) (o:=.cells #[.int .u8 a,.int .u32 b,.int .u32 d,.int .i64 j,.int .i64 k] 125 (0,0)) qq_0 hb) (Qeu qq_b hb) (hbox) (qq_s hg:w.heap.size≤m) (qq_s hg:w.heap.size≤m) ((by rw[hg];exact Nat.ne_of_lt (Qdk (g:=c) (o:=.cells #[.int .u8 a,.int .u32 b,.int .u32 d,.int .i64 j,.int .i64 k] 125 (0,0)) qq_0):c≠m)) ((by rw[hg];exact Nat.ne_of_gt (Qdk (g:=c) (o:=.cells #[.int .u8 a,.int .u32 b,.int .u32 d,.int .i64 j,.int .i64 k] 125 (0,0)) qq_0):m≠c));clear l HB;obtain⟨l,HB,n,u,v,q,p⟩:=n_;clear hb hbox hg;have am:=q.out;have an:=p.out;obtain⟨ab,ac,ad,ae,af⟩:=qc5 l.out;have ao:=Qdm l.out) |((with_reducible refine Qhr (f:=139) rfl ?_);refine Qfz (some 8) rfl rfl Tryz.func139 qq_6 rfl #[.agg #[.int .u8 a,.int .u32 b,.int .u32 d,.int .i64 j,.int .i64 k],.int .i64 a1] rfl qq_2 ?_;(with_reducible refine(Qby.calls a b d j k a1 true _ A3.out).mono ?_);rintro e w9 ⟨rfl,hb⟩;refine⟨_,rfl,?_⟩;have n_:=qn3 (Qdy (g:=c) (o:=.cells #[.int .u8 a,.int .u32 b,.int .u32 d,.int .i64 j,.int .i64 k] 125 (0,0)) qq_0 hb) (Qdy (g:=m) (o:=.cells #[.int .u8 0,.int .u32 0,.int .u32 0,.int .i64 0,.int .i64 0] 125 (0,0)) qq_0 hb) (Qeu qq_b hb);clear l n HB;obtain⟨l,n,HB⟩:=n_;(try clear hb);(try clear hb2);(try clear hk);(try clear hi);obtain⟨y,z,A,B,D⟩:=qc5 l.out;have ag:=Qdm l.out;obtain⟨E,G,I,J,L⟩:=qc5 n.out;have ah:=Qdm n.out))
  refine bodyPost_ret (Qea rfl _ _ m 125 #[.int .u8 a,.int .u32 b,.int .u32 d,.int .i64 (wrap64 (j+a1)),.int .i64 (wrap64 (k+1))] (0,0) _ rfl (by(with_reducible repeat(first|apply Qdx|apply Qdw|apply Qdv));refine Qfa (cs:=#[.int .u8 a,.int .u32 b,.int .u32 d,.int .i64 (wrap64 (j+a1)),.int .i64 0]) ?_ 4 _ rfl;(with_reducible repeat(first|apply Qdx|apply Qdw|apply Qdv));refine Qfa (cs:=#[.int .u8 a,.int .u32 b,.int .u32 d,.int .i64 0,.int .i64 0]) ?_ 3 _ rfl;(with_reducible repeat(first|apply Qdx|apply Qdw|apply Qdv));refine Qfa (cs:=#[.int .u8 a,.int .u32 b,.int .u32 0,.int .i64 0,.int .i64 0]) ?_ 2 _ rfl;(with_reducible repeat(first|apply Qdx|apply Qdw|apply Qdv));refine Qfa (cs:=#[.int .u8 a,.int .u32 0,.int .u32 0,.int .i64 0,.int .i64 0]) ?_ 1 _ rfl;(with_reducible repeat(first|apply Qdx|apply Qdw|apply Qdv));refine Qfa (cs:=#[.int .u8 0,.int .u32 0,.int .u32 0,.int .i64 0,.int .i64 0]) ?_ 0 _ rfl;(with_reducible repeat(first|apply Qdx|apply Qdw|apply Qdv));refine Qdj ?_ p.out _;(with_reducible repeat(first|apply Qdx|apply Qdw|apply Qdv));refine Qdj ?_ p.out _;(with_reducible repeat(first|apply Qdx|apply Qdw|apply Qdv));exact n.out) Tryz.underlying125 rfl qq_6) rfl ?_;exact⟨qq_5,qq_b⟩
 ·replace c4:=Bool.eq_false_iff.mpr c4;subst c4;rw[if_neg (show ¬(false=true)by decide)]at H;simp only[Option.some.injEq,Prod.mk.injEq]at H;obtain⟨rfl,rfl,rfl,rfl,rfl,rfl⟩:=H
  go_enter Tryz.func93,Tryz.ntmps93
  go_wp2_with (first |((with_reducible refine Qfe (N:=2) rfl ?_);refine qq_e 2 #[.int .u8 a,.int .u32 b,.int .u32 d,.int .i64 j,.int .i64 k] 125 ?_;intro c hg ap hbox hb;have n_:=qn4 (Qeu qq_b hb) (hbox) (qq_s hg:w.heap.size≤c) (qq_s hg:w.heap.size≤c);clear HB;obtain⟨HB,l,s,t⟩:=n_;clear hb hbox hg) |((with_reducible refine Qfe (N:=4) rfl ?_);refine qq_e 4 #[.int .u8 0,.int .u32 0,.int .u32 0,.int .i64 0,.int .i64 0] 125 ?_;intro m hg aq hbox hb;have n_:=qn7 (Qdy (g:=c) (o:=.cells #[.int .u8 a,.int .u32 b,.int .u32 d,.int .i64 j,.int .i64 k] 125 (0,0)) qq_0 hb) (Qeu qq_b hb) (hbox) (qq_s hg:w.heap.size≤m) (qq_s hg:w.heap.size≤m) ((by rw[hg];exact Nat.ne_of_lt (Qdk (g:=c) (o:=.cells #[.int .u8 a,.int .u32 b,.int .u32 d,.int .i64 j,.int .i64 k] 125 (0,0)) qq_0):c≠m)) ((by rw[hg];exact Nat.ne_of_gt (Qdk (g:=c) (o:=.cells #[.int .u8 a,.int .u32 b,.int .u32 d,.int .i64 j,.int .i64 k] 125 (0,0)) qq_0):m≠c));clear l HB;obtain⟨l,HB,n,u,v,q,p⟩:=n_;clear hb hbox hg;have ai:=q.out;have aj:=p.out;obtain⟨M,O,P,T,U⟩:=qc5 l.out;have ak:=Qdm l.out) |((with_reducible refine Qhr (f:=139) rfl ?_);refine Qfz (some 8) rfl rfl Tryz.func139 qq_6 rfl #[.agg #[.int .u8 a,.int .u32 b,.int .u32 d,.int .i64 j,.int .i64 k],.int .i64 a1] rfl qq_2 ?_;(with_reducible refine(Qby.calls a b d j k a1 false _ A3.out).mono ?_);rintro e ar ⟨rfl,hb⟩;refine⟨_,rfl,?_⟩;have n_:=qn3 (Qdy (g:=c) (o:=.cells #[.int .u8 a,.int .u32 b,.int .u32 d,.int .i64 j,.int .i64 k] 125 (0,0)) qq_0 hb) (Qdy (g:=m) (o:=.cells #[.int .u8 0,.int .u32 0,.int .u32 0,.int .i64 0,.int .i64 0] 125 (0,0)) qq_0 hb) (Qeu qq_b hb);clear l n HB;obtain⟨l,n,HB⟩:=n_;(try clear hb);(try clear hb2);(try clear hk);(try clear hi);obtain⟨W,X,Y,Z,aa⟩:=qc5 n.out;have al:=Qdm n.out))
  refine bodyPost_ret (Qea rfl _ _ m 125 #[.int .u8 0,.int .u32 0,.int .u32 0,.int .i64 0,.int .i64 0] (0,0) _ rfl qq_x Tryz.underlying125 rfl qq_6) rfl ?_;exact⟨qq_5,qq_b⟩
def Qab.f(a0:Int)(a1:Int):Option (Int × Int):=some (IntKind.u64.wrap ((IntKind.u64.wrap ((IntKind.u64.wrap ((a0/4294967296)*(a1/4294967296)))+((IntKind.u64.wrap ((IntKind.u64.wrap ((a0/4294967296)*(Go.bits .and .u64 a1 4294967295)))+((IntKind.u64.wrap ((Go.bits .and .u64 a0 4294967295)*(Go.bits .and .u64 a1 4294967295)))/4294967296)))/4294967296)))+((IntKind.u64.wrap ((Go.bits .and .u64 (IntKind.u64.wrap ((IntKind.u64.wrap ((a0/4294967296)*(Go.bits .and .u64 a1 4294967295)))+((IntKind.u64.wrap ((Go.bits .and .u64 a0 4294967295)*(Go.bits .and .u64 a1 4294967295)))/4294967296))) 4294967295)+(IntKind.u64.wrap ((Go.bits .and .u64 a0 4294967295)*(a1/4294967296)))))/4294967296)),IntKind.u64.wrap (a0*a1))
theorem Qab.calls(a0:Int)(a1:Int)(r1:Int)(r2:Int)(w:World)(h:Qab.f a0 a1=some (r1,r2)) :
  Calls Tryz.prog 262 #[.int .u64 a0,.int .u64 a1] w fun e w'=>e=.returned (.tuple #[.int .u64 r1,.int .u64 r2])∧Drawn0 w w':=by
 have H:(some (IntKind.u64.wrap ((IntKind.u64.wrap ((IntKind.u64.wrap ((a0/4294967296)*(a1/4294967296)))+((IntKind.u64.wrap ((IntKind.u64.wrap ((a0/4294967296)*(Go.bits .and .u64 a1 4294967295)))+((IntKind.u64.wrap ((Go.bits .and .u64 a0 4294967295)*(Go.bits .and .u64 a1 4294967295)))/4294967296)))/4294967296)))+((IntKind.u64.wrap ((Go.bits .and .u64 (IntKind.u64.wrap ((IntKind.u64.wrap ((a0/4294967296)*(Go.bits .and .u64 a1 4294967295)))+((IntKind.u64.wrap ((Go.bits .and .u64 a0 4294967295)*(Go.bits .and .u64 a1 4294967295)))/4294967296))) 4294967295)+(IntKind.u64.wrap ((Go.bits .and .u64 a0 4294967295)*(a1/4294967296)))))/4294967296)),IntKind.u64.wrap (a0*a1)))=some (r1,r2):=h;clear h;simp only[Option.some.injEq,Prod.mk.injEq]at H;obtain⟨rfl,rfl⟩:=H
 go_enter Tryz.func262,Tryz.ntmps262
 go_wp2
 go_ret2
 exact⟨by first|rfl |(simp;done) |(simp[*];done),by repeat(first|exact Drawn0.refl _|apply Drawn0.step)⟩
def Qaa.f(a0:Int)(a1:Int):Option (Int × Int):=(Qab.f a0 a1).bind fun bt224=>(some (bt224.1,bt224.2))
theorem Qaa.calls(a0:Int)(a1:Int)(r1:Int)(r2:Int)(w:World)(h:Qaa.f a0 a1=some (r1,r2)) :
  Calls Tryz.prog 208 #[.int .u64 a0,.int .u64 a1] w fun e w'=>e=.returned (.tuple #[.int .u64 r1,.int .u64 r2])∧Drawn0 w w':=by
 have H:((Qab.f a0 a1).bind fun bt224=>(some (bt224.1,bt224.2)))=some (r1,r2):=h;clear h;replace H:=Option.bind_eq_some_iff.mp H;obtain⟨⟨t224,t225⟩,A30,H⟩:=H;replace H:(some (t224,t225))=some (r1,r2):=H;have A3:=QA A30;clear A30;simp only[Option.some.injEq,Prod.mk.injEq]at H;obtain⟨rfl,rfl⟩:=H
 go_enter Tryz.func208,Tryz.ntmps208
 go_wp2_with (first |((with_reducible refine Qhr (f:=262) rfl ?_);refine Qfz (some 25) rfl rfl Tryz.func262 qq_6 rfl #[.int .u64 a0,.int .u64 a1] rfl qq_2 ?_;(with_reducible refine(Qab.calls a0 a1 t224 t225 _ A3.out).mono ?_);rintro e w' ⟨rfl,⟨nd,rfl⟩⟩;refine⟨_,rfl,?_⟩))
 go_ret2
 exact⟨by first|rfl |(simp;done) |(simp[*];done),by repeat(first|exact Drawn0.refl _|apply Drawn0.step)⟩
def Qai.f(a0:Int):Option (Bool):=some (a0 != a0)
theorem Qai.calls(a0:Int)(r:Bool)(w:World)(h:Qai.f a0=some r) :
  Calls Tryz.prog 260 #[.int .u32 a0] w fun e w'=>e=.returned (.bool r)∧Drawn0 w w':=by
 have H:(some (a0 != a0))=some r:=h;clear h;obtain rfl:=Option.some.inj H
 go_enter Tryz.func260,Tryz.ntmps260
 go_wp2;go_ret
 exact⟨by first|rfl |(simp;done) |(simp[*];done),by repeat(first|exact Drawn0.refl _|apply Drawn0.step)⟩
def Qaf.f(a0:Int)(a1:Int):Option (Int):=(Qai.f a0).bind fun t209=>((Qai.f a1).bind fun t210=>(if t209=true then(if t210=true then(some 0)else(some (-1)))else(if t210=true then(some 1)else(if a0<a1 then(some (-1))else(if a0 > a1 then(some 1)else(some 0))))))
theorem Qaf.calls(a0:Int)(a1:Int)(r:Int)(w:World)(h:Qaf.f a0 a1=some r) :
  Calls Tryz.prog 207 #[.int .u32 a0,.int .u32 a1] w fun e w'=>e=.returned (.int .i64 r)∧Drawn0 w w':=by
 have H:((Qai.f a0).bind fun b=>((Qai.f a1).bind fun a=>(if b=true then(if a=true then(some 0)else(some (-1)))else(if a=true then(some 1)else(if a0<a1 then(some (-1))else(if a0 > a1 then(some 1)else(some 0)))))))=some r:=h;clear h;replace H:=Option.bind_eq_some_iff.mp H;obtain⟨b,c,H⟩:=H;have A3:=QA c;clear c;replace H:=Option.bind_eq_some_iff.mp H;obtain⟨a,d,H⟩:=H;have A4:=QA d;clear d
 by_cases c5:b=true
 ·subst c5;rw[if_pos rfl]at H
  by_cases c6:a=true
  ·subst c6;rw[if_pos rfl]at H;obtain rfl:=Option.some.inj H
   go_enter Tryz.func207,Tryz.ntmps207
   go_wp2_with (first |((with_reducible refine Qhr (f:=260) rfl ?_);refine Qfz (some 8) rfl rfl Tryz.func260 qq_6 rfl #[.int .u32 a0] rfl qq_2 ?_;(with_reducible refine(Qai.calls a0 true _ A3.out).mono ?_);rintro e w' ⟨rfl,⟨nd,rfl⟩⟩;refine⟨_,rfl,?_⟩) |((with_reducible refine Qhr (f:=260) rfl ?_);refine Qfz (some 10) rfl rfl Tryz.func260 qq_6 rfl #[.int .u32 a1] rfl qq_2 ?_;(with_reducible refine(Qai.calls a1 true _ A4.out).mono ?_);rintro e w' ⟨rfl,⟨nd,rfl⟩⟩;refine⟨_,rfl,?_⟩))
   go_ret
   exact⟨by first|rfl |(simp;done) |(simp[*];done),by repeat(first|exact Drawn0.refl _|apply Drawn0.step)⟩
  ·replace c6:=Bool.eq_false_iff.mpr c6;subst c6;rw[if_neg (show ¬(false=true)by decide)]at H;obtain rfl:=Option.some.inj H
   go_enter Tryz.func207,Tryz.ntmps207
   go_wp2_with (first |((with_reducible refine Qhr (f:=260) rfl ?_);refine Qfz (some 8) rfl rfl Tryz.func260 qq_6 rfl #[.int .u32 a0] rfl qq_2 ?_;(with_reducible refine(Qai.calls a0 true _ A3.out).mono ?_);rintro e w' ⟨rfl,⟨nd,rfl⟩⟩;refine⟨_,rfl,?_⟩) |((with_reducible refine Qhr (f:=260) rfl ?_);refine Qfz (some 10) rfl rfl Tryz.func260 qq_6 rfl #[.int .u32 a1] rfl qq_2 ?_;(with_reducible refine(Qai.calls a1 false _ A4.out).mono ?_);rintro e w' ⟨rfl,⟨nd,rfl⟩⟩;refine⟨_,rfl,?_⟩))
   go_ret
   exact⟨by first|rfl |(simp;done) |(simp[*];done),by repeat(first|exact Drawn0.refl _|apply Drawn0.step)⟩
 ·replace c5:=Bool.eq_false_iff.mpr c5;subst c5;rw[if_neg (show ¬(false=true)by decide)]at H
  by_cases c7:a=true
  ·subst c7;rw[if_pos rfl]at H;obtain rfl:=Option.some.inj H
   go_enter Tryz.func207,Tryz.ntmps207
   go_wp2_with (first |((with_reducible refine Qhr (f:=260) rfl ?_);refine Qfz (some 8) rfl rfl Tryz.func260 qq_6 rfl #[.int .u32 a0] rfl qq_2 ?_;(with_reducible refine(Qai.calls a0 false _ A3.out).mono ?_);rintro e w' ⟨rfl,⟨nd,rfl⟩⟩;refine⟨_,rfl,?_⟩) |((with_reducible refine Qhr (f:=260) rfl ?_);refine Qfz (some 10) rfl rfl Tryz.func260 qq_6 rfl #[.int .u32 a1] rfl qq_2 ?_;(with_reducible refine(Qai.calls a1 true _ A4.out).mono ?_);rintro e w' ⟨rfl,⟨nd,rfl⟩⟩;refine⟨_,rfl,?_⟩))
   go_ret
   exact⟨by first|rfl |(simp;done) |(simp[*];done),by repeat(first|exact Drawn0.refl _|apply Drawn0.step)⟩
  ·replace c7:=Bool.eq_false_iff.mpr c7;subst c7;rw[if_neg (show ¬(false=true)by decide)]at H
   by_cases c8:a0<a1
   ·rw[if_pos c8]at H;have g:=decide_eq_true c8;clear c8;obtain rfl:=Option.some.inj H
    go_enter Tryz.func207,Tryz.ntmps207
    go_wp2_with (first |((with_reducible refine Qhr (f:=260) rfl ?_);refine Qfz (some 8) rfl rfl Tryz.func260 qq_6 rfl #[.int .u32 a0] rfl qq_2 ?_;(with_reducible refine(Qai.calls a0 false _ A3.out).mono ?_);rintro e w' ⟨rfl,⟨nd,rfl⟩⟩;refine⟨_,rfl,?_⟩) |((with_reducible refine Qhr (f:=260) rfl ?_);refine Qfz (some 10) rfl rfl Tryz.func260 qq_6 rfl #[.int .u32 a1] rfl qq_2 ?_;(with_reducible refine(Qai.calls a1 false _ A4.out).mono ?_);rintro e w' ⟨rfl,⟨nd,rfl⟩⟩;refine⟨_,rfl,?_⟩))
    go_ret
    exact⟨by first|rfl |(simp;done) |(simp[*];done),by repeat(first|exact Drawn0.refl _|apply Drawn0.step)⟩
   ·rw[if_neg c8]at H;have g:=decide_eq_false c8;clear c8
    by_cases c9:a0 > a1
    ·rw[if_pos c9]at H;have j:decide (a1<a0)=true:=decide_eq_true c9;clear c9;obtain rfl:=Option.some.inj H
     go_enter Tryz.func207,Tryz.ntmps207
     go_wp2_with (first |((with_reducible refine Qhr (f:=260) rfl ?_);refine Qfz (some 8) rfl rfl Tryz.func260 qq_6 rfl #[.int .u32 a0] rfl qq_2 ?_;(with_reducible refine(Qai.calls a0 false _ A3.out).mono ?_);rintro e w' ⟨rfl,⟨nd,rfl⟩⟩;refine⟨_,rfl,?_⟩) |((with_reducible refine Qhr (f:=260) rfl ?_);refine Qfz (some 10) rfl rfl Tryz.func260 qq_6 rfl #[.int .u32 a1] rfl qq_2 ?_;(with_reducible refine(Qai.calls a1 false _ A4.out).mono ?_);rintro e w' ⟨rfl,⟨nd,rfl⟩⟩;refine⟨_,rfl,?_⟩))
     go_ret
     exact⟨by first|rfl |(simp;done) |(simp[*];done),by repeat(first|exact Drawn0.refl _|apply Drawn0.step)⟩
    ·rw[if_neg c9]at H;have j:decide (a1<a0)=false:=decide_eq_false c9;clear c9;obtain rfl:=Option.some.inj H
     go_enter Tryz.func207,Tryz.ntmps207
     go_wp2_with (first |((with_reducible refine Qhr (f:=260) rfl ?_);refine Qfz (some 8) rfl rfl Tryz.func260 qq_6 rfl #[.int .u32 a0] rfl qq_2 ?_;(with_reducible refine(Qai.calls a0 false _ A3.out).mono ?_);rintro e w' ⟨rfl,⟨nd,rfl⟩⟩;refine⟨_,rfl,?_⟩) |((with_reducible refine Qhr (f:=260) rfl ?_);refine Qfz (some 10) rfl rfl Tryz.func260 qq_6 rfl #[.int .u32 a1] rfl qq_2 ?_;(with_reducible refine(Qai.calls a1 false _ A4.out).mono ?_);rintro e w' ⟨rfl,⟨nd,rfl⟩⟩;refine⟨_,rfl,?_⟩))
     go_ret
     exact⟨by first|rfl |(simp;done) |(simp[*];done),by repeat(first|exact Drawn0.refl _|apply Drawn0.step)⟩
def Qag.f(a0:Int)(a1:Int):Option (Int):=(Qaj.f a0).bind fun t197=>((Qaj.f a1).bind fun t198=>(if t197=true then(if t198=true then(some 0)else(some (-1)))else(if t198=true then(some 1)else(if a0<a1 then(some (-1))else(if a0 > a1 then(some 1)else(some 0))))))
theorem Qag.calls(a0:Int)(a1:Int)(r:Int)(w:World)(h:Qag.f a0 a1=some r) :
  Calls Tryz.prog 74 #[.int .u64 a0,.int .u64 a1] w fun e w'=>e=.returned (.int .i64 r)∧Drawn0 w w':=by
 have H:((Qaj.f a0).bind fun b=>((Qaj.f a1).bind fun a=>(if b=true then(if a=true then(some 0)else(some (-1)))else(if a=true then(some 1)else(if a0<a1 then(some (-1))else(if a0 > a1 then(some 1)else(some 0)))))))=some r:=h;clear h;replace H:=Option.bind_eq_some_iff.mp H;obtain⟨b,c,H⟩:=H;have A3:=QA c;clear c;replace H:=Option.bind_eq_some_iff.mp H;obtain⟨a,d,H⟩:=H;have A4:=QA d;clear d
 by_cases c5:b=true
 ·subst c5;rw[if_pos rfl]at H
  by_cases c6:a=true
  ·subst c6;rw[if_pos rfl]at H;obtain rfl:=Option.some.inj H
   go_enter Tryz.func74,Tryz.ntmps74
   go_wp2_with (first |((with_reducible refine Qhr (f:=131) rfl ?_);refine Qfz (some 8) rfl rfl Tryz.func131 qq_6 rfl #[.int .u64 a0] rfl qq_2 ?_;(with_reducible refine(Qaj.calls a0 true _ A3.out).mono ?_);rintro e w' ⟨rfl,⟨nd,rfl⟩⟩;refine⟨_,rfl,?_⟩) |((with_reducible refine Qhr (f:=131) rfl ?_);refine Qfz (some 10) rfl rfl Tryz.func131 qq_6 rfl #[.int .u64 a1] rfl qq_2 ?_;(with_reducible refine(Qaj.calls a1 true _ A4.out).mono ?_);rintro e w' ⟨rfl,⟨nd,rfl⟩⟩;refine⟨_,rfl,?_⟩))
   go_ret
   exact⟨by first|rfl |(simp;done) |(simp[*];done),by repeat(first|exact Drawn0.refl _|apply Drawn0.step)⟩
  ·replace c6:=Bool.eq_false_iff.mpr c6;subst c6;rw[if_neg (show ¬(false=true)by decide)]at H;obtain rfl:=Option.some.inj H
   go_enter Tryz.func74,Tryz.ntmps74
   go_wp2_with (first |((with_reducible refine Qhr (f:=131) rfl ?_);refine Qfz (some 8) rfl rfl Tryz.func131 qq_6 rfl #[.int .u64 a0] rfl qq_2 ?_;(with_reducible refine(Qaj.calls a0 true _ A3.out).mono ?_);rintro e w' ⟨rfl,⟨nd,rfl⟩⟩;refine⟨_,rfl,?_⟩) |((with_reducible refine Qhr (f:=131) rfl ?_);refine Qfz (some 10) rfl rfl Tryz.func131 qq_6 rfl #[.int .u64 a1] rfl qq_2 ?_;(with_reducible refine(Qaj.calls a1 false _ A4.out).mono ?_);rintro e w' ⟨rfl,⟨nd,rfl⟩⟩;refine⟨_,rfl,?_⟩))
   go_ret
   exact⟨by first|rfl |(simp;done) |(simp[*];done),by repeat(first|exact Drawn0.refl _|apply Drawn0.step)⟩
 ·replace c5:=Bool.eq_false_iff.mpr c5;subst c5;rw[if_neg (show ¬(false=true)by decide)]at H
  by_cases c7:a=true
  ·subst c7;rw[if_pos rfl]at H;obtain rfl:=Option.some.inj H
   go_enter Tryz.func74,Tryz.ntmps74
   go_wp2_with (first |((with_reducible refine Qhr (f:=131) rfl ?_);refine Qfz (some 8) rfl rfl Tryz.func131 qq_6 rfl #[.int .u64 a0] rfl qq_2 ?_;(with_reducible refine(Qaj.calls a0 false _ A3.out).mono ?_);rintro e w' ⟨rfl,⟨nd,rfl⟩⟩;refine⟨_,rfl,?_⟩) |((with_reducible refine Qhr (f:=131) rfl ?_);refine Qfz (some 10) rfl rfl Tryz.func131 qq_6 rfl #[.int .u64 a1] rfl qq_2 ?_;(with_reducible refine(Qaj.calls a1 true _ A4.out).mono ?_);rintro e w' ⟨rfl,⟨nd,rfl⟩⟩;refine⟨_,rfl,?_⟩))
   go_ret
   exact⟨by first|rfl |(simp;done) |(simp[*];done),by repeat(first|exact Drawn0.refl _|apply Drawn0.step)⟩
  ·replace c7:=Bool.eq_false_iff.mpr c7;subst c7;rw[if_neg (show ¬(false=true)by decide)]at H
   by_cases c8:a0<a1
   ·rw[if_pos c8]at H;have g:=decide_eq_true c8;clear c8;obtain rfl:=Option.some.inj H
    go_enter Tryz.func74,Tryz.ntmps74
    go_wp2_with (first |((with_reducible refine Qhr (f:=131) rfl ?_);refine Qfz (some 8) rfl rfl Tryz.func131 qq_6 rfl #[.int .u64 a0] rfl qq_2 ?_;(with_reducible refine(Qaj.calls a0 false _ A3.out).mono ?_);rintro e w' ⟨rfl,⟨nd,rfl⟩⟩;refine⟨_,rfl,?_⟩) |((with_reducible refine Qhr (f:=131) rfl ?_);refine Qfz (some 10) rfl rfl Tryz.func131 qq_6 rfl #[.int .u64 a1] rfl qq_2 ?_;(with_reducible refine(Qaj.calls a1 false _ A4.out).mono ?_);rintro e w' ⟨rfl,⟨nd,rfl⟩⟩;refine⟨_,rfl,?_⟩))
    go_ret
    exact⟨by first|rfl |(simp;done) |(simp[*];done),by repeat(first|exact Drawn0.refl _|apply Drawn0.step)⟩
   ·rw[if_neg c8]at H;have g:=decide_eq_false c8;clear c8
    by_cases c9:a0 > a1
    ·rw[if_pos c9]at H;have j:decide (a1<a0)=true:=decide_eq_true c9;clear c9;obtain rfl:=Option.some.inj H
     go_enter Tryz.func74,Tryz.ntmps74
     go_wp2_with (first |((with_reducible refine Qhr (f:=131) rfl ?_);refine Qfz (some 8) rfl rfl Tryz.func131 qq_6 rfl #[.int .u64 a0] rfl qq_2 ?_;(with_reducible refine(Qaj.calls a0 false _ A3.out).mono ?_);rintro e w' ⟨rfl,⟨nd,rfl⟩⟩;refine⟨_,rfl,?_⟩) |((with_reducible refine Qhr (f:=131) rfl ?_);refine Qfz (some 10) rfl rfl Tryz.func131 qq_6 rfl #[.int .u64 a1] rfl qq_2 ?_;(with_reducible refine(Qaj.calls a1 false _ A4.out).mono ?_);rintro e w' ⟨rfl,⟨nd,rfl⟩⟩;refine⟨_,rfl,?_⟩))
     go_ret
     exact⟨by first|rfl |(simp;done) |(simp[*];done),by repeat(first|exact Drawn0.refl _|apply Drawn0.step)⟩
    ·rw[if_neg c9]at H;have j:decide (a1<a0)=false:=decide_eq_false c9;clear c9;obtain rfl:=Option.some.inj H
     go_enter Tryz.func74,Tryz.ntmps74
     go_wp2_with (first |((with_reducible refine Qhr (f:=131) rfl ?_);refine Qfz (some 8) rfl rfl Tryz.func131 qq_6 rfl #[.int .u64 a0] rfl qq_2 ?_;(with_reducible refine(Qaj.calls a0 false _ A3.out).mono ?_);rintro e w' ⟨rfl,⟨nd,rfl⟩⟩;refine⟨_,rfl,?_⟩) |((with_reducible refine Qhr (f:=131) rfl ?_);refine Qfz (some 10) rfl rfl Tryz.func131 qq_6 rfl #[.int .u64 a1] rfl qq_2 ?_;(with_reducible refine(Qaj.calls a1 false _ A4.out).mono ?_);rintro e w' ⟨rfl,⟨nd,rfl⟩⟩;refine⟨_,rfl,?_⟩))
     go_ret
     exact⟨by first|rfl |(simp;done) |(simp[*];done),by repeat(first|exact Drawn0.refl _|apply Drawn0.step)⟩
def Qah.l0:Nat→Int→List Int→Int→Int→Option (Int)
 | 0,_,_,_,_=>none
 | k+1,x3,x6,x7,x8=>if x8<x7 then(if 0≤x8 then(if x8<(x6.length:Int)then(if(rd x6 x8)=x3 then(Qah.l0 k x3 x6 x7 (wrap64 (x8+1)))else(some (rd x6 x8)))else(none))else(none))else(some x3)
def Qah.f(k:Nat)(l0:List Int):Option (Int):=Qah.l0 k 0 l0 (l0.length:Int) 0
theorem Qah.mono_l:∀k,(∀y0 y1 y2 y3,LeO (Qah.l0 k y0 y1 y2 y3) (Qah.l0 (k+1) y0 y1 y2 y3))
 | 0=>fun _ _ _ _ r h=>by simp[Qah.l0]at h
 | k+1=>by
  have ih0:=Qah.mono_l k
  ·intro y0 y1 y2 y3;unfold Qah.l0
   repeat' first
   |(with_reducible exact ih0 _ _ _ _)
   |(with_reducible exact LeO.refl _)
   |(with_reducible exact LeO.none _)
   |(with_reducible refine LeO.ite ?_ ?_)
   |(with_reducible refine LeO.bind ?_ (fun _=>?_))
   | exact ih0 _ _ _ _
   | exact LeO.none _
   | refine LeO.ite ?_ ?_
   | refine LeO.bind ?_ (fun _=>?_)
theorem Qah.mono:∀a0 k,LeO (Qah.f k a0) (Qah.f (k+1) a0):=by
 intro a0 k;have ih0:=Qah.mono_l k;unfold Qah.f
 repeat' first
   |(with_reducible exact ih0 _ _ _ _)
   |(with_reducible exact LeO.refl _)
   |(with_reducible exact LeO.none _)
   |(with_reducible refine LeO.ite ?_ ?_)
   |(with_reducible refine LeO.bind ?_ (fun _=>?_))
   | exact ih0 _ _ _ _
   | exact LeO.none _
   | refine LeO.ite ?_ ?_
   | refine LeO.bind ?_ (fun _=>?_)
theorem Qah.calls(k:Nat)(A0:Option Addr)(c0:Nat)(l0:List Int)(r:Int)(w:World)(hr0:Kd.C (Kd.int .i64) w A0 l0.length l0)(hc0:l0.length≤c0)(h:Qah.f k l0=some r) :
  Calls Tryz.prog 206 #[.slice A0 l0.length c0] w fun e w'=>e=.returned (.int .i64 r)∧Drawn0 w w':=by
 have l:=QA hr0;have s:=QA hc0;clear hr0 hc0;have H:(Qah.l0 k 0 l0 (l0.length:Int) 0)=some r:=h;clear h;have H':=QA H;clear H
 go_enter Tryz.func206,Tryz.ntmps206
 go_wp2
 go_loopg [8] k (fun kq v8 w'=>∃(a:Int),v8=.int .i64 a∧Aside0 (Qah.l0 kq 0 l0 (l0.length:Int) a=some r)∧Aside0 (kq≤k)∧Drawn0 w w')
 case atStart=>exact⟨(0),qq_7,H',⟨Nat.le_refl _⟩,by repeat(first|exact Drawn0.refl _|apply Drawn0.step)⟩
 case round =>
  clear H';obtain⟨a,rfl,HA,HK1,⟨m1,rfl⟩⟩:=hrel
  cases gk with
  | zero=>exact absurd HA.out (by simp[Qah.l0])
  | succ k1 =>
   have H:=HA.out;clear HA;simp only[Qah.l0]at H
   by_cases c2:a<(l0.length:Int)
   ·rw [if_pos c2]at H;have m:=decide_eq_true c2;clear c2
    by_cases c3:0≤a
    ·rw[if_pos c3]at H;have p:=decide_eq_true c3;clear c3
     by_cases c4:a<(l0.length:Int)
     ·rw[if_pos c4]at H;have q:=decide_eq_true c4;clear c4
      by_cases c5:(rd l0 a)=0
      ·rw[if_pos c5]at H;have n:((rd l0 a) == 0)=true:=beq_iff_eq.mpr c5;have o:((rd l0 a) != 0)=false:=bne_eq_false_iff_eq.mpr c5;clear c5;have H':=QA H;clear H;have b:0≤(a:Int):=of_decide_eq_true qq_4;have c:a<(l0.length:Int):=of_decide_eq_true qq_4;obtain⟨j,d,g⟩:=Kd.at_int l.out a b c
       cases d
       replace b:=eq_true b;replace c:=eq_true c;go_wp2
       go_roundg k1
       case measure=>have:=HK1.out;omega
       case rel=>exact⟨(wrap64 (a+1)),qq_7,H',⟨by have:=HK1.out;omega⟩,by repeat(first|exact Drawn0.refl _|apply Drawn0.step)⟩
      ·rw[if_neg c5]at H;have n:((rd l0 a) == 0)=false:=beq_eq_false_iff_ne.mpr c5;have o:((rd l0 a) != 0)=true:=bne_iff_ne.mpr c5;obtain rfl:=Option.some.inj H;have b:0≤(a:Int):=of_decide_eq_true qq_4;have c:a<(l0.length:Int):=of_decide_eq_true qq_4;obtain⟨j,d,g⟩:=Kd.at_int l.out a b c
       cases d
       replace b:=eq_true b;replace c:=eq_true c;go_wp2;go_ret
       exact⟨by first|rfl |(simp;done) |(simp[*];done),by repeat(first|exact Drawn0.refl _|apply Drawn0.step)⟩
     ·rw[if_neg c4]at H;exact absurd H (by simp)
    ·rw[if_neg c3]at H;exact absurd H (by simp)
   ·rw[if_neg c2]at H;have m:=decide_eq_false c2;clear c2;obtain rfl:=Option.some.inj H;go_wp2;go_ret
    exact⟨by first|rfl |(simp;done) |(simp[*];done),by repeat(first|exact Drawn0.refl _|apply Drawn0.step)⟩
mutual
def Qce.l0:Nat→List (S36)→List (S36)→Int→Int→Option (Int)
 | 0,_,_,_,_=>none
 | k+1,x0,x7,x8,x9=>if x9<x8 then(if 0≤x9 then(if x9<(x7.length:Int)then((Qcd.f k ((Qic x7 x9).f0) ((Qic x7 x9).f1) ((Qic x7 x9).f2) ((Qic x7 x9).f3)).bind fun t107=>(if t107=0 then(Qce.l0 k x0 x7 x8 (wrap64 (x9+1)))else(some t107)))else(none))else(none))else(Qce.l1 k x0 1)
def Qce.l1:Nat→List (S36)→Int→Option (Int)
 | 0,_,_=>none
 | k+1,x0,x6=>if x6<(x0.length:Int)then(if 0≤x6 then(if 0≤(wrap64 (x6-1))then(if(wrap64 (x6-1))<(x0.length:Int)then(if((Qic x0 x6).f1)≤((Qic x0 (wrap64 (x6-1))).f1)then(some 8)else(Qce.l1 k x0 (wrap64 (x6+1))))else(none))else(none))else(none))else(some 0)
end
def Qce.f(k:Nat)(l0:List (S36)):Option (Int):=Qce.l0 k l0 l0 (l0.length:Int) 0
theorem Qce.calls (k:Nat) (A0:Option Addr) (c0:Nat) (l0:List (S36)) (r:Int) (w:World) (hr0:Kd.C k36 w A0 l0.length l0) (hc0:l0.length≤c0) (h:Qce.f k l0=some r) :
  Calls Tryz.prog 83 #[.slice A0 l0.length c0] w fun e w'=>e=.returned (.int .i64 r)∧Below w.heap.size w w':=by
 have hu36:=Tryz.underlying36;have M:=QA hr0;have aD:=QA hc0;clear hr0 hc0;have HB:=QA (Below.refl w.heap.size w);have H:(Qce.l0 k l0 l0 (l0.length:Int) 0)=some r:=h;clear h;have H':=QA H;clear H
 go_enter Tryz.func83,Tryz.ntmps83
 go_wp2
 repeat(go_quiet (fail);try go_wp2)
 go_loopg [9] k (fun kq v9 w'=>∃(a:Int),v9=.int .i64 a∧Aside0 (Qce.l0 kq l0 l0 (l0.length:Int) a=some r)∧Aside0 (kq≤k)∧Aside0 (Below w.heap.size w w'))
 case atStart=>exact⟨(0),qq_7,H',⟨Nat.le_refl _⟩,⟨qq_b⟩⟩
 case round =>
  clear H';obtain⟨a,rfl,HA,HK1,HB⟩:=hrel
  cases gk with
  | zero=>exact absurd HA.out (by simp[Qce.l0])
  | succ k1 =>
   have H:=HA.out;clear HA;simp only[Qce.l0]at H
   by_cases c2:a<(l0.length:Int)
   ·rw [if_pos c2]at H;have ag:=decide_eq_true c2;clear c2
    by_cases c3:0≤a
    ·rw[if_pos c3]at H;have aw:=decide_eq_true c3;clear c3
     by_cases c4:a<(l0.length:Int)
     ·rw[if_pos c4]at H;have ax:=decide_eq_true c4;clear c4;replace H:=Option.bind_eq_some_iff.mp H;obtain⟨D,av,H⟩:=H;have A5:=QA av;clear av
      by_cases c6:D=0
      ·rw[if_pos c6]at H;have ah:(D == 0)=true:=beq_iff_eq.mpr c6;have ai:(D != 0)=false:=bne_eq_false_iff_eq.mpr c6;clear c6;have H':=QA H;clear H;have A:0≤(a:Int):=of_decide_eq_true qq_4;have B:a<(l0.length:Int):=of_decide_eq_true qq_4;obtain⟨an,W,j,l,m,n⟩:=Qid M.out a A B
       cases W
       replace j:=qq_h HB.out j;replace l:=qq_h HB.out l;replace m:=qq_h HB.out m;replace n:=qq_h HB.out n;replace A:=eq_true A;replace B:=eq_true B
       go_wp2_with (first |((with_reducible refine Qfe (N:=4) rfl ?_);refine qq_e 4 #[.bool false,.int .u64 0,.string (⟨#[]⟩:ByteArray),.string (⟨#[]⟩:ByteArray)] 36 ?_;intro z hg w7 hbox hb;have n_:=qn4 (Qeu qq_b hb) (hbox) (qq_s hg:w.heap.size≤z) (qq_s hg:w.heap.size≤z);clear HB;obtain⟨HB,d,ao,ap⟩:=n_;clear hb hbox hg;obtain⟨aj,ak,al,am⟩:=qc4 d.out;have ay:=Qdm d.out) |(go_at_call 91;(with_reducible refine(Qcd.calls k1 ((Qic l0 a).f0) ((Qic l0 a).f1) ((Qic l0 a).f2) ((Qic l0 a).f3) D _ A5.out).mono ?_);rintro e w9 ⟨rfl,hb⟩;have n_:=qn2 (Qdy (g:=z) (o:=.cells #[.bool ((Qic l0 a).f0),.int .u64 ((Qic l0 a).f1),.string ((Qic l0 a).f2),.string ((Qic l0 a).f3)] 36 (0,0)) qq_x hb) (Qeu qq_b hb);clear d HB;obtain⟨d,HB⟩:=n_;(try clear hb);(try clear hb2);(try clear hk);(try clear hi)))
       go_roundg k1
       case measure=>have:=HK1.out;omega
       case rel=>exact⟨(wrap64 (a+1)),qq_7,H',⟨by have:=HK1.out;omega⟩,⟨qq_b⟩⟩
      ·rw[if_neg c6]at H;have ah:(D == 0)=false:=beq_eq_false_iff_ne.mpr c6;have ai:(D != 0)=true:=bne_iff_ne.mpr c6;obtain rfl:=Option.some.inj H;have A:0≤(a:Int):=of_decide_eq_true qq_4;have B:a<(l0.length:Int):=of_decide_eq_true qq_4;obtain⟨an,W,j,l,m,n⟩:=Qid M.out a A B
       cases W
       replace j:=qq_h HB.out j;replace l:=qq_h HB.out l;replace m:=qq_h HB.out m;replace n:=qq_h HB.out n;replace A:=eq_true A;replace B:=eq_true B
       go_wp2_with (first |((with_reducible refine Qfe (N:=4) rfl ?_);refine qq_e 4 #[.bool false,.int .u64 0,.string (⟨#[]⟩:ByteArray),.string (⟨#[]⟩:ByteArray)] 36 ?_;intro z hg aE hbox hb;have n_:=qn4 (Qeu qq_b hb) (hbox) (qq_s hg:w.heap.size≤z) (qq_s hg:w.heap.size≤z);clear HB;obtain⟨HB,d,ao,ap⟩:=n_;clear hb hbox hg;obtain⟨ac,ad,ae,af⟩:=qc4 d.out;have aq:=Qdm d.out) |(go_at_call 91;(with_reducible refine(Qcd.calls k1 ((Qic l0 a).f0) ((Qic l0 a).f1) ((Qic l0 a).f2) ((Qic l0 a).f3) D _ A5.out).mono ?_);rintro e aF ⟨rfl,hb⟩;have n_:=qn2 (Qdy (g:=z) (o:=.cells #[.bool ((Qic l0 a).f0),.int .u64 ((Qic l0 a).f1),.string ((Qic l0 a).f2),.string ((Qic l0 a).f3)] 36 (0,0)) qq_x hb) (Qeu qq_b hb);clear d HB;obtain⟨d,HB⟩:=n_;(try clear hb);(try clear hb2);(try clear hk);(try clear hi)))
       go_ret
       exact⟨qq_5,qq_b⟩
     ·rw[if_neg c4]at H;exact absurd H (by simp)
    ·rw[if_neg c3]at H;exact absurd H (by simp)
   ·rw [if_neg c2]at H;have ag:=decide_eq_false c2;clear c2;have H':=QA H;clear H;go_wp2
    repeat(go_quiet (fail);try go_wp2)
    go_loopg [6] k1 (fun kq v6 w'=>∃(b:Int),v6=.int .i64 b∧Aside0 (Qce.l1 kq l0 b=some r)∧Aside0 (kq≤k1)∧Aside0 (Below w.heap.size w w'))
    case atStart=>exact⟨(1),qq_7,H',⟨Nat.le_refl _⟩,⟨qq_b⟩⟩
    case round =>
     clear H'
     try clear c2
     try clear ag
     try clear c3
     try clear aw
     try clear c4
     try clear ax
     try clear c6
     try clear ah
     try clear ai
     try clear ac
     try clear ad
     try clear ae
     try clear af
     try clear aj
     try clear ak
     try clear al
     try clear am
     try clear aq
     try clear ay
     try clear j
     try clear l
     try clear m
     try clear n
     try clear A
     try clear B
     obtain⟨b,rfl,HA,HK2,HB⟩:=hrel
     cases gk with
     | zero=>exact absurd HA.out (by simp[Qce.l1])
     | succ k2 =>
      have H:=HA.out;clear HA;simp only[Qce.l1]at H
      by_cases O:b<(l0.length:Int)
      ·rw [if_pos O]at H;have ar:=decide_eq_true O;clear O
       by_cases Z:0≤b
       ·rw [if_pos Z]at H;have aA:=decide_eq_true Z;clear Z;obtain⟨c,L⟩:∃j_:Int,(wrap64 (b-1))=j_:=⟨_,rfl⟩;replace H:(if 0≤(c)then(if(c)<(l0.length:Int)then(if((Qic l0 b).f1)≤((Qic l0 (c)).f1)then(some 8)else(Qce.l1 k2 l0 (wrap64 (b+1))))else(none))else(none))=some r:=by first |(rw[L]at H;exact H) |(simp only[L]at H ⊢;exact H)
        have az:(IntKind.i64.wrap (b-1))=c:=(Qgb _).trans L
        by_cases aa:0≤(c)
        ·rw[if_pos aa]at H;have aB:=decide_eq_true aa;clear aa
         by_cases ab:(c)<(l0.length:Int)
         ·rw[if_pos ab]at H;have aC:=decide_eq_true ab;clear ab
          by_cases P:((Qic l0 b).f1)≤((Qic l0 (c)).f1)
          ·rw[if_pos P]at H;have au:=decide_eq_true P;clear P;obtain rfl:=Option.some.inj H;have E:0≤(b:Int):=of_decide_eq_true qq_4;have G:b<(l0.length:Int):=of_decide_eq_true qq_4;obtain⟨T,X,p,q,s,t⟩:=Qid M.out b E G
           cases X
           replace p:=qq_h HB.out p;replace q:=qq_h HB.out q;replace s:=qq_h HB.out s;replace t:=qq_h HB.out t;replace E:=eq_true E;replace G:=eq_true G;have I:0≤((c):Int):=of_decide_eq_true qq_4;have J:(c)<(l0.length:Int):=of_decide_eq_true qq_4;obtain⟨U,Y,u,v,x,y⟩:=Qid M.out (c) I J;obtain rfl:T=U:=(by injection Y);replace u:=qq_h HB.out u;replace v:=qq_h HB.out v;replace x:=qq_h HB.out x;replace y:=qq_h HB.out y;replace I:=eq_true I;replace J:=eq_true J;go_wp2
           repeat(go_quiet (fail);try go_wp2)
           go_ret
           exact⟨by first|rfl |(simp[Qhv,Qhw]<;>rfl) |(simp only[← L];first|rfl |(simp[Qhv,Qhw]<;>rfl)) |(simp[*,Qhv,Qhw]<;>rfl),qq_b⟩
          ·rw[if_neg P]at H;have au:=decide_eq_false P;clear P;have H':=QA H;clear H;have E:0≤(b:Int):=of_decide_eq_true qq_4;have G:b<(l0.length:Int):=of_decide_eq_true qq_4;obtain⟨T,X,p,q,s,t⟩:=Qid M.out b E G
           cases X
           replace p:=qq_h HB.out p;replace q:=qq_h HB.out q;replace s:=qq_h HB.out s;replace t:=qq_h HB.out t;replace E:=eq_true E;replace G:=eq_true G;have I:0≤((c):Int):=of_decide_eq_true qq_4;have J:(c)<(l0.length:Int):=of_decide_eq_true qq_4;obtain⟨U,Y,u,v,x,y⟩:=Qid M.out (c) I J;obtain rfl:T=U:=(by injection Y);replace u:=qq_h HB.out u;replace v:=qq_h HB.out v;replace x:=qq_h HB.out x;replace y:=qq_h HB.out y;replace I:=eq_true I;replace J:=eq_true J;go_wp2
           repeat(go_quiet (fail);try go_wp2)
           go_roundg k2
           case measure=>have:=HK1.out;have:=HK2.out;omega
           case rel=>exact⟨(wrap64 (b+1)),qq_7,H',⟨by have:=HK1.out;have:=HK2.out;omega⟩,⟨qq_b⟩⟩
         ·rw[if_neg ab]at H;exact absurd H (by simp)
        ·rw[if_neg aa]at H;exact absurd H (by simp)
       ·rw[if_neg Z]at H;exact absurd H (by simp)
      ·rw[if_neg O]at H;have ar:=decide_eq_false O;clear O;obtain rfl:=Option.some.inj H;go_wp2
       repeat(go_quiet (fail);try go_wp2)
       go_ret
       exact⟨qq_5,qq_b⟩
end Go.Proofs.YtepkfjmjidjedaaGreat.C
end
