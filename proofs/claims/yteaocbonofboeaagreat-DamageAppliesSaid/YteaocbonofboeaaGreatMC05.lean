/- Merged texts. -/
import Derived.Test.YteaocbonofboeaaGreatMC02
import Derived.Test.YteaocbonofboeaaGreatMC04
set_option linter.unusedVariables false
set_option linter.unusedSimpArgs false
set_option maxHeartbeats 8000000
set_option maxRecDepth 100000
section
namespace Go.Proofs.YteaocbonofboeaaGreat.C
open Go.RowKit Go.Proofs.YteaocbonofboeaaGreatW.PrintWords Go.Proofs.YteaocbonofboeaaGreatW.PrintLast Go.Proofs.YteaocbonofboeaaGreatW.PrintMore
attribute [local go_sem] Qhx Qhy Qhz Qia Qib Qic Qid Qie
def Qap.f(a0_0:Int)(a0_1:Int):Option (Int):=(Qao.f a0_0 a0_1).bind fun t174=>(if t174=0 then(if 0≤a0_0 then(some (shl .i64 1 a0_0))else(none))else(some 0))
theorem Qap.calls(a:Int)(c:Int)(r:Int)(w:World)(h:Qap.f a c=some r) :
  Calls Tryz.prog 66 #[.agg #[.int .u8 a,.int .u32 c]] w fun e w'=>e=.returned (.int .i64 r)∧Below w.heap.size w w':=by
 have hu28:=Tryz.underlying28;have HB:=QA (Below.refl w.heap.size w);have H:((Qao.f a c).bind fun d=>(if d=0 then(if 0≤a then(some (shl .i64 1 a))else(none))else(some 0)))=some r:=h;clear h;replace H:=Option.bind_eq_some_iff.mp H;obtain⟨d,s,H⟩:=H;have A2:=QA s;clear s
 by_cases c3:d=0
 ·rw[if_pos c3]at H;have t:(d == 0)=true:=beq_iff_eq.mpr c3;have u:(d != 0)=false:=bne_eq_false_iff_eq.mpr c3;clear c3
  by_cases c4:0≤a
  ·rw[if_pos c4]at H;have K:=eq_true c4;have L:=decide_eq_true c4;clear c4;obtain⟨l,k⟩:∃j_:Int,(shl .i64 1 a)=j_:=⟨_,rfl⟩;replace H:(some l)=some r:=by first |(rw[k]at H;exact H) |(simp only[k]at H ⊢;exact H)
   (try rw[k]at A2)
   have m:(IntKind.i64.wrap (1*2^min a.toNat 64))=l:=k;have n:a≤64→(IntKind.i64.wrap (1*2^a.toNat))=l:=Qih k;have D:(IntKind.i64.wrap (2^min a.toNat 64))=l:=by have h_:=m;rw[Int.one_mul]at h_;exact h_
   have E:a≤64→(IntKind.i64.wrap (2^a.toNat))=l:=fun hle_=>by have h_:=n hle_;rw[Int.one_mul]at h_;exact h_
   have G:(wrap64 (1*2^min a.toNat 64))=l:=(Qgk _).symm.trans m;have I:a≤64→(wrap64 (1*2^a.toNat))=l:=fun h_=>(Qgk _).symm.trans (n h_)
   obtain rfl:=Option.some.inj H
   go_enter Tryz.func66,Tryz.ntmps66
   go_wp2_with (first |((with_reducible refine Qfn (N:=1) rfl ?_);refine qq_e 1 #[.int .u8 a,.int .u32 c] 28 ?_;intro j hg w6 hbox hb;have n_:=qn4 (Qfd qq_b hb) (hbox) (qq_s hg:w.heap.size≤j) (qq_s hg:w.heap.size≤j);clear HB;obtain⟨HB,b,p,q⟩:=n_;clear hb hbox hg;obtain⟨y,z⟩:=qc2 b.out;have M:=Qdp b.out) |((with_reducible refine Qif (f:=118) rfl ?_);refine Qgi (some 4) rfl rfl Tryz.func118 qq_2 rfl #[.agg #[.int .u8 a,.int .u32 c]] rfl qq_0 ?_;(with_reducible refine(Qao.calls a c d _ A2.out).mono ?_);rintro e w8 ⟨rfl,hb⟩;refine⟨_,rfl,?_⟩;have n_:=qn2 (Qed (g:=j) (o:=.cells #[.int .u8 a,.int .u32 c] 28 (0,0)) qq_1 hb) (Qfd qq_b hb);clear b HB;obtain⟨b,HB⟩:=n_;(try clear hb);(try clear hb2);(try clear hk);(try clear hi);obtain⟨A,B⟩:=qc2 b.out;have O:=Qdp b.out))
   go_ret
   exact⟨by first|rfl |(simp[Qik,Qil]<;>rfl) |(simp only[← k];first|rfl |(simp[Qik,Qil]<;>rfl)) |(simp[*,Qik,Qil]<;>rfl),qq_b⟩
  ·rw[if_neg c4]at H;exact absurd H (by simp)
 ·rw[if_neg c3]at H;have t:(d == 0)=false:=beq_eq_false_iff_ne.mpr c3;have u:(d != 0)=true:=bne_iff_ne.mpr c3;obtain rfl:=Option.some.inj H
  go_enter Tryz.func66,Tryz.ntmps66
  go_wp2_with (first |((with_reducible refine Qfn (N:=1) rfl ?_);refine qq_e 1 #[.int .u8 a,.int .u32 c] 28 ?_;intro j hg P hbox hb;have n_:=qn4 (Qfd qq_b hb) (hbox) (qq_s hg:w.heap.size≤j) (qq_s hg:w.heap.size≤j);clear HB;obtain⟨HB,b,p,q⟩:=n_;clear hb hbox hg;obtain⟨v,x⟩:=qc2 b.out;have J:=Qdp b.out) |((with_reducible refine Qif (f:=118) rfl ?_);refine Qgi (some 4) rfl rfl Tryz.func118 qq_2 rfl #[.agg #[.int .u8 a,.int .u32 c]] rfl qq_0 ?_;(with_reducible refine(Qao.calls a c d _ A2.out).mono ?_);rintro e T ⟨rfl,hb⟩;refine⟨_,rfl,?_⟩;have n_:=qn2 (Qed (g:=j) (o:=.cells #[.int .u8 a,.int .u32 c] 28 (0,0)) qq_1 hb) (Qfd qq_b hb);clear b HB;obtain⟨b,HB⟩:=n_;(try clear hb);(try clear hb2);(try clear hk);(try clear hi)))
  go_ret
  exact⟨qq_5,qq_b⟩
def Qbo.f(a0:Int):Option (Int):=some (wrap64 (Int.tdiv (wrap64 ((wrap64 ((mx 0 a0)+16))-1)) 16))
theorem Qbo.calls(a0:Int)(r:Int)(w:World)(h:Qbo.f a0=some r) :
  Calls Tryz.prog 182 #[.int .i64 a0] w fun e w'=>e=.returned (.int .i64 r)∧Below w.heap.size w w':=by
 have HB:=QA (Below.refl w.heap.size w);have H:(some (wrap64 (Int.tdiv (wrap64 ((wrap64 ((mx 0 a0)+16))-1)) 16)))=some r:=h;clear h;obtain⟨ji2,hji2⟩:∃j_:Int,(mx 0 a0)=j_:=⟨_,rfl⟩;replace H:(some (wrap64 (Int.tdiv (wrap64 ((wrap64 ((ji2)+16))-1)) 16)))=some r:=by first |(rw[hji2]at H;exact H) |(simp only[hji2]at H ⊢;exact H)
 (try(have hji2l:0≤ji2:=by(rw[← hji2];unfold mx;(repeat' split)<;>omega)))
 (try(have hji2m:0≤ji2:=by omega))
 have hji2_:(if 0<a0 then a0 else 0)=ji2:=hji2;obtain rfl:=Option.some.inj H
 go_enter Tryz.func182,Tryz.ntmps182
 go_wp2;go_ret
 exact⟨by first|rfl |(simp[Qik,Qil]<;>rfl) |(simp only[← hji2];first|rfl |(simp[Qik,Qil]<;>rfl)) |(simp[*,Qik,Qil]<;>rfl),qq_b⟩
def Qbv.f(a0:Int):Option (Int):=(Qal.f (wrap64 ((mx 0 a0)+8))).bind fun t186=>(some (wrap64 (t186+1)))
theorem Qbv.calls(a0:Int)(r:Int)(w:World)(h:Qbv.f a0=some r) :
  Calls Tryz.prog 228 #[.int .i64 a0] w fun e w'=>e=.returned (.int .i64 r)∧Below w.heap.size w w':=by
 have HB:=QA (Below.refl w.heap.size w);have H:((Qal.f (wrap64 ((mx 0 a0)+8))).bind fun t186=>(some (wrap64 (t186+1))))=some r:=h;clear h;obtain⟨ji2,hji2⟩:∃j_:Int,(mx 0 a0)=j_:=⟨_,rfl⟩;replace H:((Qal.f (wrap64 ((ji2)+8))).bind fun t186=>(some (wrap64 (t186+1))))=some r:=by first |(rw[hji2]at H;exact H) |(simp only[hji2]at H ⊢;exact H)
 (try(have hji2l:0≤ji2:=by(rw[← hji2];unfold mx;(repeat' split)<;>omega)))
 (try(have hji2m:0≤ji2:=by omega))
 have hji2_:(if 0<a0 then a0 else 0)=ji2:=hji2;replace H:=Option.bind_eq_some_iff.mp H;obtain⟨t186,A30,H⟩:=H;have A3:=QA A30;clear A30;obtain rfl:=Option.some.inj H
 go_enter Tryz.func228,Tryz.ntmps228
 go_wp2_with (first |((with_reducible refine Qif (f:=196) rfl ?_);refine Qgi (some 6) rfl rfl Tryz.func196 qq_2 rfl #[.int .i64 (wrap64 ((ji2)+8))] rfl qq_15 ?_;(with_reducible refine(Qal.calls (wrap64 ((ji2)+8)) t186 _ A3.out).mono ?_);rintro e w' ⟨rfl,⟨nd,rfl⟩⟩;refine⟨_,rfl,?_⟩))
 go_ret
 exact⟨by first|rfl |(simp[Qik,Qil]<;>rfl) |(simp only[← hji2];first|rfl |(simp[Qik,Qil]<;>rfl)) |(simp[*,Qik,Qil]<;>rfl),qq_b⟩
def Qbp.f(a0:Int):Option (Int):=(Qbo.f (mx 0 a0)).bind fun t187=>((Qbv.f (wrap64 ((wrap64 (9+(wrap64 (12*(mx 0 a0)))))+(wrap64 (8*t187))))).bind fun t188=>(some t188))
theorem Qbp.calls(a0:Int)(r:Int)(w:World)(h:Qbp.f a0=some r) :
  Calls Tryz.prog 197 #[.int .i64 a0] w fun e w'=>e=.returned (.int .i64 r)∧Below w.heap.size w w':=by
 have HB:=QA (Below.refl w.heap.size w);have H:((Qbo.f (mx 0 a0)).bind fun a=>((Qbv.f (wrap64 ((wrap64 (9+(wrap64 (12*(mx 0 a0)))))+(wrap64 (8*a))))).bind fun c=>(some c)))=some r:=h;clear h;obtain⟨b,hji2⟩:∃j_:Int,(mx 0 a0)=j_:=⟨_,rfl⟩;replace H:((Qbo.f (b)).bind fun a=>((Qbv.f (wrap64 ((wrap64 (9+(wrap64 (12*(b)))))+(wrap64 (8*a))))).bind fun c=>(some c)))=some r:=by first |(rw[hji2]at H;exact H) |(simp only[hji2]at H ⊢;exact H)
 (try(have j:0≤b:=by(rw[← hji2];unfold mx;(repeat' split)<;>omega)))
 (try(have k:0≤b:=by omega))
 have l:(if 0<a0 then a0 else 0)=b:=hji2;replace H:=Option.bind_eq_some_iff.mp H;obtain⟨a,d,H⟩:=H;have A3:=QA d;clear d;replace H:=Option.bind_eq_some_iff.mp H;obtain⟨c,g,H⟩:=H;have A4:=QA g;clear g;obtain rfl:=Option.some.inj H
 go_enter Tryz.func197,Tryz.ntmps197
 go_wp2_with (first |((with_reducible refine Qif (f:=182) rfl ?_);refine Qgi (some 9) rfl rfl Tryz.func182 qq_2 rfl #[.int .i64 b] rfl qq_15 ?_;(with_reducible refine(Qbo.calls b a _ A3.out).mono ?_);rintro e w5 ⟨rfl,hb⟩;refine⟨_,rfl,?_⟩;have n_:=qn1 (Qfd qq_b hb);clear HB;have HB:=n_;clear n_;(try clear hb);(try clear hb2);(try clear hk);(try clear hi)) |((with_reducible refine Qif (f:=228) rfl ?_);refine Qgi (some 12) rfl rfl Tryz.func228 qq_2 rfl #[.int .i64 (wrap64 ((wrap64 (9+(wrap64 (12*(b)))))+(wrap64 (8*a))))] rfl qq_15 ?_;(with_reducible refine(Qbv.calls (wrap64 ((wrap64 (9+(wrap64 (12*(b)))))+(wrap64 (8*a)))) c _ A4.out).mono ?_);rintro e w6 ⟨rfl,hb⟩;refine⟨_,rfl,?_⟩;have n_:=qn1 (Qfd qq_b hb);clear HB;have HB:=n_;clear n_;(try clear hb);(try clear hb2);(try clear hk);(try clear hi)))
 go_ret
 exact⟨by first|rfl |(simp[Qik,Qil]<;>rfl) |(simp only[← hji2];first|rfl |(simp[Qik,Qil]<;>rfl)) |(simp[*,Qik,Qil]<;>rfl),qq_b⟩
def Qcc.f(a0_0:Int)(a0_1:Int)(a0_2:Int)(a0_3:Int)(a0_4:Int):Option (Int):=(Qap.f a0_0 a0_1).bind fun t190=>((Qbp.f (wrap64 (a0_4+1))).bind fun t191=>(some (mx 0 (wrap64 ((wrap64 (t190-a0_3))-t191)))))
def Qcc.T1:Bool × List (List Nat × List Nat):=(true,[([],[]),([0],[0]),([1],[1]),([],[]),([3],[3]),([2,4],[2,4]),([],[]),([6],[6]),([7],[7]),([8,2],[8]),([5,9],[5,9]),([10],[10]),([11,9,0,1,2,3,4,5,6,7,8,9,10,11],[11])])
def Qcc.B1:List Nat:=[0,1,3,0,8,31,0,64,192,455,1023,2047,4095]
theorem Qcc.tab1:rtab .any (Qhq Tryz.f153 1)=Qcc.T1:=by kernel_rfl
theorem Qcc.bits1:Qhk Qcc.T1.2 Qcc.B1=true:=by kernel_rfl
theorem Qcc.calls(d:Int)(j:Int)(p:Int)(c:Int)(k:Int)(r:Int)(w:World)(h:Qcc.f d j p c k=some r) :
  Calls Tryz.prog 153 #[.agg #[.int .u8 d,.int .u32 j,.int .u32 p,.int .i64 c,.int .i64 k]] w fun e w'=>e=.returned (.int .i64 r)∧Below w.heap.size w w':=by
 have hu116:=Tryz.underlying116;have hu28:=Tryz.underlying28;have HB:=QA (Below.refl w.heap.size w);have H:((Qap.f d j).bind fun q=>((Qbp.f (wrap64 (k+1))).bind fun s=>(some (mx 0 (wrap64 ((wrap64 (q-c))-s))))))=some r:=h;clear h;replace H:=Option.bind_eq_some_iff.mp H;obtain⟨q,u,H⟩:=H;have A2:=QA u;clear u;replace H:=Option.bind_eq_some_iff.mp H;obtain⟨s,v,H⟩:=H;have A3:=QA v;clear v;obtain⟨t,m⟩:∃j_:Int,(mx 0 (wrap64 ((wrap64 (q-c))-s)))=j_:=⟨_,rfl⟩;replace H:(some t)=some r:=by first |(rw[m]at H;exact H) |(simp only[m]at H ⊢;exact H)
 (try rw[m]at A2)
 (try rw[m]at A3)
 (try(have x:0≤t:=by(rw[← m];unfold mx;(repeat' split)<;>omega)))
 (try(have y:0≤t:=by omega))
 have z:(if 0<(wrap64 ((wrap64 (q-c))-s))then(wrap64 ((wrap64 (q-c))-s))else 0)=t:=m;obtain rfl:=Option.some.inj H
 go_enter Tryz.func153,Tryz.ntmps153
 try go_wp2_with (first |((with_reducible refine Qfn (N:=1) rfl ?_);refine qq_e 1 #[.int .u8 d,.int .u32 j,.int .u32 p,.int .i64 c,.int .i64 k] 116 ?_;intro b hg w5 hbox hb;have n_:=qn4 (Qfd qq_b hb) (hbox) (qq_s hg:w.heap.size≤b) (qq_s hg:w.heap.size≤b);clear HB;obtain⟨HB,a,A,B⟩:=n_;clear hb hbox hg))
 have n_:=qn2 (Qeb a.out) (Qfj HB.out);clear a HB;obtain⟨a,HB⟩:=n_;refine Qfz (n:=13) (S:=fun w'=>w'.cell? ⟨b,0,none⟩=some (.int .u8 d)∧w'.cell? ⟨b,1,none⟩=some (.int .u32 j)∧w'.cell? ⟨b,2,none⟩=some (.int .u32 p)∧w'.cell? ⟨b,3,none⟩=some (.int .i64 c)∧w'.cell? ⟨b,4,none⟩=some (.int .i64 k)) (ds:=[]) (bm 13 0) qq_2 rfl rfl ⟨(Qdo a.out 0).trans rfl,(Qdo a.out 1).trans rfl,(Qdo a.out 2).trans rfl,(Qdo a.out 3).trans rfl,(Qdo a.out 4).trans rfl⟩ (fun l=>?_);refine Qho Qcc.tab1 Qcc.bits1 (fun HT_ HW_=>?_);generalize w5.drew=w6 at a HB l ⊢;refine pz_ (i:=0) (N:=some 3) (bm 13 1) (Qhg HT_.out qq_2) ?_;refine pz_ (i:=3) (N:=some 6) (bm 13 9) (Qhg HT_.out qq_2) ?_;refine pz_ (i:=6) (N:=some 9) (bm 13 73) (Qhg HT_.out qq_2) ?_;refine tz_ (i:=1) (N:=some 4) (bm 13 75) (Qhn HT_.out HW_.out qq_2) l ?_;refine tz_ (i:=4) (N:=some 7) (bm 13 91) (Qhn HT_.out HW_.out qq_2) l ?_;refine tz_ (i:=7) (N:=some 10) (bm 13 219) (Qhn HT_.out HW_.out qq_2) l ?_;refine pz_ (i:=8) (N:=some 11) (bm 13 475) (Qhg HT_.out qq_2) ?_;refine one_ (i:=2) (N:=some 5) (bm 13 479) rfl rfl (Qhh HT_.out qq_2) (by decide) (fun K hK=>?_);refine Qgh Tryz.func66 qq_2 rfl #[.agg #[.int .u8 d,.int .u32 j]] (by rfl) rfl rfl qq_0 ?_;with_reducible refine(Qap.calls d j q _ A2.out).mono ?_
 rintro e w7 ⟨rfl,hb⟩;refine⟨_,rfl,?_⟩;have n_:=qn2 (Qed (g:=b) (o:=.cells #[.int .u8 d,.int .u32 j,.int .u32 p,.int .i64 c,.int .i64 k] 116 (0,0)) qq_1 hb) (Qfd qq_b hb);clear a HB;obtain⟨a,HB⟩:=n_
 (try clear hb)
 (try clear hb2)
 (try clear hk)
 (try clear hi)
 refine hK.out _ _ ⟨(Qdo a.out 0).trans rfl,(Qdo a.out 1).trans rfl,(Qdo a.out 2).trans rfl,(Qdo a.out 3).trans rfl,(Qdo a.out 4).trans rfl⟩ (fun l=>?_);clear hK K;refine nzp_ 5 ?_;refine pz_ (i:=5) (N:=some 8) (bm 13 511) (Qhg HT_.out qq_2) ?_;refine one_ (i:=9) (N:=some 12) (bm 13 1023) rfl rfl (Qhh HT_.out qq_2) (by decide) (fun K hK=>?_);refine Qgh Tryz.func197 qq_2 rfl #[.int .i64 (wrap64 (k+1))] (by rfl) rfl rfl qq_0 ?_;with_reducible refine(Qbp.calls (wrap64 (k+1)) s _ A3.out).mono ?_
 rintro e w8 ⟨rfl,hb⟩;refine⟨_,rfl,?_⟩;have n_:=qn2 (Qed (g:=b) (o:=.cells #[.int .u8 d,.int .u32 j,.int .u32 p,.int .i64 c,.int .i64 k] 116 (0,0)) qq_1 hb) (Qfd qq_b hb);clear a HB;obtain⟨a,HB⟩:=n_
 (try clear hb)
 (try clear hb2)
 (try clear hk)
 (try clear hi)
 refine hK.out _ _ ⟨(Qdo a.out 0).trans rfl,(Qdo a.out 1).trans rfl,(Qdo a.out 2).trans rfl,(Qdo a.out 3).trans rfl,(Qdo a.out 4).trans rfl⟩ (fun l=>?_);clear hK K;refine nzp_ 12 ?_;refine pz_ (i:=10) (N:=some 13) (bm 13 2047) (Qhg HT_.out qq_2) ?_;refine pz_ (i:=11) (N:=some 14) (bm 13 4095) (Qhg HT_.out qq_2) ?_;refine pz_ (i:=12) (N:=some 2) (bm 13 8191) (Qhg HT_.out qq_2) ?_;refine Qgd (Qhj HT_.out qq_2) ?_
 try go_wp2
 go_ret
 exact⟨by first|rfl |(simp[Qik,Qil]<;>rfl) |(simp only[← m];first|rfl |(simp[Qik,Qil]<;>rfl)) |(simp[*,Qik,Qil]<;>rfl),qq_b⟩
def Qcb.f(a0_0:Int)(a0_1:Int)(a0_2:Int)(a0_3:Int)(a0_4:Int)(a1:Int):Option (Bool):=if a1≥1 then((Qcc.f a0_0 a0_1 a0_2 a0_3 a0_4).bind fun t193=>(some (decide (a1≤t193))))else(some false)
theorem Qcb.calls(b:Int)(c:Int)(d:Int)(j:Int)(k:Int)(a1:Int)(r:Bool)(w:World)(h:Qcb.f b c d j k a1=some r) :
  Calls Tryz.prog 106 #[.agg #[.int .u8 b,.int .u32 c,.int .u32 d,.int .i64 j,.int .i64 k],.int .i64 a1] w fun e w'=>e=.returned (.bool r)∧Below w.heap.size w w':=by
 have hu116:=Tryz.underlying116;have HB:=QA (Below.refl w.heap.size w);have H:(if a1≥1 then((Qcc.f b c d j k).bind fun m=>(some (decide (a1≤m))))else(some false))=some r:=h;clear h
 by_cases c3:a1≥1
 ·rw[if_pos c3]at H;have s:decide (1≤a1)=true:=decide_eq_true c3;clear c3;replace H:=Option.bind_eq_some_iff.mp H;obtain⟨m,q,H⟩:=H;have A4:=QA q;clear q;obtain rfl:=Option.some.inj H
  go_enter Tryz.func106,Tryz.ntmps106
  go_wp2_with (first |((with_reducible refine Qfn (N:=2) rfl ?_);refine qq_e 2 #[.int .u8 b,.int .u32 c,.int .u32 d,.int .i64 j,.int .i64 k] 116 ?_;intro a hg w5 hbox hb;have n_:=qn4 (Qfd qq_b hb) (hbox) (qq_s hg:w.heap.size≤a) (qq_s hg:w.heap.size≤a);clear HB;obtain⟨HB,l,n,p⟩:=n_;clear hb hbox hg;obtain⟨t,u,v,x,y⟩:=qc5 l.out;have z:=Qdp l.out) |(go_at_call 153;(with_reducible refine(Qcc.calls b c d j k m _ A4.out).mono ?_);rintro e w7 ⟨rfl,hb⟩;have n_:=qn2 (Qed (g:=a) (o:=.cells #[.int .u8 b,.int .u32 c,.int .u32 d,.int .i64 j,.int .i64 k] 116 (0,0)) qq_1 hb) (Qfd qq_b hb);clear l HB;obtain⟨l,HB⟩:=n_;(try clear hb);(try clear hb2);(try clear hk);(try clear hi)))
  go_ret
  exact⟨qq_5,qq_b⟩
 ·rw[if_neg c3]at H;have s:decide (1≤a1)=false:=decide_eq_false c3;clear c3;obtain rfl:=Option.some.inj H
  go_enter Tryz.func106,Tryz.ntmps106
  go_wp2_with (first |((with_reducible refine Qfn (N:=2) rfl ?_);refine qq_e 2 #[.int .u8 b,.int .u32 c,.int .u32 d,.int .i64 j,.int .i64 k] 116 ?_;intro a hg w8 hbox hb;have n_:=qn4 (Qfd qq_b hb) (hbox) (qq_s hg:w.heap.size≤a) (qq_s hg:w.heap.size≤a);clear HB;obtain⟨HB,l,n,p⟩:=n_;clear hb hbox hg))
  go_ret
  exact⟨qq_5,qq_b⟩
def Qcd.f(a0_0:Int)(a0_1:Int)(a0_2:Int)(a0_3:Int)(a0_4:Int)(a1:Int):Option (Int × Int × Int × Int × Int × Int):=(Qcb.f a0_0 a0_1 a0_2 a0_3 a0_4 a1).bind fun t205=>(if t205=true then(some (a0_0,a0_1,a0_2,wrap64 (a0_3+a1),wrap64 (a0_4+1),0))else(some (0,0,0,0,0,7)))
theorem Qcd.calls(a:Int)(b:Int)(d:Int)(j:Int)(k:Int)(a1:Int)(r1:Int)(r2:Int)(r3:Int)(r4:Int)(r5:Int)(r6:Int)(w:World)(h:Qcd.f a b d j k a1=some (r1,r2,r3,r4,r5,r6)) :
  Calls Tryz.prog 61 #[.agg #[.int .u8 a,.int .u32 b,.int .u32 d,.int .i64 j,.int .i64 k],.int .i64 a1] w fun e w'=>e=.returned (.tuple #[.agg #[.int .u8 r1,.int .u32 r2,.int .u32 r3,.int .i64 r4,.int .i64 r5],.int .i64 r6])∧Below w.heap.size w w':=by
 have hu116:=Tryz.underlying116;have HB:=QA (Below.refl w.heap.size w);have H:((Qcb.f a b d j k a1).bind fun r=>(if r=true then(some (a,b,d,wrap64 (j+a1),wrap64 (k+1),0))else(some (0,0,0,0,0,7))))=some (r1,r2,r3,r4,r5,r6):=h;clear h;replace H:=Option.bind_eq_some_iff.mp H;obtain⟨r,x,H⟩:=H;have A3:=QA x;clear x
 by_cases c4:r=true
 ·subst c4;rw[if_pos rfl]at H;simp only[Option.some.injEq,Prod.mk.injEq]at H;obtain⟨rfl,rfl,rfl,rfl,rfl,rfl⟩:=H
  go_enter Tryz.func61,Tryz.ntmps61
  go_wp2_with (first |((with_reducible refine Qfn (N:=2) rfl ?_);refine qq_e 2 #[.int .u8 a,.int .u32 b,.int .u32 d,.int .i64 j,.int .i64 k] 116 ?_;intro c hg w5 hbox hb;have n_:=qn4 (Qfd qq_b hb) (hbox) (qq_s hg:w.heap.size≤c) (qq_s hg:w.heap.size≤c);clear HB;obtain⟨HB,l,s,t⟩:=n_;clear hb hbox hg) |((with_reducible refine Qfn (N:=4) rfl ?_);refine qq_e 4 #[.int .u8 0,.int .u32 0,.int .u32 0,.int .i64 0,.int .i64 0] 116 ?_;intro m hg w6 hbox hb;have n_:=qn7 (Qed (g:=c) (o:=.cells #[.int .u8 a,.int .u32 b,.int .u32 d,.int .i64 j,.int .i64 k] 116 (0,0)) qq_1 hb) (Qfd qq_b hb) (hbox) (qq_s hg:w.heap.size≤m) (qq_s hg:w.heap.size≤m) ((by rw[hg];exact Nat.ne_of_lt (Qdn (g:=c) (o:=.cells #[.int .u8 a,.int .u32 b,.int .u32 d,.int .i64 j,.int .i64 k] 116 (0,0)) qq_1):c≠m)) ((by rw[hg];exact Nat.ne_of_gt (Qdn (g:=c) (o:=.cells #[.int .u8 a,.int .u32 b,.int .u32 d,.int .i64 j,.int .i64 k] 116 (0,0)) qq_1):m≠c));clear l HB;obtain⟨l,HB,n,u,v,q,p⟩:=n_;clear hb hbox hg;have al:=q.out;have am:=p.out;obtain⟨aa,ab,ac,ad,ae⟩:=qc5 l.out;have an:=Qdp l.out) |((with_reducible refine Qif (f:=106) rfl ?_);refine Qgi (some 8) rfl rfl Tryz.func106 qq_2 rfl #[.agg #[.int .u8 a,.int .u32 b,.int .u32 d,.int .i64 j,.int .i64 k],.int .i64 a1] rfl qq_0 ?_;(with_reducible refine(Qcb.calls a b d j k a1 true _ A3.out).mono ?_);rintro e w9 ⟨rfl,hb⟩;refine⟨_,rfl,?_⟩;have n_:=qn3 (Qed (g:=c) (o:=.cells #[.int .u8 a,.int .u32 b,.int .u32 d,.int .i64 j,.int .i64 k] 116 (0,0)) qq_1 hb) (Qed (g:=m) (o:=.cells #[.int .u8 0,.int .u32 0,.int .u32 0,.int .i64 0,.int .i64 0] 116 (0,0)) qq_1 hb) (Qfd qq_b hb);clear l n HB;obtain⟨l,n,HB⟩:=n_;(try clear hb);(try clear hb2);(try clear hk);(try clear hi);obtain⟨y,z,A,B,D⟩:=qc5 l.out;have af:=Qdp l.out;obtain⟨E,G,I,J,K⟩:=qc5 n.out;have ag:=Qdp n.out))
  refine bodyPost_ret (Qef rfl _ _ m 116 #[.int .u8 a,.int .u32 b,.int .u32 d,.int .i64 (wrap64 (j+a1)),.int .i64 (wrap64 (k+1))] (0,0) _ rfl (by(with_reducible repeat(first|apply Qec|apply Qeb|apply Qea));refine Qfi (cs:=#[.int .u8 a,.int .u32 b,.int .u32 d,.int .i64 (wrap64 (j+a1)),.int .i64 0]) ?_ 4 _ rfl;(with_reducible repeat(first|apply Qec|apply Qeb|apply Qea));refine Qfi (cs:=#[.int .u8 a,.int .u32 b,.int .u32 d,.int .i64 0,.int .i64 0]) ?_ 3 _ rfl;(with_reducible repeat(first|apply Qec|apply Qeb|apply Qea));refine Qfi (cs:=#[.int .u8 a,.int .u32 b,.int .u32 0,.int .i64 0,.int .i64 0]) ?_ 2 _ rfl;(with_reducible repeat(first|apply Qec|apply Qeb|apply Qea));refine Qfi (cs:=#[.int .u8 a,.int .u32 0,.int .u32 0,.int .i64 0,.int .i64 0]) ?_ 1 _ rfl;(with_reducible repeat(first|apply Qec|apply Qeb|apply Qea));refine Qfi (cs:=#[.int .u8 0,.int .u32 0,.int .u32 0,.int .i64 0,.int .i64 0]) ?_ 0 _ rfl;(with_reducible repeat(first|apply Qec|apply Qeb|apply Qea));refine Qdm ?_ p.out _;(with_reducible repeat(first|apply Qec|apply Qeb|apply Qea));refine Qdm ?_ p.out _;(with_reducible repeat(first|apply Qec|apply Qeb|apply Qea));exact n.out) Tryz.underlying116 rfl qq_2) rfl ?_;exact⟨qq_5,qq_b⟩
 ·replace c4:=Bool.eq_false_iff.mpr c4;subst c4;rw[if_neg (show ¬(false=true)by decide)]at H;simp only[Option.some.injEq,Prod.mk.injEq]at H;obtain⟨rfl,rfl,rfl,rfl,rfl,rfl⟩:=H
  go_enter Tryz.func61,Tryz.ntmps61
  go_wp2_with (first |((with_reducible refine Qfn (N:=2) rfl ?_);refine qq_e 2 #[.int .u8 a,.int .u32 b,.int .u32 d,.int .i64 j,.int .i64 k] 116 ?_;intro c hg ao hbox hb;have n_:=qn4 (Qfd qq_b hb) (hbox) (qq_s hg:w.heap.size≤c) (qq_s hg:w.heap.size≤c);clear HB;obtain⟨HB,l,s,t⟩:=n_;clear hb hbox hg) |((with_reducible refine Qfn (N:=4) rfl ?_);refine qq_e 4 #[.int .u8 0,.int .u32 0,.int .u32 0,.int .i64 0,.int .i64 0] 116 ?_;intro m hg ap hbox hb;have n_:=qn7 (Qed (g:=c) (o:=.cells #[.int .u8 a,.int .u32 b,.int .u32 d,.int .i64 j,.int .i64 k] 116 (0,0)) qq_1 hb) (Qfd qq_b hb) (hbox) (qq_s hg:w.heap.size≤m) (qq_s hg:w.heap.size≤m) ((by rw[hg];exact Nat.ne_of_lt (Qdn (g:=c) (o:=.cells #[.int .u8 a,.int .u32 b,.int .u32 d,.int .i64 j,.int .i64 k] 116 (0,0)) qq_1):c≠m)) ((by rw[hg];exact Nat.ne_of_gt (Qdn (g:=c) (o:=.cells #[.int .u8 a,.int .u32 b,.int .u32 d,.int .i64 j,.int .i64 k] 116 (0,0)) qq_1):m≠c));clear l HB;obtain⟨l,HB,n,u,v,q,p⟩:=n_;clear hb hbox hg;have ah:=q.out;have ai:=p.out;obtain⟨L,M,O,P,T⟩:=qc5 l.out;have aj:=Qdp l.out) |((with_reducible refine Qif (f:=106) rfl ?_);refine Qgi (some 8) rfl rfl Tryz.func106 qq_2 rfl #[.agg #[.int .u8 a,.int .u32 b,.int .u32 d,.int .i64 j,.int .i64 k],.int .i64 a1] rfl qq_0 ?_;(with_reducible refine(Qcb.calls a b d j k a1 false _ A3.out).mono ?_);rintro e aq ⟨rfl,hb⟩;refine⟨_,rfl,?_⟩;have n_:=qn3 (Qed (g:=c) (o:=.cells #[.int .u8 a,.int .u32 b,.int .u32 d,.int .i64 j,.int .i64 k] 116 (0,0)) qq_1 hb) (Qed (g:=m) (o:=.cells #[.int .u8 0,.int .u32 0,.int .u32 0,.int .i64 0,.int .i64 0] 116 (0,0)) qq_1 hb) (Qfd qq_b hb);clear l n HB;obtain⟨l,n,HB⟩:=n_;(try clear hb);(try clear hb2);(try clear hk);(try clear hi);obtain⟨U,W,X,Y,Z⟩:=qc5 n.out;have ak:=Qdp n.out))
  refine bodyPost_ret (Qef rfl _ _ m 116 #[.int .u8 0,.int .u32 0,.int .u32 0,.int .i64 0,.int .i64 0] (0,0) _ rfl qq_x Tryz.underlying116 rfl qq_2) rfl ?_;exact⟨qq_5,qq_b⟩
def fascicleref14_Fits.T3:Bool × List (List Nat × List Nat):=(true,[([],[]),([0],[0]),([],[]),([1,2],[1,2]),([],[]),([4],[4]),([5],[5]),([6],[6]),([3,7],[3,7]),([8],[8]),([],[]),([10],[10]),([11,7],[11]),([9,12],[9,12]),([13,12,0,1,2,3,4,5,6,7,8,9,10,11,12,13],[13])])
def fascicleref14_Fits.B3:List Nat:=[0,1,0,7,0,16,48,112,255,511,0,1024,3312,8191,16383]
mutual
def Qci.l0:Nat→List (S37)→List (S37)→Int→Int→Option (Int)
 | 0,_,_,_,_=>none
 | k+1,x0,x7,x8,x9=>if x9<x8 then(if 0≤x9 then(if x9<(x7.length:Int)then((Qcg.f k ((Qiq x7 x9).f0) ((Qiq x7 x9).f1) ((Qiq x7 x9).f2) ((Qiq x7 x9).f3)).bind fun t208=>(if t208=0 then(Qci.l0 k x0 x7 x8 (wrap64 (x9+1)))else(some t208)))else(none))else(none))else(Qci.l1 k x0 1)
def Qci.l1:Nat→List (S37)→Int→Option (Int)
 | 0,_,_=>none
 | k+1,x0,x6=>if x6<(x0.length:Int)then(if 0≤x6 then(if 0≤(wrap64 (x6-1))then(if(wrap64 (x6-1))<(x0.length:Int)then(if((Qiq x0 x6).f1)≤((Qiq x0 (wrap64 (x6-1))).f1)then(some 8)else(Qci.l1 k x0 (wrap64 (x6+1))))else(none))else(none))else(none))else(some 0)
end
def Qci.f(k:Nat)(l0:List (S37)):Option (Int):=Qci.l0 k l0 l0 (l0.length:Int) 0
theorem Qci.calls (k:Nat) (A0:Option Addr) (c0:Nat) (l0:List (S37)) (r:Int) (w:World) (hr0:Kd.C k37 w A0 l0.length l0) (hc0:l0.length≤c0) (h:Qci.f k l0=some r) :
  Calls Tryz.prog 130 #[.slice A0 l0.length c0] w fun e w'=>e=.returned (.int .i64 r)∧Below w.heap.size w w':=by
 have hu37:=Tryz.underlying37;have L:=QA hr0;have aC:=QA hc0;clear hr0 hc0;have HB:=QA (Below.refl w.heap.size w);have H:(Qci.l0 k l0 l0 (l0.length:Int) 0)=some r:=h;clear h;have H':=QA H;clear H
 go_enter Tryz.func130,Tryz.ntmps130
 go_wp2
 repeat(go_quiet (fail);try go_wp2)
 go_loopg [9] k (fun kq v9 w'=>∃(a:Int),v9=.int .i64 a∧Aside0 (Qci.l0 kq l0 l0 (l0.length:Int) a=some r)∧Aside0 (kq≤k)∧Aside0 (Below w.heap.size w w'))
 case atStart=>exact⟨(0),qq_4,H',⟨Nat.le_refl _⟩,⟨qq_b⟩⟩
 case round =>
  clear H';obtain⟨a,rfl,HA,HK1,HB⟩:=hrel
  cases gk with
  | zero=>exact absurd HA.out (by simp[Qci.l0])
  | succ k1 =>
   have H:=HA.out;clear HA;simp only[Qci.l0]at H
   by_cases c2:a<(l0.length:Int)
   ·rw [if_pos c2]at H;have af:=decide_eq_true c2;clear c2
    by_cases c3:0≤a
    ·rw[if_pos c3]at H;have av:=decide_eq_true c3;clear c3
     by_cases c4:a<(l0.length:Int)
     ·rw[if_pos c4]at H;have aw:=decide_eq_true c4;clear c4;replace H:=Option.bind_eq_some_iff.mp H;obtain⟨D,au,H⟩:=H;have A5:=QA au;clear au
      by_cases c6:D=0
      ·rw[if_pos c6]at H;have ag:(D == 0)=true:=beq_iff_eq.mpr c6;have ah:(D != 0)=false:=bne_eq_false_iff_eq.mpr c6;clear c6;have H':=QA H;clear H;have A:0≤(a:Int):=of_decide_eq_true qq_6;have B:a<(l0.length:Int):=of_decide_eq_true qq_6;obtain⟨am,U,j,l,m,n⟩:=Qir L.out a A B
       cases U
       replace j:=qq_h HB.out j;replace l:=qq_h HB.out l;replace m:=qq_h HB.out m;replace n:=qq_h HB.out n;replace A:=eq_true A;replace B:=eq_true B
       go_wp2_with (first |((with_reducible refine Qfn (N:=4) rfl ?_);refine qq_e 4 #[.bool false,.int .u64 0,.string (⟨#[]⟩:ByteArray),.string (⟨#[]⟩:ByteArray)] 37 ?_;intro z hg w7 hbox hb;have n_:=qn4 (Qfd qq_b hb) (hbox) (qq_s hg:w.heap.size≤z) (qq_s hg:w.heap.size≤z);clear HB;obtain⟨HB,d,an,ao⟩:=n_;clear hb hbox hg;obtain⟨ai,aj,ak,al⟩:=qc4 d.out;have ax:=Qdp d.out) |(go_at_call 58;(with_reducible refine(Qcg.calls k1 ((Qiq l0 a).f0) ((Qiq l0 a).f1) ((Qiq l0 a).f2) ((Qiq l0 a).f3) D _ A5.out).mono ?_);rintro e w9 ⟨rfl,hb⟩;have n_:=qn2 (Qed (g:=z) (o:=.cells #[.bool ((Qiq l0 a).f0),.int .u64 ((Qiq l0 a).f1),.string ((Qiq l0 a).f2),.string ((Qiq l0 a).f3)] 37 (0,0)) qq_x hb) (Qfd qq_b hb);clear d HB;obtain⟨d,HB⟩:=n_;(try clear hb);(try clear hb2);(try clear hk);(try clear hi)))
       go_roundg k1
       case measure=>have:=HK1.out;omega
       case rel=>exact⟨(wrap64 (a+1)),qq_4,H',⟨by have:=HK1.out;omega⟩,⟨qq_b⟩⟩
      ·rw[if_neg c6]at H;have ag:(D == 0)=false:=beq_eq_false_iff_ne.mpr c6;have ah:(D != 0)=true:=bne_iff_ne.mpr c6;obtain rfl:=Option.some.inj H;have A:0≤(a:Int):=of_decide_eq_true qq_6;have B:a<(l0.length:Int):=of_decide_eq_true qq_6;obtain⟨am,U,j,l,m,n⟩:=Qir L.out a A B
       cases U
       replace j:=qq_h HB.out j;replace l:=qq_h HB.out l;replace m:=qq_h HB.out m;replace n:=qq_h HB.out n;replace A:=eq_true A;replace B:=eq_true B
       go_wp2_with (first |((with_reducible refine Qfn (N:=4) rfl ?_);refine qq_e 4 #[.bool false,.int .u64 0,.string (⟨#[]⟩:ByteArray),.string (⟨#[]⟩:ByteArray)] 37 ?_;intro z hg aD hbox hb;have n_:=qn4 (Qfd qq_b hb) (hbox) (qq_s hg:w.heap.size≤z) (qq_s hg:w.heap.size≤z);clear HB;obtain⟨HB,d,an,ao⟩:=n_;clear hb hbox hg;obtain⟨ab,ac,ad,ae⟩:=qc4 d.out;have ap:=Qdp d.out) |(go_at_call 58;(with_reducible refine(Qcg.calls k1 ((Qiq l0 a).f0) ((Qiq l0 a).f1) ((Qiq l0 a).f2) ((Qiq l0 a).f3) D _ A5.out).mono ?_);rintro e aE ⟨rfl,hb⟩;have n_:=qn2 (Qed (g:=z) (o:=.cells #[.bool ((Qiq l0 a).f0),.int .u64 ((Qiq l0 a).f1),.string ((Qiq l0 a).f2),.string ((Qiq l0 a).f3)] 37 (0,0)) qq_x hb) (Qfd qq_b hb);clear d HB;obtain⟨d,HB⟩:=n_;(try clear hb);(try clear hb2);(try clear hk);(try clear hi)))
       go_ret
       exact⟨qq_5,qq_b⟩
     ·rw[if_neg c4]at H;exact absurd H (by simp)
    ·rw[if_neg c3]at H;exact absurd H (by simp)
   ·rw [if_neg c2]at H;have af:=decide_eq_false c2;clear c2;have H':=QA H;clear H;go_wp2
    repeat(go_quiet (fail);try go_wp2)
    go_loopg [6] k1 (fun kq v6 w'=>∃(b:Int),v6=.int .i64 b∧Aside0 (Qci.l1 kq l0 b=some r)∧Aside0 (kq≤k1)∧Aside0 (Below w.heap.size w w'))
    case atStart=>exact⟨(1),qq_4,H',⟨Nat.le_refl _⟩,⟨qq_b⟩⟩
    case round =>
     clear H'
     try clear c2
     try clear af
     try clear c3
     try clear av
     try clear c4
     try clear aw
     try clear c6
     try clear ag
     try clear ah
     try clear ab
     try clear ac
     try clear ad
     try clear ae
     try clear ai
     try clear aj
     try clear ak
     try clear al
     try clear ap
     try clear ax
     try clear j
     try clear l
     try clear m
     try clear n
     try clear A
     try clear B
     obtain⟨b,rfl,HA,HK2,HB⟩:=hrel
     cases gk with
     | zero=>exact absurd HA.out (by simp[Qci.l1])
     | succ k2 =>
      have H:=HA.out;clear HA;simp only[Qci.l1]at H
      by_cases M:b<(l0.length:Int)
      ·rw [if_pos M]at H;have aq:=decide_eq_true M;clear M
       by_cases Y:0≤b
       ·rw [if_pos Y]at H;have az:=decide_eq_true Y;clear Y;obtain⟨c,K⟩:∃j_:Int,(wrap64 (b-1))=j_:=⟨_,rfl⟩;replace H:(if 0≤(c)then(if(c)<(l0.length:Int)then(if((Qiq l0 b).f1)≤((Qiq l0 (c)).f1)then(some 8)else(Qci.l1 k2 l0 (wrap64 (b+1))))else(none))else(none))=some r:=by first |(rw[K]at H;exact H) |(simp only[K]at H ⊢;exact H)
        have ay:(IntKind.i64.wrap (b-1))=c:=(Qgk _).trans K
        by_cases Z:0≤(c)
        ·rw[if_pos Z]at H;have aA:=decide_eq_true Z;clear Z
         by_cases aa:(c)<(l0.length:Int)
         ·rw[if_pos aa]at H;have aB:=decide_eq_true aa;clear aa
          by_cases O:((Qiq l0 b).f1)≤((Qiq l0 (c)).f1)
          ·rw[if_pos O]at H;have ar:=decide_eq_true O;clear O;obtain rfl:=Option.some.inj H;have E:0≤(b:Int):=of_decide_eq_true qq_6;have G:b<(l0.length:Int):=of_decide_eq_true qq_6;obtain⟨P,W,p,q,s,t⟩:=Qir L.out b E G
           cases W
           replace p:=qq_h HB.out p;replace q:=qq_h HB.out q;replace s:=qq_h HB.out s;replace t:=qq_h HB.out t;replace E:=eq_true E;replace G:=eq_true G;have I:0≤((c):Int):=of_decide_eq_true qq_6;have J:(c)<(l0.length:Int):=of_decide_eq_true qq_6;obtain⟨T,X,u,v,x,y⟩:=Qir L.out (c) I J;obtain rfl:P=T:=(by injection X);replace u:=qq_h HB.out u;replace v:=qq_h HB.out v;replace x:=qq_h HB.out x;replace y:=qq_h HB.out y;replace I:=eq_true I;replace J:=eq_true J;go_wp2
           repeat(go_quiet (fail);try go_wp2)
           go_ret
           exact⟨by first|rfl |(simp[Qik,Qil]<;>rfl) |(simp only[← K];first|rfl |(simp[Qik,Qil]<;>rfl)) |(simp[*,Qik,Qil]<;>rfl),qq_b⟩
          ·rw[if_neg O]at H;have ar:=decide_eq_false O;clear O;have H':=QA H;clear H;have E:0≤(b:Int):=of_decide_eq_true qq_6;have G:b<(l0.length:Int):=of_decide_eq_true qq_6;obtain⟨P,W,p,q,s,t⟩:=Qir L.out b E G
           cases W
           replace p:=qq_h HB.out p;replace q:=qq_h HB.out q;replace s:=qq_h HB.out s;replace t:=qq_h HB.out t;replace E:=eq_true E;replace G:=eq_true G;have I:0≤((c):Int):=of_decide_eq_true qq_6;have J:(c)<(l0.length:Int):=of_decide_eq_true qq_6;obtain⟨T,X,u,v,x,y⟩:=Qir L.out (c) I J;obtain rfl:P=T:=(by injection X);replace u:=qq_h HB.out u;replace v:=qq_h HB.out v;replace x:=qq_h HB.out x;replace y:=qq_h HB.out y;replace I:=eq_true I;replace J:=eq_true J;go_wp2
           repeat(go_quiet (fail);try go_wp2)
           go_roundg k2
           case measure=>have:=HK1.out;have:=HK2.out;omega
           case rel=>exact⟨(wrap64 (b+1)),qq_4,H',⟨by have:=HK1.out;have:=HK2.out;omega⟩,⟨qq_b⟩⟩
         ·rw[if_neg aa]at H;exact absurd H (by simp)
        ·rw[if_neg Z]at H;exact absurd H (by simp)
       ·rw[if_neg Y]at H;exact absurd H (by simp)
      ·rw[if_neg M]at H;have aq:=decide_eq_false M;clear M;obtain rfl:=Option.some.inj H;go_wp2
       repeat(go_quiet (fail);try go_wp2)
       go_ret
       exact⟨qq_5,qq_b⟩
def Qab.f(a0:Int)(a1:Int):Option (Int × Int):=some (IntKind.u64.wrap ((IntKind.u64.wrap ((IntKind.u64.wrap ((a0/4294967296)*(a1/4294967296)))+((IntKind.u64.wrap ((IntKind.u64.wrap ((a0/4294967296)*(Go.bits .and .u64 a1 4294967295)))+((IntKind.u64.wrap ((Go.bits .and .u64 a0 4294967295)*(Go.bits .and .u64 a1 4294967295)))/4294967296)))/4294967296)))+((IntKind.u64.wrap ((Go.bits .and .u64 (IntKind.u64.wrap ((IntKind.u64.wrap ((a0/4294967296)*(Go.bits .and .u64 a1 4294967295)))+((IntKind.u64.wrap ((Go.bits .and .u64 a0 4294967295)*(Go.bits .and .u64 a1 4294967295)))/4294967296))) 4294967295)+(IntKind.u64.wrap ((Go.bits .and .u64 a0 4294967295)*(a1/4294967296)))))/4294967296)),IntKind.u64.wrap (a0*a1))
theorem Qab.calls(a0:Int)(a1:Int)(r1:Int)(r2:Int)(w:World)(h:Qab.f a0 a1=some (r1,r2)) :
  Calls Tryz.prog 203 #[.int .u64 a0,.int .u64 a1] w fun e w'=>e=.returned (.tuple #[.int .u64 r1,.int .u64 r2])∧Drawn0 w w':=by
 have H:(some (IntKind.u64.wrap ((IntKind.u64.wrap ((IntKind.u64.wrap ((a0/4294967296)*(a1/4294967296)))+((IntKind.u64.wrap ((IntKind.u64.wrap ((a0/4294967296)*(Go.bits .and .u64 a1 4294967295)))+((IntKind.u64.wrap ((Go.bits .and .u64 a0 4294967295)*(Go.bits .and .u64 a1 4294967295)))/4294967296)))/4294967296)))+((IntKind.u64.wrap ((Go.bits .and .u64 (IntKind.u64.wrap ((IntKind.u64.wrap ((a0/4294967296)*(Go.bits .and .u64 a1 4294967295)))+((IntKind.u64.wrap ((Go.bits .and .u64 a0 4294967295)*(Go.bits .and .u64 a1 4294967295)))/4294967296))) 4294967295)+(IntKind.u64.wrap ((Go.bits .and .u64 a0 4294967295)*(a1/4294967296)))))/4294967296)),IntKind.u64.wrap (a0*a1)))=some (r1,r2):=h;clear h;simp only[Option.some.injEq,Prod.mk.injEq]at H;obtain⟨rfl,rfl⟩:=H
 go_enter Tryz.func203,Tryz.ntmps203
 go_wp2
 go_ret2
 exact⟨by first|rfl |(simp;done) |(simp[*];done),by repeat(first|exact Drawn0.refl _|apply Drawn0.step)⟩
def Qaa.f(a0:Int)(a1:Int):Option (Int × Int):=(Qab.f a0 a1).bind fun bt175=>(some (bt175.1,bt175.2))
theorem Qaa.calls(a0:Int)(a1:Int)(r1:Int)(r2:Int)(w:World)(h:Qaa.f a0 a1=some (r1,r2)) :
  Calls Tryz.prog 157 #[.int .u64 a0,.int .u64 a1] w fun e w'=>e=.returned (.tuple #[.int .u64 r1,.int .u64 r2])∧Drawn0 w w':=by
 have H:((Qab.f a0 a1).bind fun bt175=>(some (bt175.1,bt175.2)))=some (r1,r2):=h;clear h;replace H:=Option.bind_eq_some_iff.mp H;obtain⟨⟨t175,t176⟩,A30,H⟩:=H;replace H:(some (t175,t176))=some (r1,r2):=H;have A3:=QA A30;clear A30;simp only[Option.some.injEq,Prod.mk.injEq]at H;obtain⟨rfl,rfl⟩:=H
 go_enter Tryz.func157,Tryz.ntmps157
 go_wp2_with (first |((with_reducible refine Qif (f:=203) rfl ?_);refine Qgi (some 25) rfl rfl Tryz.func203 qq_2 rfl #[.int .u64 a0,.int .u64 a1] rfl qq_0 ?_;(with_reducible refine(Qab.calls a0 a1 t175 t176 _ A3.out).mono ?_);rintro e w' ⟨rfl,⟨nd,rfl⟩⟩;refine⟨_,rfl,?_⟩))
 go_ret2
 exact⟨by first|rfl |(simp;done) |(simp[*];done),by repeat(first|exact Drawn0.refl _|apply Drawn0.step)⟩
end Go.Proofs.YteaocbonofboeaaGreat.C
end
