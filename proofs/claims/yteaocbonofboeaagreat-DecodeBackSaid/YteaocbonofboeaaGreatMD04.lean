/- Merged texts. -/
import Derived.Test.YteaocbonofboeaaGreatMD02
import Derived.Test.YteaocbonofboeaaGreatMD03
set_option linter.unusedVariables false
set_option linter.unusedSimpArgs false
set_option maxHeartbeats 8000000
set_option maxRecDepth 100000
section
namespace Go.Proofs.YteaocbonofboeaaGreat.C
open Go.RowKit Go.Proofs.YteaocbonofboeaaGreatW.PrintWords Go.Proofs.YteaocbonofboeaaGreatW.PrintLast Go.Proofs.YteaocbonofboeaaGreatW.PrintMore
attribute [local go_sem] Qhl Qhm Qhn Qho Qhp Qhq Qhr Qhs
def Qbc.f(a0:Int):Option (Int):=(Qbb.f (mx 0 a0)).bind fun t187=>((Qbi.f (wrap64 ((wrap64 (9+(wrap64 (12*(mx 0 a0)))))+(wrap64 (8*t187))))).bind fun t188=>(some t188))
theorem Qbc.calls(a0:Int)(r:Int)(w:World)(h:Qbc.f a0=some r) :
  Calls Tryz.prog 197 #[.int .i64 a0] w fun e w'=>e=.returned (.int .i64 r)∧Below w.heap.size w w':=by
 have HB:=QA (Below.refl w.heap.size w);have H:((Qbb.f (mx 0 a0)).bind fun a=>((Qbi.f (wrap64 ((wrap64 (9+(wrap64 (12*(mx 0 a0)))))+(wrap64 (8*a))))).bind fun c=>(some c)))=some r:=h;clear h;obtain⟨b,hji2⟩:∃j_:Int,(mx 0 a0)=j_:=⟨_,rfl⟩;replace H:((Qbb.f (b)).bind fun a=>((Qbi.f (wrap64 ((wrap64 (9+(wrap64 (12*(b)))))+(wrap64 (8*a))))).bind fun c=>(some c)))=some r:=by first |(rw[hji2]at H;exact H) |(simp only[hji2]at H ⊢;exact H)
 (try(have j:0≤b:=by(rw[← hji2];unfold mx;(repeat' split)<;>omega)))
 (try(have k:0≤b:=by omega))
 have l:(if 0<a0 then a0 else 0)=b:=hji2;replace H:=Option.bind_eq_some_iff.mp H;obtain⟨a,d,H⟩:=H;have A3:=QA d;clear d;replace H:=Option.bind_eq_some_iff.mp H;obtain⟨c,g,H⟩:=H;have A4:=QA g;clear g;obtain rfl:=Option.some.inj H
 go_enter Tryz.func197,Tryz.ntmps197
 go_wp2_with (first |((with_reducible refine Qht (f:=182) rfl ?_);refine Qft (some 9) rfl rfl Tryz.func182 qq_4 rfl #[.int .i64 b] rfl qq_19 ?_;(with_reducible refine(Qbb.calls b a _ A3.out).mono ?_);rintro e w5 ⟨rfl,hb⟩;refine⟨_,rfl,?_⟩;have n_:=qn1 (Qeo qq_b hb);clear HB;have HB:=n_;clear n_;(try clear hb);(try clear hb2);(try clear hk);(try clear hi)) |((with_reducible refine Qht (f:=228) rfl ?_);refine Qft (some 12) rfl rfl Tryz.func228 qq_4 rfl #[.int .i64 (wrap64 ((wrap64 (9+(wrap64 (12*(b)))))+(wrap64 (8*a))))] rfl qq_19 ?_;(with_reducible refine(Qbi.calls (wrap64 ((wrap64 (9+(wrap64 (12*(b)))))+(wrap64 (8*a)))) c _ A4.out).mono ?_);rintro e w6 ⟨rfl,hb⟩;refine⟨_,rfl,?_⟩;have n_:=qn1 (Qeo qq_b hb);clear HB;have HB:=n_;clear n_;(try clear hb);(try clear hb2);(try clear hk);(try clear hi)))
 go_ret
 exact⟨by first|rfl |(simp[Qhy,Qhz]<;>rfl) |(simp only[← hji2];first|rfl |(simp[Qhy,Qhz]<;>rfl)) |(simp[*,Qhy,Qhz]<;>rfl),qq_b⟩
def Qbp.f(a0_0:Int)(a0_1:Int)(a0_2:Int)(a0_3:Int)(a0_4:Int):Option (Int):=(Qaq.f a0_0 a0_1).bind fun t190=>((Qbc.f (wrap64 (a0_4+1))).bind fun t191=>(some (mx 0 (wrap64 ((wrap64 (t190-a0_3))-t191)))))
def Qbp.T1:Bool × List (List Nat × List Nat):=(true,[([],[]),([0],[0]),([1],[1]),([],[]),([3],[3]),([2,4],[2,4]),([],[]),([6],[6]),([7],[7]),([8,2],[8]),([5,9],[5,9]),([10],[10]),([11,9,0,1,2,3,4,5,6,7,8,9,10,11],[11])])
def Qbp.B1:List Nat:=[0,1,3,0,8,31,0,64,192,455,1023,2047,4095]
theorem Qbp.tab1:rtab .any (Qha Tryz.f153 1)=Qbp.T1:=by kernel_rfl
theorem Qbp.bits1:Qgu Qbp.T1.2 Qbp.B1=true:=by kernel_rfl
theorem Qbp.calls(d:Int)(j:Int)(p:Int)(c:Int)(k:Int)(r:Int)(w:World)(h:Qbp.f d j p c k=some r) :
  Calls Tryz.prog 153 #[.agg #[.int .u8 d,.int .u32 j,.int .u32 p,.int .i64 c,.int .i64 k]] w fun e w'=>e=.returned (.int .i64 r)∧Below w.heap.size w w':=by
 have hu116:=Tryz.underlying116;have hu28:=Tryz.underlying28;have HB:=QA (Below.refl w.heap.size w);have H:((Qaq.f d j).bind fun q=>((Qbc.f (wrap64 (k+1))).bind fun s=>(some (mx 0 (wrap64 ((wrap64 (q-c))-s))))))=some r:=h;clear h;replace H:=Option.bind_eq_some_iff.mp H;obtain⟨q,u,H⟩:=H;have A2:=QA u;clear u;replace H:=Option.bind_eq_some_iff.mp H;obtain⟨s,v,H⟩:=H;have A3:=QA v;clear v;obtain⟨t,m⟩:∃j_:Int,(mx 0 (wrap64 ((wrap64 (q-c))-s)))=j_:=⟨_,rfl⟩;replace H:(some t)=some r:=by first |(rw[m]at H;exact H) |(simp only[m]at H ⊢;exact H)
 (try rw[m]at A2)
 (try rw[m]at A3)
 (try(have x:0≤t:=by(rw[← m];unfold mx;(repeat' split)<;>omega)))
 (try(have y:0≤t:=by omega))
 have z:(if 0<(wrap64 ((wrap64 (q-c))-s))then(wrap64 ((wrap64 (q-c))-s))else 0)=t:=m;obtain rfl:=Option.some.inj H
 go_enter Tryz.func153,Tryz.ntmps153
 try go_wp2_with (first |((with_reducible refine Qey (N:=1) rfl ?_);refine qq_e 1 #[.int .u8 d,.int .u32 j,.int .u32 p,.int .i64 c,.int .i64 k] 116 ?_;intro b hg w5 hbox hb;have n_:=qn4 (Qeo qq_b hb) (hbox) (qq_s hg:w.heap.size≤b) (qq_s hg:w.heap.size≤b);clear HB;obtain⟨HB,a,A,B⟩:=n_;clear hb hbox hg))
 have n_:=qn2 (Qdm a.out) (Qev HB.out);clear a HB;obtain⟨a,HB⟩:=n_;refine Qfk (n:=13) (S:=fun w'=>w'.cell? ⟨b,0,none⟩=some (.int .u8 d)∧w'.cell? ⟨b,1,none⟩=some (.int .u32 j)∧w'.cell? ⟨b,2,none⟩=some (.int .u32 p)∧w'.cell? ⟨b,3,none⟩=some (.int .i64 c)∧w'.cell? ⟨b,4,none⟩=some (.int .i64 k)) (ds:=[]) (bm 13 0) qq_4 rfl rfl ⟨(Qdb a.out 0).trans rfl,(Qdb a.out 1).trans rfl,(Qdb a.out 2).trans rfl,(Qdb a.out 3).trans rfl,(Qdb a.out 4).trans rfl⟩ (fun l=>?_);refine Qgy Qbp.tab1 Qbp.bits1 (fun HT_ HW_=>?_);generalize w5.drew=w6 at a HB l ⊢;refine pz_ (i:=0) (N:=some 3) (bm 13 1) (Qgq HT_.out qq_4) ?_;refine pz_ (i:=3) (N:=some 6) (bm 13 9) (Qgq HT_.out qq_4) ?_;refine pz_ (i:=6) (N:=some 9) (bm 13 73) (Qgq HT_.out qq_4) ?_;refine tz_ (i:=1) (N:=some 4) (bm 13 75) (Qgx HT_.out HW_.out qq_4) l ?_;refine tz_ (i:=4) (N:=some 7) (bm 13 91) (Qgx HT_.out HW_.out qq_4) l ?_;refine tz_ (i:=7) (N:=some 10) (bm 13 219) (Qgx HT_.out HW_.out qq_4) l ?_;refine pz_ (i:=8) (N:=some 11) (bm 13 475) (Qgq HT_.out qq_4) ?_;refine one_ (i:=2) (N:=some 5) (bm 13 479) rfl rfl (Qgr HT_.out qq_4) (by decide) (fun K hK=>?_);refine Qfs Tryz.func66 qq_4 rfl #[.agg #[.int .u8 d,.int .u32 j]] (by rfl) rfl rfl qq_1 ?_;with_reducible refine(Qaq.calls d j q _ A2.out).mono ?_
 rintro e w7 ⟨rfl,hb⟩;refine⟨_,rfl,?_⟩;have n_:=qn2 (Qdo (g:=b) (o:=.cells #[.int .u8 d,.int .u32 j,.int .u32 p,.int .i64 c,.int .i64 k] 116 (0,0)) qq_0 hb) (Qeo qq_b hb);clear a HB;obtain⟨a,HB⟩:=n_
 (try clear hb)
 (try clear hb2)
 (try clear hk)
 (try clear hi)
 refine hK.out _ _ ⟨(Qdb a.out 0).trans rfl,(Qdb a.out 1).trans rfl,(Qdb a.out 2).trans rfl,(Qdb a.out 3).trans rfl,(Qdb a.out 4).trans rfl⟩ (fun l=>?_);clear hK K;refine nzp_ 5 ?_;refine pz_ (i:=5) (N:=some 8) (bm 13 511) (Qgq HT_.out qq_4) ?_;refine one_ (i:=9) (N:=some 12) (bm 13 1023) rfl rfl (Qgr HT_.out qq_4) (by decide) (fun K hK=>?_);refine Qfs Tryz.func197 qq_4 rfl #[.int .i64 (wrap64 (k+1))] (by rfl) rfl rfl qq_1 ?_;with_reducible refine(Qbc.calls (wrap64 (k+1)) s _ A3.out).mono ?_
 rintro e w8 ⟨rfl,hb⟩;refine⟨_,rfl,?_⟩;have n_:=qn2 (Qdo (g:=b) (o:=.cells #[.int .u8 d,.int .u32 j,.int .u32 p,.int .i64 c,.int .i64 k] 116 (0,0)) qq_0 hb) (Qeo qq_b hb);clear a HB;obtain⟨a,HB⟩:=n_
 (try clear hb)
 (try clear hb2)
 (try clear hk)
 (try clear hi)
 refine hK.out _ _ ⟨(Qdb a.out 0).trans rfl,(Qdb a.out 1).trans rfl,(Qdb a.out 2).trans rfl,(Qdb a.out 3).trans rfl,(Qdb a.out 4).trans rfl⟩ (fun l=>?_);clear hK K;refine nzp_ 12 ?_;refine pz_ (i:=10) (N:=some 13) (bm 13 2047) (Qgq HT_.out qq_4) ?_;refine pz_ (i:=11) (N:=some 14) (bm 13 4095) (Qgq HT_.out qq_4) ?_;refine pz_ (i:=12) (N:=some 2) (bm 13 8191) (Qgq HT_.out qq_4) ?_;refine Qfo (Qgt HT_.out qq_4) ?_
 try go_wp2
 go_ret
 exact⟨by first|rfl |(simp[Qhy,Qhz]<;>rfl) |(simp only[← m];first|rfl |(simp[Qhy,Qhz]<;>rfl)) |(simp[*,Qhy,Qhz]<;>rfl),qq_b⟩
def Qbo.f(a0_0:Int)(a0_1:Int)(a0_2:Int)(a0_3:Int)(a0_4:Int)(a1:Int):Option (Bool):=if a1≥1 then((Qbp.f a0_0 a0_1 a0_2 a0_3 a0_4).bind fun t193=>(some (decide (a1≤t193))))else(some false)
theorem Qbo.calls(b:Int)(c:Int)(d:Int)(j:Int)(k:Int)(a1:Int)(r:Bool)(w:World)(h:Qbo.f b c d j k a1=some r) :
  Calls Tryz.prog 106 #[.agg #[.int .u8 b,.int .u32 c,.int .u32 d,.int .i64 j,.int .i64 k],.int .i64 a1] w fun e w'=>e=.returned (.bool r)∧Below w.heap.size w w':=by
 have hu116:=Tryz.underlying116;have HB:=QA (Below.refl w.heap.size w);have H:(if a1≥1 then((Qbp.f b c d j k).bind fun m=>(some (decide (a1≤m))))else(some false))=some r:=h;clear h
 by_cases c3:a1≥1
 ·rw[if_pos c3]at H;have s:decide (1≤a1)=true:=decide_eq_true c3;clear c3;replace H:=Option.bind_eq_some_iff.mp H;obtain⟨m,q,H⟩:=H;have A4:=QA q;clear q;obtain rfl:=Option.some.inj H
  go_enter Tryz.func106,Tryz.ntmps106
  go_wp2_with (first |((with_reducible refine Qey (N:=2) rfl ?_);refine qq_e 2 #[.int .u8 b,.int .u32 c,.int .u32 d,.int .i64 j,.int .i64 k] 116 ?_;intro a hg w5 hbox hb;have n_:=qn4 (Qeo qq_b hb) (hbox) (qq_s hg:w.heap.size≤a) (qq_s hg:w.heap.size≤a);clear HB;obtain⟨HB,l,n,p⟩:=n_;clear hb hbox hg;obtain⟨t,u,v,x,y⟩:=qc5 l.out;have z:=Qdc l.out) |(go_at_call 153;(with_reducible refine(Qbp.calls b c d j k m _ A4.out).mono ?_);rintro e w7 ⟨rfl,hb⟩;have n_:=qn2 (Qdo (g:=a) (o:=.cells #[.int .u8 b,.int .u32 c,.int .u32 d,.int .i64 j,.int .i64 k] 116 (0,0)) qq_0 hb) (Qeo qq_b hb);clear l HB;obtain⟨l,HB⟩:=n_;(try clear hb);(try clear hb2);(try clear hk);(try clear hi)))
  go_ret
  exact⟨qq_3,qq_b⟩
 ·rw[if_neg c3]at H;have s:decide (1≤a1)=false:=decide_eq_false c3;clear c3;obtain rfl:=Option.some.inj H
  go_enter Tryz.func106,Tryz.ntmps106
  go_wp2_with (first |((with_reducible refine Qey (N:=2) rfl ?_);refine qq_e 2 #[.int .u8 b,.int .u32 c,.int .u32 d,.int .i64 j,.int .i64 k] 116 ?_;intro a hg w8 hbox hb;have n_:=qn4 (Qeo qq_b hb) (hbox) (qq_s hg:w.heap.size≤a) (qq_s hg:w.heap.size≤a);clear HB;obtain⟨HB,l,n,p⟩:=n_;clear hb hbox hg))
  go_ret
  exact⟨qq_3,qq_b⟩
def Qbq.f(a0_0:Int)(a0_1:Int)(a0_2:Int)(a0_3:Int)(a0_4:Int)(a1:Int):Option (Int × Int × Int × Int × Int × Int):=(Qbo.f a0_0 a0_1 a0_2 a0_3 a0_4 a1).bind fun t205=>(if t205=true then(some (a0_0,a0_1,a0_2,wrap64 (a0_3+a1),wrap64 (a0_4+1),0))else(some (0,0,0,0,0,7)))
theorem Qbq.calls(a:Int)(b:Int)(d:Int)(j:Int)(k:Int)(a1:Int)(r1:Int)(r2:Int)(r3:Int)(r4:Int)(r5:Int)(r6:Int)(w:World)(h:Qbq.f a b d j k a1=some (r1,r2,r3,r4,r5,r6)) :
  Calls Tryz.prog 61 #[.agg #[.int .u8 a,.int .u32 b,.int .u32 d,.int .i64 j,.int .i64 k],.int .i64 a1] w fun e w'=>e=.returned (.tuple #[.agg #[.int .u8 r1,.int .u32 r2,.int .u32 r3,.int .i64 r4,.int .i64 r5],.int .i64 r6])∧Below w.heap.size w w':=by
 have hu116:=Tryz.underlying116;have HB:=QA (Below.refl w.heap.size w);have H:((Qbo.f a b d j k a1).bind fun r=>(if r=true then(some (a,b,d,wrap64 (j+a1),wrap64 (k+1),0))else(some (0,0,0,0,0,7))))=some (r1,r2,r3,r4,r5,r6):=h;clear h;replace H:=Option.bind_eq_some_iff.mp H;obtain⟨r,x,H⟩:=H;have A3:=QA x;clear x
 by_cases c4:r=true
 ·subst c4;rw[if_pos rfl]at H;simp only[Option.some.injEq,Prod.mk.injEq]at H;obtain⟨rfl,rfl,rfl,rfl,rfl,rfl⟩:=H
  go_enter Tryz.func61,Tryz.ntmps61
  go_wp2_with (first |((with_reducible refine Qey (N:=2) rfl ?_);refine qq_e 2 #[.int .u8 a,.int .u32 b,.int .u32 d,.int .i64 j,.int .i64 k] 116 ?_;intro c hg w5 hbox hb;have n_:=qn4 (Qeo qq_b hb) (hbox) (qq_s hg:w.heap.size≤c) (qq_s hg:w.heap.size≤c);clear HB;obtain⟨HB,l,s,t⟩:=n_;clear hb hbox hg) |((with_reducible refine Qey (N:=4) rfl ?_);refine qq_e 4 #[.int .u8 0,.int .u32 0,.int .u32 0,.int .i64 0,.int .i64 0] 116 ?_;intro m hg w6 hbox hb;have n_:=qn7 (Qdo (g:=c) (o:=.cells #[.int .u8 a,.int .u32 b,.int .u32 d,.int .i64 j,.int .i64 k] 116 (0,0)) qq_0 hb) (Qeo qq_b hb) (hbox) (qq_s hg:w.heap.size≤m) (qq_s hg:w.heap.size≤m) ((by rw[hg];exact Nat.ne_of_lt (Qda (g:=c) (o:=.cells #[.int .u8 a,.int .u32 b,.int .u32 d,.int .i64 j,.int .i64 k] 116 (0,0)) qq_0):c≠m)) ((by rw[hg];exact Nat.ne_of_gt (Qda (g:=c) (o:=.cells #[.int .u8 a,.int .u32 b,.int .u32 d,.int .i64 j,.int .i64 k] 116 (0,0)) qq_0):m≠c));clear l HB;obtain⟨l,HB,n,u,v,q,p⟩:=n_;clear hb hbox hg;have al:=q.out;have am:=p.out;obtain⟨aa,ab,ac,ad,ae⟩:=qc5 l.out;have an:=Qdc l.out) |((with_reducible refine Qht (f:=106) rfl ?_);refine Qft (some 8) rfl rfl Tryz.func106 qq_4 rfl #[.agg #[.int .u8 a,.int .u32 b,.int .u32 d,.int .i64 j,.int .i64 k],.int .i64 a1] rfl qq_1 ?_;(with_reducible refine(Qbo.calls a b d j k a1 true _ A3.out).mono ?_);rintro e w9 ⟨rfl,hb⟩;refine⟨_,rfl,?_⟩;have n_:=qn3 (Qdo (g:=c) (o:=.cells #[.int .u8 a,.int .u32 b,.int .u32 d,.int .i64 j,.int .i64 k] 116 (0,0)) qq_0 hb) (Qdo (g:=m) (o:=.cells #[.int .u8 0,.int .u32 0,.int .u32 0,.int .i64 0,.int .i64 0] 116 (0,0)) qq_0 hb) (Qeo qq_b hb);clear l n HB;obtain⟨l,n,HB⟩:=n_;(try clear hb);(try clear hb2);(try clear hk);(try clear hi);obtain⟨y,z,A,B,D⟩:=qc5 l.out;have af:=Qdc l.out;obtain⟨E,G,I,J,K⟩:=qc5 n.out;have ag:=Qdc n.out))
  refine bodyPost_ret (Qdq rfl _ _ m 116 #[.int .u8 a,.int .u32 b,.int .u32 d,.int .i64 (wrap64 (j+a1)),.int .i64 (wrap64 (k+1))] (0,0) _ rfl (by(with_reducible repeat(first|apply Qdn|apply Qdm|apply Qdl));refine Qeu (cs:=#[.int .u8 a,.int .u32 b,.int .u32 d,.int .i64 (wrap64 (j+a1)),.int .i64 0]) ?_ 4 _ rfl;(with_reducible repeat(first|apply Qdn|apply Qdm|apply Qdl));refine Qeu (cs:=#[.int .u8 a,.int .u32 b,.int .u32 d,.int .i64 0,.int .i64 0]) ?_ 3 _ rfl;(with_reducible repeat(first|apply Qdn|apply Qdm|apply Qdl));refine Qeu (cs:=#[.int .u8 a,.int .u32 b,.int .u32 0,.int .i64 0,.int .i64 0]) ?_ 2 _ rfl;(with_reducible repeat(first|apply Qdn|apply Qdm|apply Qdl));refine Qeu (cs:=#[.int .u8 a,.int .u32 0,.int .u32 0,.int .i64 0,.int .i64 0]) ?_ 1 _ rfl;(with_reducible repeat(first|apply Qdn|apply Qdm|apply Qdl));refine Qeu (cs:=#[.int .u8 0,.int .u32 0,.int .u32 0,.int .i64 0,.int .i64 0]) ?_ 0 _ rfl;(with_reducible repeat(first|apply Qdn|apply Qdm|apply Qdl));refine Qcz ?_ p.out _;(with_reducible repeat(first|apply Qdn|apply Qdm|apply Qdl));refine Qcz ?_ p.out _;(with_reducible repeat(first|apply Qdn|apply Qdm|apply Qdl));exact n.out) Tryz.underlying116 rfl qq_4) rfl ?_;exact⟨qq_3,qq_b⟩
 ·replace c4:=Bool.eq_false_iff.mpr c4;subst c4;rw[if_neg (show ¬(false=true)by decide)]at H;simp only[Option.some.injEq,Prod.mk.injEq]at H;obtain⟨rfl,rfl,rfl,rfl,rfl,rfl⟩:=H
  go_enter Tryz.func61,Tryz.ntmps61
  go_wp2_with (first |((with_reducible refine Qey (N:=2) rfl ?_);refine qq_e 2 #[.int .u8 a,.int .u32 b,.int .u32 d,.int .i64 j,.int .i64 k] 116 ?_;intro c hg ao hbox hb;have n_:=qn4 (Qeo qq_b hb) (hbox) (qq_s hg:w.heap.size≤c) (qq_s hg:w.heap.size≤c);clear HB;obtain⟨HB,l,s,t⟩:=n_;clear hb hbox hg) |((with_reducible refine Qey (N:=4) rfl ?_);refine qq_e 4 #[.int .u8 0,.int .u32 0,.int .u32 0,.int .i64 0,.int .i64 0] 116 ?_;intro m hg ap hbox hb;have n_:=qn7 (Qdo (g:=c) (o:=.cells #[.int .u8 a,.int .u32 b,.int .u32 d,.int .i64 j,.int .i64 k] 116 (0,0)) qq_0 hb) (Qeo qq_b hb) (hbox) (qq_s hg:w.heap.size≤m) (qq_s hg:w.heap.size≤m) ((by rw[hg];exact Nat.ne_of_lt (Qda (g:=c) (o:=.cells #[.int .u8 a,.int .u32 b,.int .u32 d,.int .i64 j,.int .i64 k] 116 (0,0)) qq_0):c≠m)) ((by rw[hg];exact Nat.ne_of_gt (Qda (g:=c) (o:=.cells #[.int .u8 a,.int .u32 b,.int .u32 d,.int .i64 j,.int .i64 k] 116 (0,0)) qq_0):m≠c));clear l HB;obtain⟨l,HB,n,u,v,q,p⟩:=n_;clear hb hbox hg;have ah:=q.out;have ai:=p.out;obtain⟨L,M,O,P,T⟩:=qc5 l.out;have aj:=Qdc l.out) |((with_reducible refine Qht (f:=106) rfl ?_);refine Qft (some 8) rfl rfl Tryz.func106 qq_4 rfl #[.agg #[.int .u8 a,.int .u32 b,.int .u32 d,.int .i64 j,.int .i64 k],.int .i64 a1] rfl qq_1 ?_;(with_reducible refine(Qbo.calls a b d j k a1 false _ A3.out).mono ?_);rintro e aq ⟨rfl,hb⟩;refine⟨_,rfl,?_⟩;have n_:=qn3 (Qdo (g:=c) (o:=.cells #[.int .u8 a,.int .u32 b,.int .u32 d,.int .i64 j,.int .i64 k] 116 (0,0)) qq_0 hb) (Qdo (g:=m) (o:=.cells #[.int .u8 0,.int .u32 0,.int .u32 0,.int .i64 0,.int .i64 0] 116 (0,0)) qq_0 hb) (Qeo qq_b hb);clear l n HB;obtain⟨l,n,HB⟩:=n_;(try clear hb);(try clear hb2);(try clear hk);(try clear hi);obtain⟨U,W,X,Y,Z⟩:=qc5 n.out;have ak:=Qdc n.out))
  refine bodyPost_ret (Qdq rfl _ _ m 116 #[.int .u8 0,.int .u32 0,.int .u32 0,.int .i64 0,.int .i64 0] (0,0) _ rfl qq_x Tryz.underlying116 rfl qq_4) rfl ?_;exact⟨qq_3,qq_b⟩
def Qab.f(a0:Int)(a1:Int):Option (Int × Int):=some (IntKind.u64.wrap ((IntKind.u64.wrap ((IntKind.u64.wrap ((a0/4294967296)*(a1/4294967296)))+((IntKind.u64.wrap ((IntKind.u64.wrap ((a0/4294967296)*(Go.bits .and .u64 a1 4294967295)))+((IntKind.u64.wrap ((Go.bits .and .u64 a0 4294967295)*(Go.bits .and .u64 a1 4294967295)))/4294967296)))/4294967296)))+((IntKind.u64.wrap ((Go.bits .and .u64 (IntKind.u64.wrap ((IntKind.u64.wrap ((a0/4294967296)*(Go.bits .and .u64 a1 4294967295)))+((IntKind.u64.wrap ((Go.bits .and .u64 a0 4294967295)*(Go.bits .and .u64 a1 4294967295)))/4294967296))) 4294967295)+(IntKind.u64.wrap ((Go.bits .and .u64 a0 4294967295)*(a1/4294967296)))))/4294967296)),IntKind.u64.wrap (a0*a1))
theorem Qab.calls(a0:Int)(a1:Int)(r1:Int)(r2:Int)(w:World)(h:Qab.f a0 a1=some (r1,r2)) :
  Calls Tryz.prog 203 #[.int .u64 a0,.int .u64 a1] w fun e w'=>e=.returned (.tuple #[.int .u64 r1,.int .u64 r2])∧Drawn0 w w':=by
 have H:(some (IntKind.u64.wrap ((IntKind.u64.wrap ((IntKind.u64.wrap ((a0/4294967296)*(a1/4294967296)))+((IntKind.u64.wrap ((IntKind.u64.wrap ((a0/4294967296)*(Go.bits .and .u64 a1 4294967295)))+((IntKind.u64.wrap ((Go.bits .and .u64 a0 4294967295)*(Go.bits .and .u64 a1 4294967295)))/4294967296)))/4294967296)))+((IntKind.u64.wrap ((Go.bits .and .u64 (IntKind.u64.wrap ((IntKind.u64.wrap ((a0/4294967296)*(Go.bits .and .u64 a1 4294967295)))+((IntKind.u64.wrap ((Go.bits .and .u64 a0 4294967295)*(Go.bits .and .u64 a1 4294967295)))/4294967296))) 4294967295)+(IntKind.u64.wrap ((Go.bits .and .u64 a0 4294967295)*(a1/4294967296)))))/4294967296)),IntKind.u64.wrap (a0*a1)))=some (r1,r2):=h;clear h;simp only[Option.some.injEq,Prod.mk.injEq]at H;obtain⟨rfl,rfl⟩:=H
 go_enter Tryz.func203,Tryz.ntmps203
 go_wp2
 go_ret2
 exact⟨by first|rfl |(simp;done) |(simp[*];done),by repeat(first|exact Drawn0.refl _|apply Drawn0.step)⟩
def Qaa.f(a0:Int)(a1:Int):Option (Int × Int):=(Qab.f a0 a1).bind fun bt175=>(some (bt175.1,bt175.2))
theorem Qaa.calls(a0:Int)(a1:Int)(r1:Int)(r2:Int)(w:World)(h:Qaa.f a0 a1=some (r1,r2)) :
  Calls Tryz.prog 157 #[.int .u64 a0,.int .u64 a1] w fun e w'=>e=.returned (.tuple #[.int .u64 r1,.int .u64 r2])∧Drawn0 w w':=by
 have H:((Qab.f a0 a1).bind fun bt175=>(some (bt175.1,bt175.2)))=some (r1,r2):=h;clear h;replace H:=Option.bind_eq_some_iff.mp H;obtain⟨⟨t175,t176⟩,A30,H⟩:=H;replace H:(some (t175,t176))=some (r1,r2):=H;have A3:=QA A30;clear A30;simp only[Option.some.injEq,Prod.mk.injEq]at H;obtain⟨rfl,rfl⟩:=H
 go_enter Tryz.func157,Tryz.ntmps157
 go_wp2_with (first |((with_reducible refine Qht (f:=203) rfl ?_);refine Qft (some 25) rfl rfl Tryz.func203 qq_4 rfl #[.int .u64 a0,.int .u64 a1] rfl qq_1 ?_;(with_reducible refine(Qab.calls a0 a1 t175 t176 _ A3.out).mono ?_);rintro e w' ⟨rfl,⟨nd,rfl⟩⟩;refine⟨_,rfl,?_⟩))
 go_ret2
 exact⟨by first|rfl |(simp;done) |(simp[*];done),by repeat(first|exact Drawn0.refl _|apply Drawn0.step)⟩
def Qai.l0:Nat→Int→List Int→Int→Int→Option (Int)
 | 0,_,_,_,_=>none
 | k+1,x3,x6,x7,x8=>if x8<x7 then(if 0≤x8 then(if x8<(x6.length:Int)then(if(rd x6 x8)=x3 then(Qai.l0 k x3 x6 x7 (wrap64 (x8+1)))else(some (rd x6 x8)))else(none))else(none))else(some x3)
def Qai.f(k:Nat)(l0:List Int):Option (Int):=Qai.l0 k 0 l0 (l0.length:Int) 0
theorem Qai.mono_l:∀k,(∀y0 y1 y2 y3,LeO (Qai.l0 k y0 y1 y2 y3) (Qai.l0 (k+1) y0 y1 y2 y3))
 | 0=>fun _ _ _ _ r h=>by simp[Qai.l0]at h
 | k+1=>by
  have ih0:=Qai.mono_l k
  ·intro y0 y1 y2 y3;unfold Qai.l0
   repeat' first
   |(with_reducible exact ih0 _ _ _ _)
   |(with_reducible exact LeO.refl _)
   |(with_reducible exact LeO.none _)
   |(with_reducible refine LeO.ite ?_ ?_)
   |(with_reducible refine LeO.bind ?_ (fun _=>?_))
   | exact ih0 _ _ _ _
   | exact LeO.none _
   | refine LeO.ite ?_ ?_
   | refine LeO.bind ?_ (fun _=>?_)
theorem Qai.mono:∀a0 k,LeO (Qai.f k a0) (Qai.f (k+1) a0):=by
 intro a0 k;have ih0:=Qai.mono_l k;unfold Qai.f
 repeat' first
   |(with_reducible exact ih0 _ _ _ _)
   |(with_reducible exact LeO.refl _)
   |(with_reducible exact LeO.none _)
   |(with_reducible refine LeO.ite ?_ ?_)
   |(with_reducible refine LeO.bind ?_ (fun _=>?_))
   | exact ih0 _ _ _ _
   | exact LeO.none _
   | refine LeO.ite ?_ ?_
   | refine LeO.bind ?_ (fun _=>?_)
theorem Qai.calls(k:Nat)(A0:Option Addr)(c0:Nat)(l0:List Int)(r:Int)(w:World)(hr0:Kd.C (Kd.int .i64) w A0 l0.length l0)(hc0:l0.length≤c0)(h:Qai.f k l0=some r) :
  Calls Tryz.prog 165 #[.slice A0 l0.length c0] w fun e w'=>e=.returned (.int .i64 r)∧Drawn0 w w':=by
 have l:=QA hr0;have s:=QA hc0;clear hr0 hc0;have H:(Qai.l0 k 0 l0 (l0.length:Int) 0)=some r:=h;clear h;have H':=QA H;clear H
 go_enter Tryz.func165,Tryz.ntmps165
 go_wp2
 go_loopg [8] k (fun kq v8 w'=>∃(a:Int),v8=.int .i64 a∧Aside0 (Qai.l0 kq 0 l0 (l0.length:Int) a=some r)∧Aside0 (kq≤k)∧Drawn0 w w')
 case atStart=>exact⟨(0),qq_8,H',⟨Nat.le_refl _⟩,by repeat(first|exact Drawn0.refl _|apply Drawn0.step)⟩
 case round =>
  clear H';obtain⟨a,rfl,HA,HK1,⟨m1,rfl⟩⟩:=hrel
  cases gk with
  | zero=>exact absurd HA.out (by simp[Qai.l0])
  | succ k1 =>
   have H:=HA.out;clear HA;simp only[Qai.l0]at H
   by_cases c2:a<(l0.length:Int)
   ·rw [if_pos c2]at H;have m:=decide_eq_true c2;clear c2
    by_cases c3:0≤a
    ·rw[if_pos c3]at H;have p:=decide_eq_true c3;clear c3
     by_cases c4:a<(l0.length:Int)
     ·rw[if_pos c4]at H;have q:=decide_eq_true c4;clear c4
      by_cases c5:(rd l0 a)=0
      ·rw[if_pos c5]at H;have n:((rd l0 a) == 0)=true:=beq_iff_eq.mpr c5;have o:((rd l0 a) != 0)=false:=bne_eq_false_iff_eq.mpr c5;clear c5;have H':=QA H;clear H;have b:0≤(a:Int):=of_decide_eq_true qq_2;have c:a<(l0.length:Int):=of_decide_eq_true qq_2;obtain⟨j,d,g⟩:=Kd.at_int l.out a b c
       cases d
       replace b:=eq_true b;replace c:=eq_true c;go_wp2
       go_roundg k1
       case measure=>have:=HK1.out;omega
       case rel=>exact⟨(wrap64 (a+1)),qq_8,H',⟨by have:=HK1.out;omega⟩,by repeat(first|exact Drawn0.refl _|apply Drawn0.step)⟩
      ·rw[if_neg c5]at H;have n:((rd l0 a) == 0)=false:=beq_eq_false_iff_ne.mpr c5;have o:((rd l0 a) != 0)=true:=bne_iff_ne.mpr c5;obtain rfl:=Option.some.inj H;have b:0≤(a:Int):=of_decide_eq_true qq_2;have c:a<(l0.length:Int):=of_decide_eq_true qq_2;obtain⟨j,d,g⟩:=Kd.at_int l.out a b c
       cases d
       replace b:=eq_true b;replace c:=eq_true c;go_wp2;go_ret
       exact⟨by first|rfl |(simp;done) |(simp[*];done),by repeat(first|exact Drawn0.refl _|apply Drawn0.step)⟩
     ·rw[if_neg c4]at H;exact absurd H (by simp)
    ·rw[if_neg c3]at H;exact absurd H (by simp)
   ·rw[if_neg c2]at H;have m:=decide_eq_false c2;clear c2;obtain rfl:=Option.some.inj H;go_wp2;go_ret
    exact⟨by first|rfl |(simp;done) |(simp[*];done),by repeat(first|exact Drawn0.refl _|apply Drawn0.step)⟩
def Qaj.f(a0:Int):Option (Bool):=some (a0 != a0)
theorem Qaj.calls(a0:Int)(r:Bool)(w:World)(h:Qaj.f a0=some r) :
  Calls Tryz.prog 217 #[.int .u32 a0] w fun e w'=>e=.returned (.bool r)∧Drawn0 w w':=by
 have H:(some (a0 != a0))=some r:=h;clear h;obtain rfl:=Option.some.inj H
 go_enter Tryz.func217,Tryz.ntmps217
 go_wp2;go_ret
 exact⟨by first|rfl |(simp;done) |(simp[*];done),by repeat(first|exact Drawn0.refl _|apply Drawn0.step)⟩
def Qaf.f(a0:Int)(a1:Int):Option (Int):=(Qaj.f a0).bind fun t272=>((Qaj.f a1).bind fun t273=>(if t272=true then(if t273=true then(some 0)else(some (-1)))else(if t273=true then(some 1)else(if a0<a1 then(some (-1))else(if a0 > a1 then(some 1)else(some 0))))))
theorem Qaf.calls(a0:Int)(a1:Int)(r:Int)(w:World)(h:Qaf.f a0 a1=some r) :
  Calls Tryz.prog 167 #[.int .u32 a0,.int .u32 a1] w fun e w'=>e=.returned (.int .i64 r)∧Drawn0 w w':=by
 have H:((Qaj.f a0).bind fun b=>((Qaj.f a1).bind fun a=>(if b=true then(if a=true then(some 0)else(some (-1)))else(if a=true then(some 1)else(if a0<a1 then(some (-1))else(if a0 > a1 then(some 1)else(some 0)))))))=some r:=h;clear h;replace H:=Option.bind_eq_some_iff.mp H;obtain⟨b,c,H⟩:=H;have A3:=QA c;clear c;replace H:=Option.bind_eq_some_iff.mp H;obtain⟨a,d,H⟩:=H;have A4:=QA d;clear d
 by_cases c5:b=true
 ·subst c5;rw[if_pos rfl]at H
  by_cases c6:a=true
  ·subst c6;rw[if_pos rfl]at H;obtain rfl:=Option.some.inj H
   go_enter Tryz.func167,Tryz.ntmps167
   go_wp2_with (first |((with_reducible refine Qht (f:=217) rfl ?_);refine Qft (some 8) rfl rfl Tryz.func217 qq_4 rfl #[.int .u32 a0] rfl qq_1 ?_;(with_reducible refine(Qaj.calls a0 true _ A3.out).mono ?_);rintro e w' ⟨rfl,⟨nd,rfl⟩⟩;refine⟨_,rfl,?_⟩) |((with_reducible refine Qht (f:=217) rfl ?_);refine Qft (some 10) rfl rfl Tryz.func217 qq_4 rfl #[.int .u32 a1] rfl qq_1 ?_;(with_reducible refine(Qaj.calls a1 true _ A4.out).mono ?_);rintro e w' ⟨rfl,⟨nd,rfl⟩⟩;refine⟨_,rfl,?_⟩))
   go_ret
   exact⟨by first|rfl |(simp;done) |(simp[*];done),by repeat(first|exact Drawn0.refl _|apply Drawn0.step)⟩
  ·replace c6:=Bool.eq_false_iff.mpr c6;subst c6;rw[if_neg (show ¬(false=true)by decide)]at H;obtain rfl:=Option.some.inj H
   go_enter Tryz.func167,Tryz.ntmps167
   go_wp2_with (first |((with_reducible refine Qht (f:=217) rfl ?_);refine Qft (some 8) rfl rfl Tryz.func217 qq_4 rfl #[.int .u32 a0] rfl qq_1 ?_;(with_reducible refine(Qaj.calls a0 true _ A3.out).mono ?_);rintro e w' ⟨rfl,⟨nd,rfl⟩⟩;refine⟨_,rfl,?_⟩) |((with_reducible refine Qht (f:=217) rfl ?_);refine Qft (some 10) rfl rfl Tryz.func217 qq_4 rfl #[.int .u32 a1] rfl qq_1 ?_;(with_reducible refine(Qaj.calls a1 false _ A4.out).mono ?_);rintro e w' ⟨rfl,⟨nd,rfl⟩⟩;refine⟨_,rfl,?_⟩))
   go_ret
   exact⟨by first|rfl |(simp;done) |(simp[*];done),by repeat(first|exact Drawn0.refl _|apply Drawn0.step)⟩
 ·replace c5:=Bool.eq_false_iff.mpr c5;subst c5;rw[if_neg (show ¬(false=true)by decide)]at H
  by_cases c7:a=true
  ·subst c7;rw[if_pos rfl]at H;obtain rfl:=Option.some.inj H
   go_enter Tryz.func167,Tryz.ntmps167
   go_wp2_with (first |((with_reducible refine Qht (f:=217) rfl ?_);refine Qft (some 8) rfl rfl Tryz.func217 qq_4 rfl #[.int .u32 a0] rfl qq_1 ?_;(with_reducible refine(Qaj.calls a0 false _ A3.out).mono ?_);rintro e w' ⟨rfl,⟨nd,rfl⟩⟩;refine⟨_,rfl,?_⟩) |((with_reducible refine Qht (f:=217) rfl ?_);refine Qft (some 10) rfl rfl Tryz.func217 qq_4 rfl #[.int .u32 a1] rfl qq_1 ?_;(with_reducible refine(Qaj.calls a1 true _ A4.out).mono ?_);rintro e w' ⟨rfl,⟨nd,rfl⟩⟩;refine⟨_,rfl,?_⟩))
   go_ret
   exact⟨by first|rfl |(simp;done) |(simp[*];done),by repeat(first|exact Drawn0.refl _|apply Drawn0.step)⟩
  ·replace c7:=Bool.eq_false_iff.mpr c7;subst c7;rw[if_neg (show ¬(false=true)by decide)]at H
   by_cases c8:a0<a1
   ·rw[if_pos c8]at H;have g:=decide_eq_true c8;clear c8;obtain rfl:=Option.some.inj H
    go_enter Tryz.func167,Tryz.ntmps167
    go_wp2_with (first |((with_reducible refine Qht (f:=217) rfl ?_);refine Qft (some 8) rfl rfl Tryz.func217 qq_4 rfl #[.int .u32 a0] rfl qq_1 ?_;(with_reducible refine(Qaj.calls a0 false _ A3.out).mono ?_);rintro e w' ⟨rfl,⟨nd,rfl⟩⟩;refine⟨_,rfl,?_⟩) |((with_reducible refine Qht (f:=217) rfl ?_);refine Qft (some 10) rfl rfl Tryz.func217 qq_4 rfl #[.int .u32 a1] rfl qq_1 ?_;(with_reducible refine(Qaj.calls a1 false _ A4.out).mono ?_);rintro e w' ⟨rfl,⟨nd,rfl⟩⟩;refine⟨_,rfl,?_⟩))
    go_ret
    exact⟨by first|rfl |(simp;done) |(simp[*];done),by repeat(first|exact Drawn0.refl _|apply Drawn0.step)⟩
   ·rw[if_neg c8]at H;have g:=decide_eq_false c8;clear c8
    by_cases c9:a0 > a1
    ·rw[if_pos c9]at H;have j:decide (a1<a0)=true:=decide_eq_true c9;clear c9;obtain rfl:=Option.some.inj H
     go_enter Tryz.func167,Tryz.ntmps167
     go_wp2_with (first |((with_reducible refine Qht (f:=217) rfl ?_);refine Qft (some 8) rfl rfl Tryz.func217 qq_4 rfl #[.int .u32 a0] rfl qq_1 ?_;(with_reducible refine(Qaj.calls a0 false _ A3.out).mono ?_);rintro e w' ⟨rfl,⟨nd,rfl⟩⟩;refine⟨_,rfl,?_⟩) |((with_reducible refine Qht (f:=217) rfl ?_);refine Qft (some 10) rfl rfl Tryz.func217 qq_4 rfl #[.int .u32 a1] rfl qq_1 ?_;(with_reducible refine(Qaj.calls a1 false _ A4.out).mono ?_);rintro e w' ⟨rfl,⟨nd,rfl⟩⟩;refine⟨_,rfl,?_⟩))
     go_ret
     exact⟨by first|rfl |(simp;done) |(simp[*];done),by repeat(first|exact Drawn0.refl _|apply Drawn0.step)⟩
    ·rw[if_neg c9]at H;have j:decide (a1<a0)=false:=decide_eq_false c9;clear c9;obtain rfl:=Option.some.inj H
     go_enter Tryz.func167,Tryz.ntmps167
     go_wp2_with (first |((with_reducible refine Qht (f:=217) rfl ?_);refine Qft (some 8) rfl rfl Tryz.func217 qq_4 rfl #[.int .u32 a0] rfl qq_1 ?_;(with_reducible refine(Qaj.calls a0 false _ A3.out).mono ?_);rintro e w' ⟨rfl,⟨nd,rfl⟩⟩;refine⟨_,rfl,?_⟩) |((with_reducible refine Qht (f:=217) rfl ?_);refine Qft (some 10) rfl rfl Tryz.func217 qq_4 rfl #[.int .u32 a1] rfl qq_1 ?_;(with_reducible refine(Qaj.calls a1 false _ A4.out).mono ?_);rintro e w' ⟨rfl,⟨nd,rfl⟩⟩;refine⟨_,rfl,?_⟩))
     go_ret
     exact⟨by first|rfl |(simp;done) |(simp[*];done),by repeat(first|exact Drawn0.refl _|apply Drawn0.step)⟩
def Qak.f(a0:Int):Option (Bool):=some (a0 != a0)
theorem Qak.calls(a0:Int)(r:Bool)(w:World)(h:Qak.f a0=some r) :
  Calls Tryz.prog 216 #[.int .u64 a0] w fun e w'=>e=.returned (.bool r)∧Drawn0 w w':=by
 have H:(some (a0 != a0))=some r:=h;clear h;obtain rfl:=Option.some.inj H
 go_enter Tryz.func216,Tryz.ntmps216
 go_wp2;go_ret
 exact⟨by first|rfl |(simp;done) |(simp[*];done),by repeat(first|exact Drawn0.refl _|apply Drawn0.step)⟩
def Qag.f(a0:Int)(a1:Int):Option (Int):=(Qak.f a0).bind fun t270=>((Qak.f a1).bind fun t271=>(if t270=true then(if t271=true then(some 0)else(some (-1)))else(if t271=true then(some 1)else(if a0<a1 then(some (-1))else(if a0 > a1 then(some 1)else(some 0))))))
theorem Qag.calls(a0:Int)(a1:Int)(r:Int)(w:World)(h:Qag.f a0 a1=some r) :
  Calls Tryz.prog 166 #[.int .u64 a0,.int .u64 a1] w fun e w'=>e=.returned (.int .i64 r)∧Drawn0 w w':=by
 have H:((Qak.f a0).bind fun b=>((Qak.f a1).bind fun a=>(if b=true then(if a=true then(some 0)else(some (-1)))else(if a=true then(some 1)else(if a0<a1 then(some (-1))else(if a0 > a1 then(some 1)else(some 0)))))))=some r:=h;clear h;replace H:=Option.bind_eq_some_iff.mp H;obtain⟨b,c,H⟩:=H;have A3:=QA c;clear c;replace H:=Option.bind_eq_some_iff.mp H;obtain⟨a,d,H⟩:=H;have A4:=QA d;clear d
 by_cases c5:b=true
 ·subst c5;rw[if_pos rfl]at H
  by_cases c6:a=true
  ·subst c6;rw[if_pos rfl]at H;obtain rfl:=Option.some.inj H
   go_enter Tryz.func166,Tryz.ntmps166
   go_wp2_with (first |((with_reducible refine Qht (f:=216) rfl ?_);refine Qft (some 8) rfl rfl Tryz.func216 qq_4 rfl #[.int .u64 a0] rfl qq_1 ?_;(with_reducible refine(Qak.calls a0 true _ A3.out).mono ?_);rintro e w' ⟨rfl,⟨nd,rfl⟩⟩;refine⟨_,rfl,?_⟩) |((with_reducible refine Qht (f:=216) rfl ?_);refine Qft (some 10) rfl rfl Tryz.func216 qq_4 rfl #[.int .u64 a1] rfl qq_1 ?_;(with_reducible refine(Qak.calls a1 true _ A4.out).mono ?_);rintro e w' ⟨rfl,⟨nd,rfl⟩⟩;refine⟨_,rfl,?_⟩))
   go_ret
   exact⟨by first|rfl |(simp;done) |(simp[*];done),by repeat(first|exact Drawn0.refl _|apply Drawn0.step)⟩
  ·replace c6:=Bool.eq_false_iff.mpr c6;subst c6;rw[if_neg (show ¬(false=true)by decide)]at H;obtain rfl:=Option.some.inj H
   go_enter Tryz.func166,Tryz.ntmps166
   go_wp2_with (first |((with_reducible refine Qht (f:=216) rfl ?_);refine Qft (some 8) rfl rfl Tryz.func216 qq_4 rfl #[.int .u64 a0] rfl qq_1 ?_;(with_reducible refine(Qak.calls a0 true _ A3.out).mono ?_);rintro e w' ⟨rfl,⟨nd,rfl⟩⟩;refine⟨_,rfl,?_⟩) |((with_reducible refine Qht (f:=216) rfl ?_);refine Qft (some 10) rfl rfl Tryz.func216 qq_4 rfl #[.int .u64 a1] rfl qq_1 ?_;(with_reducible refine(Qak.calls a1 false _ A4.out).mono ?_);rintro e w' ⟨rfl,⟨nd,rfl⟩⟩;refine⟨_,rfl,?_⟩))
   go_ret
   exact⟨by first|rfl |(simp;done) |(simp[*];done),by repeat(first|exact Drawn0.refl _|apply Drawn0.step)⟩
 ·replace c5:=Bool.eq_false_iff.mpr c5;subst c5;rw[if_neg (show ¬(false=true)by decide)]at H
  by_cases c7:a=true
  ·subst c7;rw[if_pos rfl]at H;obtain rfl:=Option.some.inj H
   go_enter Tryz.func166,Tryz.ntmps166
   go_wp2_with (first |((with_reducible refine Qht (f:=216) rfl ?_);refine Qft (some 8) rfl rfl Tryz.func216 qq_4 rfl #[.int .u64 a0] rfl qq_1 ?_;(with_reducible refine(Qak.calls a0 false _ A3.out).mono ?_);rintro e w' ⟨rfl,⟨nd,rfl⟩⟩;refine⟨_,rfl,?_⟩) |((with_reducible refine Qht (f:=216) rfl ?_);refine Qft (some 10) rfl rfl Tryz.func216 qq_4 rfl #[.int .u64 a1] rfl qq_1 ?_;(with_reducible refine(Qak.calls a1 true _ A4.out).mono ?_);rintro e w' ⟨rfl,⟨nd,rfl⟩⟩;refine⟨_,rfl,?_⟩))
   go_ret
   exact⟨by first|rfl |(simp;done) |(simp[*];done),by repeat(first|exact Drawn0.refl _|apply Drawn0.step)⟩
  ·replace c7:=Bool.eq_false_iff.mpr c7;subst c7;rw[if_neg (show ¬(false=true)by decide)]at H
   by_cases c8:a0<a1
   ·rw[if_pos c8]at H;have g:=decide_eq_true c8;clear c8;obtain rfl:=Option.some.inj H
    go_enter Tryz.func166,Tryz.ntmps166
    go_wp2_with (first |((with_reducible refine Qht (f:=216) rfl ?_);refine Qft (some 8) rfl rfl Tryz.func216 qq_4 rfl #[.int .u64 a0] rfl qq_1 ?_;(with_reducible refine(Qak.calls a0 false _ A3.out).mono ?_);rintro e w' ⟨rfl,⟨nd,rfl⟩⟩;refine⟨_,rfl,?_⟩) |((with_reducible refine Qht (f:=216) rfl ?_);refine Qft (some 10) rfl rfl Tryz.func216 qq_4 rfl #[.int .u64 a1] rfl qq_1 ?_;(with_reducible refine(Qak.calls a1 false _ A4.out).mono ?_);rintro e w' ⟨rfl,⟨nd,rfl⟩⟩;refine⟨_,rfl,?_⟩))
    go_ret
    exact⟨by first|rfl |(simp;done) |(simp[*];done),by repeat(first|exact Drawn0.refl _|apply Drawn0.step)⟩
   ·rw[if_neg c8]at H;have g:=decide_eq_false c8;clear c8
    by_cases c9:a0 > a1
    ·rw[if_pos c9]at H;have j:decide (a1<a0)=true:=decide_eq_true c9;clear c9;obtain rfl:=Option.some.inj H
     go_enter Tryz.func166,Tryz.ntmps166
     go_wp2_with (first |((with_reducible refine Qht (f:=216) rfl ?_);refine Qft (some 8) rfl rfl Tryz.func216 qq_4 rfl #[.int .u64 a0] rfl qq_1 ?_;(with_reducible refine(Qak.calls a0 false _ A3.out).mono ?_);rintro e w' ⟨rfl,⟨nd,rfl⟩⟩;refine⟨_,rfl,?_⟩) |((with_reducible refine Qht (f:=216) rfl ?_);refine Qft (some 10) rfl rfl Tryz.func216 qq_4 rfl #[.int .u64 a1] rfl qq_1 ?_;(with_reducible refine(Qak.calls a1 false _ A4.out).mono ?_);rintro e w' ⟨rfl,⟨nd,rfl⟩⟩;refine⟨_,rfl,?_⟩))
     go_ret
     exact⟨by first|rfl |(simp;done) |(simp[*];done),by repeat(first|exact Drawn0.refl _|apply Drawn0.step)⟩
    ·rw[if_neg c9]at H;have j:decide (a1<a0)=false:=decide_eq_false c9;clear c9;obtain rfl:=Option.some.inj H
     go_enter Tryz.func166,Tryz.ntmps166
     go_wp2_with (first |((with_reducible refine Qht (f:=216) rfl ?_);refine Qft (some 8) rfl rfl Tryz.func216 qq_4 rfl #[.int .u64 a0] rfl qq_1 ?_;(with_reducible refine(Qak.calls a0 false _ A3.out).mono ?_);rintro e w' ⟨rfl,⟨nd,rfl⟩⟩;refine⟨_,rfl,?_⟩) |((with_reducible refine Qht (f:=216) rfl ?_);refine Qft (some 10) rfl rfl Tryz.func216 qq_4 rfl #[.int .u64 a1] rfl qq_1 ?_;(with_reducible refine(Qak.calls a1 false _ A4.out).mono ?_);rintro e w' ⟨rfl,⟨nd,rfl⟩⟩;refine⟨_,rfl,?_⟩))
     go_ret
     exact⟨by first|rfl |(simp;done) |(simp[*];done),by repeat(first|exact Drawn0.refl _|apply Drawn0.step)⟩
end Go.Proofs.YteaocbonofboeaaGreat.C
end
