/- Merged texts. -/
import Derived.Test.YtepkfjmjidjedaaGreatMA02
set_option linter.unusedVariables false
set_option linter.unusedSimpArgs false
set_option maxHeartbeats 8000000
set_option maxRecDepth 100000
section
namespace Go.Proofs.YtepkfjmjidjedaaGreat.C
open Go.RowKit Go.Proofs.YtepkfjmjidjedaaGreatW.PrintWords Go.Proofs.YtepkfjmjidjedaaGreatW.PrintLast Go.Proofs.YtepkfjmjidjedaaGreatW.PrintMore
attribute [local go_sem] Qho Qhp Qhq Qhr Qhs Qht Qhu Qhv
def Qbs.f(a0_0:Int)(a0_1:Int)(a0_2:Int)(a0_3:Int)(a0_4:Int)(a1:Int):Option (Bool):=if a1≥1 then((Qbt.f a0_0 a0_1 a0_2 a0_3 a0_4).bind fun t135=>(some (decide (a1≤t135))))else(some false)
theorem Qbs.calls(b:Int)(c:Int)(d:Int)(j:Int)(k:Int)(a1:Int)(r:Bool)(w:World)(h:Qbs.f b c d j k a1=some r) :
  Calls Tryz.prog 139 #[.agg #[.int .u8 b,.int .u32 c,.int .u32 d,.int .i64 j,.int .i64 k],.int .i64 a1] w fun e w'=>e=.returned (.bool r)∧Below w.heap.size w w':=by
 have hu125:=Tryz.underlying125;have HB:=QA (Below.refl w.heap.size w);have H:(if a1≥1 then((Qbt.f b c d j k).bind fun m=>(some (decide (a1≤m))))else(some false))=some r:=h;clear h
 by_cases c3:a1≥1
 ·rw[if_pos c3]at H;have s:decide (1≤a1)=true:=decide_eq_true c3;clear c3;replace H:=Option.bind_eq_some_iff.mp H;obtain⟨m,q,H⟩:=H;have A4:=QA q;clear q;obtain rfl:=Option.some.inj H
  go_enter Tryz.func139,Tryz.ntmps139
  go_wp2_with (first |((with_reducible refine Qfc (N:=2) rfl ?_);refine qq_e 2 #[.int .u8 b,.int .u32 c,.int .u32 d,.int .i64 j,.int .i64 k] 125 ?_;intro a hg w5 hbox hb;have n_:=qn4 (Qes qq_b hb) (hbox) (qq_s hg:w.heap.size≤a) (qq_s hg:w.heap.size≤a);clear HB;obtain⟨HB,l,n,p⟩:=n_;clear hb hbox hg;obtain⟨t,u,v,x,y⟩:=qc5 l.out;have z:=Qdg l.out) |(go_at_call 198;(with_reducible refine(Qbt.calls b c d j k m _ A4.out).mono ?_);rintro e w7 ⟨rfl,hb⟩;have n_:=qn2 (Qds (g:=a) (o:=.cells #[.int .u8 b,.int .u32 c,.int .u32 d,.int .i64 j,.int .i64 k] 125 (0,0)) qq_0 hb) (Qes qq_b hb);clear l HB;obtain⟨l,HB⟩:=n_;(try clear hb);(try clear hb2);(try clear hk);(try clear hi)))
  go_ret
  exact⟨qq_4,qq_b⟩
 ·rw[if_neg c3]at H;have s:decide (1≤a1)=false:=decide_eq_false c3;clear c3;obtain rfl:=Option.some.inj H
  go_enter Tryz.func139,Tryz.ntmps139
  go_wp2_with (first |((with_reducible refine Qfc (N:=2) rfl ?_);refine qq_e 2 #[.int .u8 b,.int .u32 c,.int .u32 d,.int .i64 j,.int .i64 k] 125 ?_;intro a hg w8 hbox hb;have n_:=qn4 (Qes qq_b hb) (hbox) (qq_s hg:w.heap.size≤a) (qq_s hg:w.heap.size≤a);clear HB;obtain⟨HB,l,n,p⟩:=n_;clear hb hbox hg))
  go_ret
  exact⟨qq_4,qq_b⟩
def Qbu.f(a0_0:Int)(a0_1:Int)(a0_2:Int)(a0_3:Int)(a0_4:Int)(a1:Int):Option (Int × Int × Int × Int × Int × Int):=(Qbs.f a0_0 a0_1 a0_2 a0_3 a0_4 a1).bind fun t138=>(if t138=true then(some (a0_0,a0_1,a0_2,wrap64 (a0_3+a1),wrap64 (a0_4+1),0))else(some (0,0,0,0,0,7)))
theorem Qbu.calls(a:Int)(b:Int)(d:Int)(j:Int)(k:Int)(a1:Int)(r1:Int)(r2:Int)(r3:Int)(r4:Int)(r5:Int)(r6:Int)(w:World)(h:Qbu.f a b d j k a1=some (r1,r2,r3,r4,r5,r6)) :
  Calls Tryz.prog 93 #[.agg #[.int .u8 a,.int .u32 b,.int .u32 d,.int .i64 j,.int .i64 k],.int .i64 a1] w fun e w'=>e=.returned (.tuple #[.agg #[.int .u8 r1,.int .u32 r2,.int .u32 r3,.int .i64 r4,.int .i64 r5],.int .i64 r6])∧Below w.heap.size w w':=by
 have hu125:=Tryz.underlying125;have HB:=QA (Below.refl w.heap.size w);have H:((Qbs.f a b d j k a1).bind fun r=>(if r=true then(some (a,b,d,wrap64 (j+a1),wrap64 (k+1),0))else(some (0,0,0,0,0,7))))=some (r1,r2,r3,r4,r5,r6):=h;clear h;replace H:=Option.bind_eq_some_iff.mp H;obtain⟨r,x,H⟩:=H;have A3:=QA x;clear x
 by_cases c4:r=true
 ·subst c4;rw[if_pos rfl]at H;simp only[Option.some.injEq,Prod.mk.injEq]at H;obtain⟨rfl,rfl,rfl,rfl,rfl,rfl⟩:=H
  go_enter Tryz.func93,Tryz.ntmps93
  go_wp2_with (first |((with_reducible refine Qfc (N:=2) rfl ?_);refine qq_e 2 #[.int .u8 a,.int .u32 b,.int .u32 d,.int .i64 j,.int .i64 k] 125 ?_;intro c hg w5 hbox hb;have n_:=qn4 (Qes qq_b hb) (hbox) (qq_s hg:w.heap.size≤c) (qq_s hg:w.heap.size≤c);clear HB;obtain⟨HB,l,s,t⟩:=n_;clear hb hbox hg) |((with_reducible refine Qfc (N:=4) rfl ?_);refine qq_e 4 #[.int .u8 0,.int .u32 0,.int .u32 0,.int .i64 0,.int .i64 0] 125 ?_;intro m hg w6 hbox hb;have n_:=qn7 (Qds (g:=c) (o:=.cells #[.int .u8 a,.int .u32 b,.int .u32 d,.int .i64 j,.int .i64 k] 125 (0,0)) qq_0 hb) (Qes qq_b hb) (hbox) (qq_s hg:w.heap.size≤m) (qq_s hg:w.heap.size≤m) ((by rw[hg];exact Nat.ne_of_lt (Qde (g:=c) (o:=.cells #[.int .u8 a,.int .u32 b,.int .u32 d,.int .i64 j,.int .i64 k] 125 (0,0)) qq_0):c≠m)) ((by rw[hg];exact Nat.ne_of_gt (Qde (g:=c) (o:=.cells #[.int .u8 a,.int .u32 b,.int .u32 d,.int .i64 j,.int .i64 k] 125 (0,0)) qq_0):m≠c));clear l HB;obtain⟨l,HB,n,u,v,q,p⟩:=n_;clear hb hbox hg;have am:=q.out;have an:=p.out;obtain⟨ab,ac,ad,ae,af⟩:=qc5 l.out;have ao:=Qdg l.out) |((with_reducible refine Qhw (f:=139) rfl ?_);refine Qfz (some 8) rfl rfl Tryz.func139 qq_5 rfl #[.agg #[.int .u8 a,.int .u32 b,.int .u32 d,.int .i64 j,.int .i64 k],.int .i64 a1] rfl qq_1 ?_;(with_reducible refine(Qbs.calls a b d j k a1 true _ A3.out).mono ?_);rintro e w9 ⟨rfl,hb⟩;refine⟨_,rfl,?_⟩;have n_:=qn3 (Qds (g:=c) (o:=.cells #[.int .u8 a,.int .u32 b,.int .u32 d,.int .i64 j,.int .i64 k] 125 (0,0)) qq_0 hb) (Qds (g:=m) (o:=.cells #[.int .u8 0,.int .u32 0,.int .u32 0,.int .i64 0,.int .i64 0] 125 (0,0)) qq_0 hb) (Qes qq_b hb);clear l n HB;obtain⟨l,n,HB⟩:=n_;(try clear hb);(try clear hb2);(try clear hk);(try clear hi);obtain⟨y,z,A,B,D⟩:=qc5 l.out;have ag:=Qdg l.out;obtain⟨E,G,I,J,L⟩:=qc5 n.out;have ah:=Qdg n.out))
  refine bodyPost_ret (Qdu rfl _ _ m 125 #[.int .u8 a,.int .u32 b,.int .u32 d,.int .i64 (wrap64 (j+a1)),.int .i64 (wrap64 (k+1))] (0,0) _ rfl (by(with_reducible repeat(first|apply Qdr|apply Qdq|apply Qdp));refine Qey (cs:=#[.int .u8 a,.int .u32 b,.int .u32 d,.int .i64 (wrap64 (j+a1)),.int .i64 0]) ?_ 4 _ rfl;(with_reducible repeat(first|apply Qdr|apply Qdq|apply Qdp));refine Qey (cs:=#[.int .u8 a,.int .u32 b,.int .u32 d,.int .i64 0,.int .i64 0]) ?_ 3 _ rfl;(with_reducible repeat(first|apply Qdr|apply Qdq|apply Qdp));refine Qey (cs:=#[.int .u8 a,.int .u32 b,.int .u32 0,.int .i64 0,.int .i64 0]) ?_ 2 _ rfl;(with_reducible repeat(first|apply Qdr|apply Qdq|apply Qdp));refine Qey (cs:=#[.int .u8 a,.int .u32 0,.int .u32 0,.int .i64 0,.int .i64 0]) ?_ 1 _ rfl;(with_reducible repeat(first|apply Qdr|apply Qdq|apply Qdp));refine Qey (cs:=#[.int .u8 0,.int .u32 0,.int .u32 0,.int .i64 0,.int .i64 0]) ?_ 0 _ rfl;(with_reducible repeat(first|apply Qdr|apply Qdq|apply Qdp));refine Qdd ?_ p.out _;(with_reducible repeat(first|apply Qdr|apply Qdq|apply Qdp));refine Qdd ?_ p.out _;(with_reducible repeat(first|apply Qdr|apply Qdq|apply Qdp));exact n.out) Tryz.underlying125 rfl qq_5) rfl ?_;exact⟨qq_4,qq_b⟩
 ·replace c4:=Bool.eq_false_iff.mpr c4;subst c4;rw[if_neg (show ¬(false=true)by decide)]at H;simp only[Option.some.injEq,Prod.mk.injEq]at H;obtain⟨rfl,rfl,rfl,rfl,rfl,rfl⟩:=H
  go_enter Tryz.func93,Tryz.ntmps93
  go_wp2_with (first |((with_reducible refine Qfc (N:=2) rfl ?_);refine qq_e 2 #[.int .u8 a,.int .u32 b,.int .u32 d,.int .i64 j,.int .i64 k] 125 ?_;intro c hg ap hbox hb;have n_:=qn4 (Qes qq_b hb) (hbox) (qq_s hg:w.heap.size≤c) (qq_s hg:w.heap.size≤c);clear HB;obtain⟨HB,l,s,t⟩:=n_;clear hb hbox hg) |((with_reducible refine Qfc (N:=4) rfl ?_);refine qq_e 4 #[.int .u8 0,.int .u32 0,.int .u32 0,.int .i64 0,.int .i64 0] 125 ?_;intro m hg aq hbox hb;have n_:=qn7 (Qds (g:=c) (o:=.cells #[.int .u8 a,.int .u32 b,.int .u32 d,.int .i64 j,.int .i64 k] 125 (0,0)) qq_0 hb) (Qes qq_b hb) (hbox) (qq_s hg:w.heap.size≤m) (qq_s hg:w.heap.size≤m) ((by rw[hg];exact Nat.ne_of_lt (Qde (g:=c) (o:=.cells #[.int .u8 a,.int .u32 b,.int .u32 d,.int .i64 j,.int .i64 k] 125 (0,0)) qq_0):c≠m)) ((by rw[hg];exact Nat.ne_of_gt (Qde (g:=c) (o:=.cells #[.int .u8 a,.int .u32 b,.int .u32 d,.int .i64 j,.int .i64 k] 125 (0,0)) qq_0):m≠c));clear l HB;obtain⟨l,HB,n,u,v,q,p⟩:=n_;clear hb hbox hg;have ai:=q.out;have aj:=p.out;obtain⟨M,O,P,T,U⟩:=qc5 l.out;have ak:=Qdg l.out) |((with_reducible refine Qhw (f:=139) rfl ?_);refine Qfz (some 8) rfl rfl Tryz.func139 qq_5 rfl #[.agg #[.int .u8 a,.int .u32 b,.int .u32 d,.int .i64 j,.int .i64 k],.int .i64 a1] rfl qq_1 ?_;(with_reducible refine(Qbs.calls a b d j k a1 false _ A3.out).mono ?_);rintro e ar ⟨rfl,hb⟩;refine⟨_,rfl,?_⟩;have n_:=qn3 (Qds (g:=c) (o:=.cells #[.int .u8 a,.int .u32 b,.int .u32 d,.int .i64 j,.int .i64 k] 125 (0,0)) qq_0 hb) (Qds (g:=m) (o:=.cells #[.int .u8 0,.int .u32 0,.int .u32 0,.int .i64 0,.int .i64 0] 125 (0,0)) qq_0 hb) (Qes qq_b hb);clear l n HB;obtain⟨l,n,HB⟩:=n_;(try clear hb);(try clear hb2);(try clear hk);(try clear hi);obtain⟨W,X,Y,Z,aa⟩:=qc5 n.out;have al:=Qdg n.out))
  refine bodyPost_ret (Qdu rfl _ _ m 125 #[.int .u8 0,.int .u32 0,.int .u32 0,.int .i64 0,.int .i64 0] (0,0) _ rfl qq_x Tryz.underlying125 rfl qq_5) rfl ?_;exact⟨qq_4,qq_b⟩
def Qab.f(a0:Int)(a1:Int):Option (Int × Int):=some (IntKind.u64.wrap ((IntKind.u64.wrap ((IntKind.u64.wrap ((a0/4294967296)*(a1/4294967296)))+((IntKind.u64.wrap ((IntKind.u64.wrap ((a0/4294967296)*(Go.bits .and .u64 a1 4294967295)))+((IntKind.u64.wrap ((Go.bits .and .u64 a0 4294967295)*(Go.bits .and .u64 a1 4294967295)))/4294967296)))/4294967296)))+((IntKind.u64.wrap ((Go.bits .and .u64 (IntKind.u64.wrap ((IntKind.u64.wrap ((a0/4294967296)*(Go.bits .and .u64 a1 4294967295)))+((IntKind.u64.wrap ((Go.bits .and .u64 a0 4294967295)*(Go.bits .and .u64 a1 4294967295)))/4294967296))) 4294967295)+(IntKind.u64.wrap ((Go.bits .and .u64 a0 4294967295)*(a1/4294967296)))))/4294967296)),IntKind.u64.wrap (a0*a1))
theorem Qab.calls(a0:Int)(a1:Int)(r1:Int)(r2:Int)(w:World)(h:Qab.f a0 a1=some (r1,r2)) :
  Calls Tryz.prog 262 #[.int .u64 a0,.int .u64 a1] w fun e w'=>e=.returned (.tuple #[.int .u64 r1,.int .u64 r2])∧Drawn0 w w':=by
 have H:(some (IntKind.u64.wrap ((IntKind.u64.wrap ((IntKind.u64.wrap ((a0/4294967296)*(a1/4294967296)))+((IntKind.u64.wrap ((IntKind.u64.wrap ((a0/4294967296)*(Go.bits .and .u64 a1 4294967295)))+((IntKind.u64.wrap ((Go.bits .and .u64 a0 4294967295)*(Go.bits .and .u64 a1 4294967295)))/4294967296)))/4294967296)))+((IntKind.u64.wrap ((Go.bits .and .u64 (IntKind.u64.wrap ((IntKind.u64.wrap ((a0/4294967296)*(Go.bits .and .u64 a1 4294967295)))+((IntKind.u64.wrap ((Go.bits .and .u64 a0 4294967295)*(Go.bits .and .u64 a1 4294967295)))/4294967296))) 4294967295)+(IntKind.u64.wrap ((Go.bits .and .u64 a0 4294967295)*(a1/4294967296)))))/4294967296)),IntKind.u64.wrap (a0*a1)))=some (r1,r2):=h;clear h;simp only[Option.some.injEq,Prod.mk.injEq]at H;obtain⟨rfl,rfl⟩:=H
 go_enter Tryz.func262,Tryz.ntmps262
 go_wp2
 go_ret2
 exact⟨by first|rfl |(simp;done) |(simp[*];done),by repeat(first|exact Drawn0.refl _|apply Drawn0.step)⟩
def Qaa.f(a0:Int)(a1:Int):Option (Int × Int):=(Qab.f a0 a1).bind fun bt224=>(some (bt224.1,bt224.2))
theorem Qaa.calls(a0:Int)(a1:Int)(r1:Int)(r2:Int)(w:World)(h:Qaa.f a0 a1=some (r1,r2)) :
  Calls Tryz.prog 208 #[.int .u64 a0,.int .u64 a1] w fun e w'=>e=.returned (.tuple #[.int .u64 r1,.int .u64 r2])∧Drawn0 w w':=by
 have H:((Qab.f a0 a1).bind fun bt224=>(some (bt224.1,bt224.2)))=some (r1,r2):=h;clear h;replace H:=Option.bind_eq_some_iff.mp H;obtain⟨⟨t224,t225⟩,A30,H⟩:=H;replace H:(some (t224,t225))=some (r1,r2):=H;have A3:=QA A30;clear A30;simp only[Option.some.injEq,Prod.mk.injEq]at H;obtain⟨rfl,rfl⟩:=H
 go_enter Tryz.func208,Tryz.ntmps208
 go_wp2_with (first |((with_reducible refine Qhw (f:=262) rfl ?_);refine Qfz (some 25) rfl rfl Tryz.func262 qq_5 rfl #[.int .u64 a0,.int .u64 a1] rfl qq_1 ?_;(with_reducible refine(Qab.calls a0 a1 t224 t225 _ A3.out).mono ?_);rintro e w' ⟨rfl,⟨nd,rfl⟩⟩;refine⟨_,rfl,?_⟩))
 go_ret2
 exact⟨by first|rfl |(simp;done) |(simp[*];done),by repeat(first|exact Drawn0.refl _|apply Drawn0.step)⟩
def Qai.l0:Nat→Int→List Int→Int→Int→Option (Int)
 | 0,_,_,_,_=>none
 | k+1,x3,x6,x7,x8=>if x8<x7 then(if 0≤x8 then(if x8<(x6.length:Int)then(if(rd x6 x8)=x3 then(Qai.l0 k x3 x6 x7 (wrap64 (x8+1)))else(some (rd x6 x8)))else(none))else(none))else(some x3)
def Qai.f(k:Nat)(l0:List Int):Option (Int):=Qai.l0 k 0 l0 (l0.length:Int) 0
theorem Qai.mono_l:∀k,(∀y0 y1 y2 y3,LeO (Qai.l0 k y0 y1 y2 y3) (Qai.l0 (k+1) y0 y1 y2 y3))
 | 0=>fun _ _ _ _ r h=>by simp[Qai.l0]at h
 | k+1=>by
  have ih0:=Qai.mono_l k
  ·intro y0 y1 y2 y3;unfold Qai.l0
   repeat' first
   |(with_reducible exact ih0 _ _ _ _)
   |(with_reducible exact LeO.refl _)
   |(with_reducible exact LeO.none _)
   |(with_reducible refine LeO.ite ?_ ?_)
   |(with_reducible refine LeO.bind ?_ (fun _=>?_))
   | exact ih0 _ _ _ _
   | exact LeO.none _
   | refine LeO.ite ?_ ?_
   | refine LeO.bind ?_ (fun _=>?_)
theorem Qai.mono:∀a0 k,LeO (Qai.f k a0) (Qai.f (k+1) a0):=by
 intro a0 k;have ih0:=Qai.mono_l k;unfold Qai.f
 repeat' first
   |(with_reducible exact ih0 _ _ _ _)
   |(with_reducible exact LeO.refl _)
   |(with_reducible exact LeO.none _)
   |(with_reducible refine LeO.ite ?_ ?_)
   |(with_reducible refine LeO.bind ?_ (fun _=>?_))
   | exact ih0 _ _ _ _
   | exact LeO.none _
   | refine LeO.ite ?_ ?_
   | refine LeO.bind ?_ (fun _=>?_)
theorem Qai.calls(k:Nat)(A0:Option Addr)(c0:Nat)(l0:List Int)(r:Int)(w:World)(hr0:Kd.C (Kd.int .i64) w A0 l0.length l0)(hc0:l0.length≤c0)(h:Qai.f k l0=some r) :
  Calls Tryz.prog 206 #[.slice A0 l0.length c0] w fun e w'=>e=.returned (.int .i64 r)∧Drawn0 w w':=by
 have l:=QA hr0;have s:=QA hc0;clear hr0 hc0;have H:(Qai.l0 k 0 l0 (l0.length:Int) 0)=some r:=h;clear h;have H':=QA H;clear H
 go_enter Tryz.func206,Tryz.ntmps206
 go_wp2
 go_loopg [8] k (fun kq v8 w'=>∃(a:Int),v8=.int .i64 a∧Aside0 (Qai.l0 kq 0 l0 (l0.length:Int) a=some r)∧Aside0 (kq≤k)∧Drawn0 w w')
 case atStart=>exact⟨(0),qq_7,H',⟨Nat.le_refl _⟩,by repeat(first|exact Drawn0.refl _|apply Drawn0.step)⟩
 case round =>
  clear H';obtain⟨a,rfl,HA,HK1,⟨m1,rfl⟩⟩:=hrel
  cases gk with
  | zero=>exact absurd HA.out (by simp[Qai.l0])
  | succ k1 =>
   have H:=HA.out;clear HA;simp only[Qai.l0]at H
   by_cases c2:a<(l0.length:Int)
   ·rw [if_pos c2]at H;have m:=decide_eq_true c2;clear c2
    by_cases c3:0≤a
    ·rw[if_pos c3]at H;have p:=decide_eq_true c3;clear c3
     by_cases c4:a<(l0.length:Int)
     ·rw[if_pos c4]at H;have q:=decide_eq_true c4;clear c4
      by_cases c5:(rd l0 a)=0
      ·rw[if_pos c5]at H;have n:((rd l0 a) == 0)=true:=beq_iff_eq.mpr c5;have o:((rd l0 a) != 0)=false:=bne_eq_false_iff_eq.mpr c5;clear c5;have H':=QA H;clear H;have b:0≤(a:Int):=of_decide_eq_true qq_3;have c:a<(l0.length:Int):=of_decide_eq_true qq_3;obtain⟨j,d,g⟩:=Kd.at_int l.out a b c
       cases d
       replace b:=eq_true b;replace c:=eq_true c;go_wp2
       go_roundg k1
       case measure=>have:=HK1.out;omega
       case rel=>exact⟨(wrap64 (a+1)),qq_7,H',⟨by have:=HK1.out;omega⟩,by repeat(first|exact Drawn0.refl _|apply Drawn0.step)⟩
      ·rw[if_neg c5]at H;have n:((rd l0 a) == 0)=false:=beq_eq_false_iff_ne.mpr c5;have o:((rd l0 a) != 0)=true:=bne_iff_ne.mpr c5;obtain rfl:=Option.some.inj H;have b:0≤(a:Int):=of_decide_eq_true qq_3;have c:a<(l0.length:Int):=of_decide_eq_true qq_3;obtain⟨j,d,g⟩:=Kd.at_int l.out a b c
       cases d
       replace b:=eq_true b;replace c:=eq_true c;go_wp2;go_ret
       exact⟨by first|rfl |(simp;done) |(simp[*];done),by repeat(first|exact Drawn0.refl _|apply Drawn0.step)⟩
     ·rw[if_neg c4]at H;exact absurd H (by simp)
    ·rw[if_neg c3]at H;exact absurd H (by simp)
   ·rw[if_neg c2]at H;have m:=decide_eq_false c2;clear c2;obtain rfl:=Option.some.inj H;go_wp2;go_ret
    exact⟨by first|rfl |(simp;done) |(simp[*];done),by repeat(first|exact Drawn0.refl _|apply Drawn0.step)⟩
def Qaj.f(a0:Int):Option (Bool):=some (a0 != a0)
theorem Qaj.calls(a0:Int)(r:Bool)(w:World)(h:Qaj.f a0=some r) :
  Calls Tryz.prog 260 #[.int .u32 a0] w fun e w'=>e=.returned (.bool r)∧Drawn0 w w':=by
 have H:(some (a0 != a0))=some r:=h;clear h;obtain rfl:=Option.some.inj H
 go_enter Tryz.func260,Tryz.ntmps260
 go_wp2;go_ret
 exact⟨by first|rfl |(simp;done) |(simp[*];done),by repeat(first|exact Drawn0.refl _|apply Drawn0.step)⟩
def Qaf.f(a0:Int)(a1:Int):Option (Int):=(Qaj.f a0).bind fun t209=>((Qaj.f a1).bind fun t210=>(if t209=true then(if t210=true then(some 0)else(some (-1)))else(if t210=true then(some 1)else(if a0<a1 then(some (-1))else(if a0 > a1 then(some 1)else(some 0))))))
theorem Qaf.calls(a0:Int)(a1:Int)(r:Int)(w:World)(h:Qaf.f a0 a1=some r) :
  Calls Tryz.prog 207 #[.int .u32 a0,.int .u32 a1] w fun e w'=>e=.returned (.int .i64 r)∧Drawn0 w w':=by
 have H:((Qaj.f a0).bind fun b=>((Qaj.f a1).bind fun a=>(if b=true then(if a=true then(some 0)else(some (-1)))else(if a=true then(some 1)else(if a0<a1 then(some (-1))else(if a0 > a1 then(some 1)else(some 0)))))))=some r:=h;clear h;replace H:=Option.bind_eq_some_iff.mp H;obtain⟨b,c,H⟩:=H;have A3:=QA c;clear c;replace H:=Option.bind_eq_some_iff.mp H;obtain⟨a,d,H⟩:=H;have A4:=QA d;clear d
 by_cases c5:b=true
 ·subst c5;rw[if_pos rfl]at H
  by_cases c6:a=true
  ·subst c6;rw[if_pos rfl]at H;obtain rfl:=Option.some.inj H
   go_enter Tryz.func207,Tryz.ntmps207
   go_wp2_with (first |((with_reducible refine Qhw (f:=260) rfl ?_);refine Qfz (some 8) rfl rfl Tryz.func260 qq_5 rfl #[.int .u32 a0] rfl qq_1 ?_;(with_reducible refine(Qaj.calls a0 true _ A3.out).mono ?_);rintro e w' ⟨rfl,⟨nd,rfl⟩⟩;refine⟨_,rfl,?_⟩) |((with_reducible refine Qhw (f:=260) rfl ?_);refine Qfz (some 10) rfl rfl Tryz.func260 qq_5 rfl #[.int .u32 a1] rfl qq_1 ?_;(with_reducible refine(Qaj.calls a1 true _ A4.out).mono ?_);rintro e w' ⟨rfl,⟨nd,rfl⟩⟩;refine⟨_,rfl,?_⟩))
   go_ret
   exact⟨by first|rfl |(simp;done) |(simp[*];done),by repeat(first|exact Drawn0.refl _|apply Drawn0.step)⟩
  ·replace c6:=Bool.eq_false_iff.mpr c6;subst c6;rw[if_neg (show ¬(false=true)by decide)]at H;obtain rfl:=Option.some.inj H
   go_enter Tryz.func207,Tryz.ntmps207
   go_wp2_with (first |((with_reducible refine Qhw (f:=260) rfl ?_);refine Qfz (some 8) rfl rfl Tryz.func260 qq_5 rfl #[.int .u32 a0] rfl qq_1 ?_;(with_reducible refine(Qaj.calls a0 true _ A3.out).mono ?_);rintro e w' ⟨rfl,⟨nd,rfl⟩⟩;refine⟨_,rfl,?_⟩) |((with_reducible refine Qhw (f:=260) rfl ?_);refine Qfz (some 10) rfl rfl Tryz.func260 qq_5 rfl #[.int .u32 a1] rfl qq_1 ?_;(with_reducible refine(Qaj.calls a1 false _ A4.out).mono ?_);rintro e w' ⟨rfl,⟨nd,rfl⟩⟩;refine⟨_,rfl,?_⟩))
   go_ret
   exact⟨by first|rfl |(simp;done) |(simp[*];done),by repeat(first|exact Drawn0.refl _|apply Drawn0.step)⟩
 ·replace c5:=Bool.eq_false_iff.mpr c5;subst c5;rw[if_neg (show ¬(false=true)by decide)]at H
  by_cases c7:a=true
  ·subst c7;rw[if_pos rfl]at H;obtain rfl:=Option.some.inj H
   go_enter Tryz.func207,Tryz.ntmps207
   go_wp2_with (first |((with_reducible refine Qhw (f:=260) rfl ?_);refine Qfz (some 8) rfl rfl Tryz.func260 qq_5 rfl #[.int .u32 a0] rfl qq_1 ?_;(with_reducible refine(Qaj.calls a0 false _ A3.out).mono ?_);rintro e w' ⟨rfl,⟨nd,rfl⟩⟩;refine⟨_,rfl,?_⟩) |((with_reducible refine Qhw (f:=260) rfl ?_);refine Qfz (some 10) rfl rfl Tryz.func260 qq_5 rfl #[.int .u32 a1] rfl qq_1 ?_;(with_reducible refine(Qaj.calls a1 true _ A4.out).mono ?_);rintro e w' ⟨rfl,⟨nd,rfl⟩⟩;refine⟨_,rfl,?_⟩))
   go_ret
   exact⟨by first|rfl |(simp;done) |(simp[*];done),by repeat(first|exact Drawn0.refl _|apply Drawn0.step)⟩
  ·replace c7:=Bool.eq_false_iff.mpr c7;subst c7;rw[if_neg (show ¬(false=true)by decide)]at H
   by_cases c8:a0<a1
   ·rw[if_pos c8]at H;have g:=decide_eq_true c8;clear c8;obtain rfl:=Option.some.inj H
    go_enter Tryz.func207,Tryz.ntmps207
    go_wp2_with (first |((with_reducible refine Qhw (f:=260) rfl ?_);refine Qfz (some 8) rfl rfl Tryz.func260 qq_5 rfl #[.int .u32 a0] rfl qq_1 ?_;(with_reducible refine(Qaj.calls a0 false _ A3.out).mono ?_);rintro e w' ⟨rfl,⟨nd,rfl⟩⟩;refine⟨_,rfl,?_⟩) |((with_reducible refine Qhw (f:=260) rfl ?_);refine Qfz (some 10) rfl rfl Tryz.func260 qq_5 rfl #[.int .u32 a1] rfl qq_1 ?_;(with_reducible refine(Qaj.calls a1 false _ A4.out).mono ?_);rintro e w' ⟨rfl,⟨nd,rfl⟩⟩;refine⟨_,rfl,?_⟩))
    go_ret
    exact⟨by first|rfl |(simp;done) |(simp[*];done),by repeat(first|exact Drawn0.refl _|apply Drawn0.step)⟩
   ·rw[if_neg c8]at H;have g:=decide_eq_false c8;clear c8
    by_cases c9:a0 > a1
    ·rw[if_pos c9]at H;have j:decide (a1<a0)=true:=decide_eq_true c9;clear c9;obtain rfl:=Option.some.inj H
     go_enter Tryz.func207,Tryz.ntmps207
     go_wp2_with (first |((with_reducible refine Qhw (f:=260) rfl ?_);refine Qfz (some 8) rfl rfl Tryz.func260 qq_5 rfl #[.int .u32 a0] rfl qq_1 ?_;(with_reducible refine(Qaj.calls a0 false _ A3.out).mono ?_);rintro e w' ⟨rfl,⟨nd,rfl⟩⟩;refine⟨_,rfl,?_⟩) |((with_reducible refine Qhw (f:=260) rfl ?_);refine Qfz (some 10) rfl rfl Tryz.func260 qq_5 rfl #[.int .u32 a1] rfl qq_1 ?_;(with_reducible refine(Qaj.calls a1 false _ A4.out).mono ?_);rintro e w' ⟨rfl,⟨nd,rfl⟩⟩;refine⟨_,rfl,?_⟩))
     go_ret
     exact⟨by first|rfl |(simp;done) |(simp[*];done),by repeat(first|exact Drawn0.refl _|apply Drawn0.step)⟩
    ·rw[if_neg c9]at H;have j:decide (a1<a0)=false:=decide_eq_false c9;clear c9;obtain rfl:=Option.some.inj H
     go_enter Tryz.func207,Tryz.ntmps207
     go_wp2_with (first |((with_reducible refine Qhw (f:=260) rfl ?_);refine Qfz (some 8) rfl rfl Tryz.func260 qq_5 rfl #[.int .u32 a0] rfl qq_1 ?_;(with_reducible refine(Qaj.calls a0 false _ A3.out).mono ?_);rintro e w' ⟨rfl,⟨nd,rfl⟩⟩;refine⟨_,rfl,?_⟩) |((with_reducible refine Qhw (f:=260) rfl ?_);refine Qfz (some 10) rfl rfl Tryz.func260 qq_5 rfl #[.int .u32 a1] rfl qq_1 ?_;(with_reducible refine(Qaj.calls a1 false _ A4.out).mono ?_);rintro e w' ⟨rfl,⟨nd,rfl⟩⟩;refine⟨_,rfl,?_⟩))
     go_ret
     exact⟨by first|rfl |(simp;done) |(simp[*];done),by repeat(first|exact Drawn0.refl _|apply Drawn0.step)⟩
def Qak.f(a0:Int):Option (Bool):=some (a0 != a0)
theorem Qak.calls(a0:Int)(r:Bool)(w:World)(h:Qak.f a0=some r) :
  Calls Tryz.prog 131 #[.int .u64 a0] w fun e w'=>e=.returned (.bool r)∧Drawn0 w w':=by
 have H:(some (a0 != a0))=some r:=h;clear h;obtain rfl:=Option.some.inj H
 go_enter Tryz.func131,Tryz.ntmps131
 go_wp2;go_ret
 exact⟨by first|rfl |(simp;done) |(simp[*];done),by repeat(first|exact Drawn0.refl _|apply Drawn0.step)⟩
def Qag.f(a0:Int)(a1:Int):Option (Int):=(Qak.f a0).bind fun t197=>((Qak.f a1).bind fun t198=>(if t197=true then(if t198=true then(some 0)else(some (-1)))else(if t198=true then(some 1)else(if a0<a1 then(some (-1))else(if a0 > a1 then(some 1)else(some 0))))))
theorem Qag.calls(a0:Int)(a1:Int)(r:Int)(w:World)(h:Qag.f a0 a1=some r) :
  Calls Tryz.prog 74 #[.int .u64 a0,.int .u64 a1] w fun e w'=>e=.returned (.int .i64 r)∧Drawn0 w w':=by
 have H:((Qak.f a0).bind fun b=>((Qak.f a1).bind fun a=>(if b=true then(if a=true then(some 0)else(some (-1)))else(if a=true then(some 1)else(if a0<a1 then(some (-1))else(if a0 > a1 then(some 1)else(some 0)))))))=some r:=h;clear h;replace H:=Option.bind_eq_some_iff.mp H;obtain⟨b,c,H⟩:=H;have A3:=QA c;clear c;replace H:=Option.bind_eq_some_iff.mp H;obtain⟨a,d,H⟩:=H;have A4:=QA d;clear d
 by_cases c5:b=true
 ·subst c5;rw[if_pos rfl]at H
  by_cases c6:a=true
  ·subst c6;rw[if_pos rfl]at H;obtain rfl:=Option.some.inj H
   go_enter Tryz.func74,Tryz.ntmps74
   go_wp2_with (first |((with_reducible refine Qhw (f:=131) rfl ?_);refine Qfz (some 8) rfl rfl Tryz.func131 qq_5 rfl #[.int .u64 a0] rfl qq_1 ?_;(with_reducible refine(Qak.calls a0 true _ A3.out).mono ?_);rintro e w' ⟨rfl,⟨nd,rfl⟩⟩;refine⟨_,rfl,?_⟩) |((with_reducible refine Qhw (f:=131) rfl ?_);refine Qfz (some 10) rfl rfl Tryz.func131 qq_5 rfl #[.int .u64 a1] rfl qq_1 ?_;(with_reducible refine(Qak.calls a1 true _ A4.out).mono ?_);rintro e w' ⟨rfl,⟨nd,rfl⟩⟩;refine⟨_,rfl,?_⟩))
   go_ret
   exact⟨by first|rfl |(simp;done) |(simp[*];done),by repeat(first|exact Drawn0.refl _|apply Drawn0.step)⟩
  ·replace c6:=Bool.eq_false_iff.mpr c6;subst c6;rw[if_neg (show ¬(false=true)by decide)]at H;obtain rfl:=Option.some.inj H
   go_enter Tryz.func74,Tryz.ntmps74
   go_wp2_with (first |((with_reducible refine Qhw (f:=131) rfl ?_);refine Qfz (some 8) rfl rfl Tryz.func131 qq_5 rfl #[.int .u64 a0] rfl qq_1 ?_;(with_reducible refine(Qak.calls a0 true _ A3.out).mono ?_);rintro e w' ⟨rfl,⟨nd,rfl⟩⟩;refine⟨_,rfl,?_⟩) |((with_reducible refine Qhw (f:=131) rfl ?_);refine Qfz (some 10) rfl rfl Tryz.func131 qq_5 rfl #[.int .u64 a1] rfl qq_1 ?_;(with_reducible refine(Qak.calls a1 false _ A4.out).mono ?_);rintro e w' ⟨rfl,⟨nd,rfl⟩⟩;refine⟨_,rfl,?_⟩))
   go_ret
   exact⟨by first|rfl |(simp;done) |(simp[*];done),by repeat(first|exact Drawn0.refl _|apply Drawn0.step)⟩
 ·replace c5:=Bool.eq_false_iff.mpr c5;subst c5;rw[if_neg (show ¬(false=true)by decide)]at H
  by_cases c7:a=true
  ·subst c7;rw[if_pos rfl]at H;obtain rfl:=Option.some.inj H
   go_enter Tryz.func74,Tryz.ntmps74
   go_wp2_with (first |((with_reducible refine Qhw (f:=131) rfl ?_);refine Qfz (some 8) rfl rfl Tryz.func131 qq_5 rfl #[.int .u64 a0] rfl qq_1 ?_;(with_reducible refine(Qak.calls a0 false _ A3.out).mono ?_);rintro e w' ⟨rfl,⟨nd,rfl⟩⟩;refine⟨_,rfl,?_⟩) |((with_reducible refine Qhw (f:=131) rfl ?_);refine Qfz (some 10) rfl rfl Tryz.func131 qq_5 rfl #[.int .u64 a1] rfl qq_1 ?_;(with_reducible refine(Qak.calls a1 true _ A4.out).mono ?_);rintro e w' ⟨rfl,⟨nd,rfl⟩⟩;refine⟨_,rfl,?_⟩))
   go_ret
   exact⟨by first|rfl |(simp;done) |(simp[*];done),by repeat(first|exact Drawn0.refl _|apply Drawn0.step)⟩
  ·replace c7:=Bool.eq_false_iff.mpr c7;subst c7;rw[if_neg (show ¬(false=true)by decide)]at H
   by_cases c8:a0<a1
   ·rw[if_pos c8]at H;have g:=decide_eq_true c8;clear c8;obtain rfl:=Option.some.inj H
    go_enter Tryz.func74,Tryz.ntmps74
    go_wp2_with (first |((with_reducible refine Qhw (f:=131) rfl ?_);refine Qfz (some 8) rfl rfl Tryz.func131 qq_5 rfl #[.int .u64 a0] rfl qq_1 ?_;(with_reducible refine(Qak.calls a0 false _ A3.out).mono ?_);rintro e w' ⟨rfl,⟨nd,rfl⟩⟩;refine⟨_,rfl,?_⟩) |((with_reducible refine Qhw (f:=131) rfl ?_);refine Qfz (some 10) rfl rfl Tryz.func131 qq_5 rfl #[.int .u64 a1] rfl qq_1 ?_;(with_reducible refine(Qak.calls a1 false _ A4.out).mono ?_);rintro e w' ⟨rfl,⟨nd,rfl⟩⟩;refine⟨_,rfl,?_⟩))
    go_ret
    exact⟨by first|rfl |(simp;done) |(simp[*];done),by repeat(first|exact Drawn0.refl _|apply Drawn0.step)⟩
   ·rw[if_neg c8]at H;have g:=decide_eq_false c8;clear c8
    by_cases c9:a0 > a1
    ·rw[if_pos c9]at H;have j:decide (a1<a0)=true:=decide_eq_true c9;clear c9;obtain rfl:=Option.some.inj H
     go_enter Tryz.func74,Tryz.ntmps74
     go_wp2_with (first |((with_reducible refine Qhw (f:=131) rfl ?_);refine Qfz (some 8) rfl rfl Tryz.func131 qq_5 rfl #[.int .u64 a0] rfl qq_1 ?_;(with_reducible refine(Qak.calls a0 false _ A3.out).mono ?_);rintro e w' ⟨rfl,⟨nd,rfl⟩⟩;refine⟨_,rfl,?_⟩) |((with_reducible refine Qhw (f:=131) rfl ?_);refine Qfz (some 10) rfl rfl Tryz.func131 qq_5 rfl #[.int .u64 a1] rfl qq_1 ?_;(with_reducible refine(Qak.calls a1 false _ A4.out).mono ?_);rintro e w' ⟨rfl,⟨nd,rfl⟩⟩;refine⟨_,rfl,?_⟩))
     go_ret
     exact⟨by first|rfl |(simp;done) |(simp[*];done),by repeat(first|exact Drawn0.refl _|apply Drawn0.step)⟩
    ·rw[if_neg c9]at H;have j:decide (a1<a0)=false:=decide_eq_false c9;clear c9;obtain rfl:=Option.some.inj H
     go_enter Tryz.func74,Tryz.ntmps74
     go_wp2_with (first |((with_reducible refine Qhw (f:=131) rfl ?_);refine Qfz (some 8) rfl rfl Tryz.func131 qq_5 rfl #[.int .u64 a0] rfl qq_1 ?_;(with_reducible refine(Qak.calls a0 false _ A3.out).mono ?_);rintro e w' ⟨rfl,⟨nd,rfl⟩⟩;refine⟨_,rfl,?_⟩) |((with_reducible refine Qhw (f:=131) rfl ?_);refine Qfz (some 10) rfl rfl Tryz.func131 qq_5 rfl #[.int .u64 a1] rfl qq_1 ?_;(with_reducible refine(Qak.calls a1 false _ A4.out).mono ?_);rintro e w' ⟨rfl,⟨nd,rfl⟩⟩;refine⟨_,rfl,?_⟩))
     go_ret
     exact⟨by first|rfl |(simp;done) |(simp[*];done),by repeat(first|exact Drawn0.refl _|apply Drawn0.step)⟩
def Qcd.f(k:Nat)(a0_0:Int)(a0_1:Int)(a1_0:Int)(a1_1:Int):Option (Int):=(Qag.f a0_0 a1_0).bind fun t213=>((Qaf.f a0_1 a1_1).bind fun t214=>((Qai.f k (([t213,t214]:List Int))).bind fun t218=>(some t218)))
theorem Qcd.mono:∀a0 a1 a2 a3 k,LeO (Qcd.f k a0 a1 a2 a3) (Qcd.f (k+1) a0 a1 a2 a3):=by
 intro a0 a1 a2 a3 k;unfold Qcd.f
 repeat' first
   |(with_reducible exact Qai.mono _ _)
   |(with_reducible exact LeO.refl _)
   |(with_reducible exact LeO.none _)
   |(with_reducible refine LeO.ite ?_ ?_)
   |(with_reducible refine LeO.bind ?_ (fun _=>?_))
   | exact Qai.mono _ _
   | exact LeO.none _
   | refine LeO.ite ?_ ?_
   | refine LeO.bind ?_ (fun _=>?_)
def Qcd.T1:Bool × List (List Nat × List Nat):=(true,[([],[]),([0],[0]),([],[]),([2],[2]),([1,3],[1,3]),([],[]),([5],[5]),([],[]),([7],[7]),([6,8,4],[6,8]),([4,9],[4,9]),([10,9],[10]),([11,11,0,1,2,3,4,5,6,7,8,9,10,11],[11])])
def Qcd.B1:List Nat:=[0,1,0,4,15,0,32,0,128,511,1023,2047,4095]
theorem Qcd.tab1:rtab .any (Qhg Tryz.f148 1)=Qcd.T1:=by kernel_rfl
theorem Qcd.bits1:Qha Qcd.T1.2 Qcd.B1=true:=by kernel_rfl
theorem Qcd.calls(k:Nat)(j:Int)(l:Int)(p:Int)(q:Int)(r:Int)(w:World)(h:Qcd.f k j l p q=some r) :
  Calls Tryz.prog 148 #[.agg #[.int .u64 j,.int .u32 l],.agg #[.int .u64 p,.int .u32 q]] w fun e w'=>e=.returned (.int .i64 r)∧Below w.heap.size w w':=by
 have hu177:=Tryz.underlying177;have HB:=QA (Below.refl w.heap.size w);have H:((Qag.f j p).bind fun s=>((Qaf.f l q).bind fun t=>((Qai.f k (([s,t]:List Int))).bind fun v=>(some v))))=some r:=h;clear h;replace H:=Option.bind_eq_some_iff.mp H;obtain⟨s,D,H⟩:=H;have A3:=QA D;clear D;replace H:=Option.bind_eq_some_iff.mp H;obtain⟨t,E,H⟩:=H;have A4:=QA E;clear E;obtain⟨z,u⟩:∃y_:List Int,y_=(([s,t]:List Int)):=⟨_,rfl⟩;replace H:((Qai.f k z).bind fun v=>(some v))=some r:=by first |(rw[u];with_reducible exact H) |(have B:=(Option.bind_some _ _).symm.trans H;rw[u];with_reducible exact B) |(have B:=(Option.bind_some _ _).symm.trans H;with_reducible exact B)|with_reducible exact H |(rw[u];exact H)|exact H
 have A:=QA u;clear u;replace H:=Option.bind_eq_some_iff.mp H;obtain⟨v,G,H⟩:=H;have A5:=QA G;clear G;obtain rfl:=Option.some.inj H
 go_enter Tryz.func148,Tryz.ntmps148
 try go_wp2_with (first |((with_reducible refine Qfc (N:=2) rfl ?_);refine qq_e 2 #[.int .u64 j,.int .u32 l] 177 ?_;intro c hg w6 hbox hb;have n_:=qn4 (Qes qq_b hb) (hbox) (qq_s hg:w.heap.size≤c) (qq_s hg:w.heap.size≤c);clear HB;obtain⟨HB,a,L,O⟩:=n_;clear hb hbox hg) |((with_reducible refine Qfc (N:=3) rfl ?_);refine qq_e 3 #[.int .u64 p,.int .u32 q] 177 ?_;intro m hg w7 hbox hb;have n_:=qn7 (Qds (g:=c) (o:=.cells #[.int .u64 j,.int .u32 l] 177 (0,0)) qq_0 hb) (Qes qq_b hb) (hbox) (qq_s hg:w.heap.size≤m) (qq_s hg:w.heap.size≤m) ((by rw[hg];exact Nat.ne_of_lt (Qde (g:=c) (o:=.cells #[.int .u64 j,.int .u32 l] 177 (0,0)) qq_0):c≠m)) ((by rw[hg];exact Nat.ne_of_gt (Qde (g:=c) (o:=.cells #[.int .u64 j,.int .u32 l] 177 (0,0)) qq_0):m≠c));clear a HB;obtain⟨a,HB,b,P,T,I,J⟩:=n_;clear hb hbox hg))
 have n_:=qn3 (Qdq a.out) (Qdq b.out) (Qez HB.out);clear a b HB;obtain⟨a,b,HB⟩:=n_;refine Qfq (n:=13) (S:=fun w'=>w'.cell? ⟨c,0,none⟩=some (.int .u64 j)∧w'.cell? ⟨c,1,none⟩=some (.int .u32 l)∧w'.cell? ⟨m,0,none⟩=some (.int .u64 p)∧w'.cell? ⟨m,1,none⟩=some (.int .u32 q)) (ds:=[]) (bm 13 0) qq_5 rfl rfl ⟨(Qdf a.out 0).trans rfl,(Qdf a.out 1).trans rfl,(Qdf b.out 0).trans rfl,(Qdf b.out 1).trans rfl⟩ (fun d=>?_);refine Qhe Qcd.tab1 Qcd.bits1 (fun HT_ HW_=>?_);generalize w7.drew=w8 at a b HB d ⊢;refine pz_ (i:=0) (N:=some 5) (bm 13 1) (Qgw HT_.out qq_5) ?_;refine pz_ (i:=2) (N:=some 7) (bm 13 5) (Qgw HT_.out qq_5) ?_;refine pz_ (i:=5) (N:=some 10) (bm 13 37) (Qgw HT_.out qq_5) ?_;refine pz_ (i:=7) (N:=some 12) (bm 13 165) (Qgw HT_.out qq_5) ?_;refine tz_ (i:=1) (N:=some 6) (bm 13 167) (Qhd HT_.out HW_.out qq_5) d ?_;refine tz_ (i:=3) (N:=some 8) (bm 13 175) (Qhd HT_.out HW_.out qq_5) d ?_;refine tz_ (i:=6) (N:=some 11) (bm 13 239) (Qhd HT_.out HW_.out qq_5) d ?_;refine tz_ (i:=8) (N:=some 13) (bm 13 495) (Qhd HT_.out HW_.out qq_5) d ?_;refine one_ (i:=4) (N:=some 9) (bm 13 511) rfl rfl (Qgx HT_.out qq_5) (by decide) (fun K hK=>?_);refine Qfy Tryz.func74 qq_5 rfl #[.int .u64 j,.int .u64 p] (by rfl) rfl rfl qq_1 ?_;with_reducible refine(Qag.calls j p s _ A3.out).mono ?_
 rintro e w' ⟨rfl,⟨nd,rfl⟩⟩;refine⟨_,rfl,?_⟩;refine hK.out _ _ ⟨(Qdf a.out 0).trans rfl,(Qdf a.out 1).trans rfl,(Qdf b.out 0).trans rfl,(Qdf b.out 1).trans rfl⟩ (fun d=>?_);clear hK K;refine nzp_ 9 ?_;refine one_ (i:=9) (N:=some 14) (bm 13 1023) rfl rfl (Qgx HT_.out qq_5) (by decide) (fun K hK=>?_);refine Qfy Tryz.func207 qq_5 rfl #[.int .u32 l,.int .u32 q] (by rfl) rfl rfl qq_1 ?_;with_reducible refine(Qaf.calls l q t _ A4.out).mono ?_
 rintro e w' ⟨rfl,⟨nd,rfl⟩⟩;refine⟨_,rfl,?_⟩;refine hK.out _ _ ⟨(Qdf a.out 0).trans rfl,(Qdf a.out 1).trans rfl,(Qdf b.out 0).trans rfl,(Qdf b.out 1).trans rfl⟩ (fun d=>?_);clear hK K;refine nzp_ 14 ?_;refine one_ (i:=10) (N:=some 15) (bm 13 2047) rfl rfl (Qgx HT_.out qq_5) (by decide) (fun K hK=>?_);refine Kd.R_lit_step (Kd.int .i64) _ 3 ?hg (N:=15) ?hd (xs:=([s,t]:List Int)) (inner:=[.int .i64 s,.int .i64 t]) (ok:=fun _=>True) (okp:=fun _=>True) ?hr ?hp (fun _ hk=>hk) trivial (Below.refl _ _) (Nat.le_refl _) (by simp) ?_;(case hd=>rfl);(case hg=>rfl);(case hr=>exact qq_23);(case hp=>exact(Reps.one (show Kd.M (Kd.int .i64) _ _ _ s [.int .i64 s] from rfl) (Reps.one (show Kd.M (Kd.int .i64) _ _ _ t [.int .i64 t] from rfl) (Reps.none _ _))));intro U w9 x hb hg_ hnew_;clear hg_ hnew_
 (first|rw[← A.out]at x |(simp only[Int.reduceToNat]at x;rw[← A.out]at x))
 have n_:=qn4 (Kd.R_lower x (Qer qq_b)) (Qds (g:=c) (o:=.cells #[.int .u64 j,.int .u32 l] 177 (0,0)) qq_0 hb) (Qds (g:=m) (o:=.cells #[.int .u64 p,.int .u32 q] 177 (0,0)) qq_0 hb) (Qes qq_b hb);clear a b HB;obtain⟨y,a,b,HB⟩:=n_;clear hb x;obtain⟨Ao11,co11,eo11⟩:=Kd.R_slice y.out
 (first|subst eo11 |(injection eo11 with f1_ f2_ f3_;have f4_:=f1_.symm;have f5_:=f3_.symm;clear f1_ f2_ f3_;subst f4_;subst f5_))
 refine hK.out _ _ ⟨(Qdf a.out 0).trans rfl,(Qdf a.out 1).trans rfl,(Qdf b.out 0).trans rfl,(Qdf b.out 1).trans rfl⟩ (fun d=>?_);clear hK K;refine nzp_ 15 ?_;refine one_ (i:=11) (N:=some 16) (bm 13 4095) rfl rfl (Qgx HT_.out qq_5) (by decide) (fun K hK=>?_);refine Qfy Tryz.func206 qq_5 rfl #[.slice Ao11 z.length co11] (by rfl) rfl rfl qq_1 ?_;with_reducible refine(Qai.calls k _ _ z v _ ?side1 ?side2 A5.out).mono ?_
 (case side1=>repeat(first|exact(Kd.R_reads' y.out).2.2 |(with_reducible refine Kd.C_alloc ?_ _) |(with_reducible refine Kd.C_drewN ?_ _) |(with_reducible refine Kd.C_drew ?_)))
 (case side2=>exact(Kd.R_reads' y.out).2.1)
 rintro e w' ⟨rfl,⟨nd,rfl⟩⟩;refine⟨_,rfl,?_⟩;refine hK.out _ _ ⟨(Qdf a.out 0).trans rfl,(Qdf a.out 1).trans rfl,(Qdf b.out 0).trans rfl,(Qdf b.out 1).trans rfl⟩ (fun d=>?_);clear hK K;refine nzp_ 16 ?_;refine pz_ (i:=12) (N:=some 4) (bm 13 8191) (Qgw HT_.out qq_5) ?_;refine Qfu (Qgz HT_.out qq_5) ?_
 try go_wp2
 go_ret
 exact⟨qq_4,qq_b⟩
def Qcf.l0:Nat→List (S177)→Int→Option (Bool)
 | 0,_,_=>none
 | k+1,x0,x3=>if x3<(x0.length:Int)then(if 0≤(wrap64 (x3-1))then(if(wrap64 (x3-1))<(x0.length:Int)then(if 0≤x3 then((Qcd.f k ((Qio x0 (wrap64 (x3-1))).f0) ((Qio x0 (wrap64 (x3-1))).f1) ((Qio x0 x3).f0) ((Qio x0 x3).f1)).bind fun t223=>(if t223≥0 then(some false)else(Qcf.l0 k x0 (wrap64 (x3+1)))))else(none))else(none))else(none))else(some true)
def Qcf.f(k:Nat)(l0:List (S177)):Option (Bool):=Qcf.l0 k l0 1
theorem Qcf.mono_l:∀k,(∀y0 y1,LeO (Qcf.l0 k y0 y1) (Qcf.l0 (k+1) y0 y1))
 | 0=>fun _ _ r h=>by simp[Qcf.l0]at h
 | k+1=>by
  have ih0:=Qcf.mono_l k
  ·intro y0 y1;unfold Qcf.l0
   repeat' first
   |(with_reducible exact ih0 _ _)
   |(with_reducible exact Qcd.mono _ _ _ _ _)
   |(with_reducible exact LeO.refl _)
   |(with_reducible exact LeO.none _)
   |(with_reducible refine LeO.ite ?_ ?_)
   |(with_reducible refine LeO.bind ?_ (fun _=>?_))
   | exact ih0 _ _
   | exact Qcd.mono _ _ _ _ _
   | exact LeO.none _
   | refine LeO.ite ?_ ?_
   | refine LeO.bind ?_ (fun _=>?_)
theorem Qcf.mono:∀a0 k,LeO (Qcf.f k a0) (Qcf.f (k+1) a0):=by
 intro a0 k;have ih0:=Qcf.mono_l k;unfold Qcf.f
 repeat' first
   |(with_reducible exact ih0 _ _)
   |(with_reducible exact Qcd.mono _ _ _ _ _)
   |(with_reducible exact LeO.refl _)
   |(with_reducible exact LeO.none _)
   |(with_reducible refine LeO.ite ?_ ?_)
   |(with_reducible refine LeO.bind ?_ (fun _=>?_))
   | exact ih0 _ _
   | exact Qcd.mono _ _ _ _ _
   | exact LeO.none _
   | refine LeO.ite ?_ ?_
   | refine LeO.bind ?_ (fun _=>?_)
def Qcf.T4:Bool × List (List Nat × List Nat):=(true,[([],[]),([],[]),([1],[1]),([0,2],[0,2]),([3],[3]),([],[]),([],[]),([5,6],[5,6]),([7],[7]),([4,8],[4,8]),([9],[9])])
def Qcf.B4:List Nat:=[0,0,2,7,15,0,0,96,224,511,1023]
theorem Qcf.tab4:rtab .any (Qhg Tryz.f200 4)=Qcf.T4:=by kernel_rfl
theorem Qcf.bits4:Qha Qcf.T4.2 Qcf.B4=true:=by kernel_rfl
theorem Qcf.calls (k:Nat) (A0:Option Addr) (c0:Nat) (l0:List (S177)) (r:Bool) (w:World) (hr0:Kd.C k177 w A0 l0.length l0) (hc0:l0.length≤c0) (h:Qcf.f k l0=some r) :
  Calls Tryz.prog 200 #[.slice A0 l0.length c0] w fun e w'=>e=.returned (.bool r)∧Below w.heap.size w w':=by
 have hu177:=Tryz.underlying177;have y:=QA hr0;have J:=QA hc0;clear hr0 hc0;have HB:=QA (Below.refl w.heap.size w);have H:(Qcf.l0 k l0 1)=some r:=h;clear h;have H':=QA H;clear H
 go_enter Tryz.func200,Tryz.ntmps200
 go_wp2
 go_loopg [3] k (fun kq v3 w'=>∃(x3_1:Int),v3=.int .i64 x3_1∧Aside0 (Qcf.l0 kq l0 x3_1=some r)∧Aside0 (kq≤k)∧Aside0 (Below w.heap.size w w'))
 case atStart=>exact⟨(1),qq_7,H',⟨Nat.le_refl _⟩,⟨qq_b⟩⟩
 case round =>
  clear H';obtain⟨x3_1,rfl,HA,HK1,HB⟩:=hrel
  cases gk with
  | zero=>exact absurd HA.out (by simp[Qcf.l0])
  | succ k1 =>
   have H:=HA.out;clear HA;simp only[Qcf.l0]at H
   by_cases c2:x3_1<(l0.length:Int)
   ·rw [if_pos c2]at H;have A:=decide_eq_true c2;clear c2;obtain⟨a,t⟩:∃j_:Int,(wrap64 (x3_1-1))=j_:=⟨_,rfl⟩;replace H:(if 0≤(a)then(if(a)<(l0.length:Int)then(if 0≤x3_1 then((Qcd.f k1 ((Qio l0 (a)).f0) ((Qio l0 (a)).f1) ((Qio l0 x3_1).f0) ((Qio l0 x3_1).f1)).bind fun m=>(if m≥0 then(some false)else(Qcf.l0 k1 l0 (wrap64 (x3_1+1)))))else(none))else(none))else(none))=some r:=by first |(rw[t]at H;exact H) |(simp only[t]at H ⊢;exact H)
    have D:(IntKind.i64.wrap (x3_1-1))=a:=(Qga _).trans t
    by_cases c4:0≤(a)
    ·rw [if_pos c4]at H;have E:=decide_eq_true c4;clear c4
     by_cases c5:(a)<(l0.length:Int)
     ·rw[if_pos c5]at H;have G:=decide_eq_true c5;clear c5
      by_cases c6:0≤x3_1
      ·rw[if_pos c6]at H;have I:=decide_eq_true c6;clear c6;replace H:=Option.bind_eq_some_iff.mp H;obtain⟨m,z,H⟩:=H;have A7:=QA z;clear z
       by_cases c8:m≥0
       ·rw[if_pos c8]at H;have B:decide (0≤m)=true:=decide_eq_true c8;clear c8;obtain rfl:=Option.some.inj H
        try go_wp2
        have n_:=qn1 (Qez HB.out);clear HB;have HB:=n_;clear n_;have o:0≤((a):Int):=of_decide_eq_true qq_3;have p:(a)<(l0.length:Int):=of_decide_eq_true qq_3;obtain⟨b,v,c,d⟩:=Qip y.out (a) o p;have hw221_1:=d;have hw221_0:=c
        cases v
        replace c:=qq_h HB.out c;replace d:=qq_h HB.out d;replace o:=eq_true o;replace p:=eq_true p;have q:0≤(x3_1:Int):=of_decide_eq_true qq_3;have s:x3_1<(l0.length:Int):=of_decide_eq_true qq_3;obtain⟨u,x,g,j⟩:=Qip y.out x3_1 q s;have hw222_1:=j;have hw222_0:=g;obtain rfl:b=u:=(by injection x);replace g:=qq_h HB.out g;replace j:=qq_h HB.out j;replace q:=eq_true q;replace s:=eq_true s;refine Qfq (n:=11) (S:=fun w'=>w'.cell? (b.add (((a)).toNat*2))=some (.int .u64 ((Qio l0 (a)).f0))∧w'.cell? ⟨(b.add (((a)).toNat*2)).block,(b.add (((a)).toNat*2)).off+1,none⟩=some (.int .u32 ((Qio l0 (a)).f1))∧w'.cell? (b.add ((x3_1).toNat*2))=some (.int .u64 ((Qio l0 x3_1).f0))∧w'.cell? ⟨(b.add ((x3_1).toNat*2)).block,(b.add ((x3_1).toNat*2)).off+1,none⟩=some (.int .u32 ((Qio l0 x3_1).f1))) (ds:=[]) (bm 11 0) qq_5 rfl rfl ⟨((HB.out.cell (World.block_lt_of_cell? w _ hw221_0)).trans hw221_0),((HB.out.cell (World.block_lt_of_cell? w _ hw221_1)).trans hw221_1),((HB.out.cell (World.block_lt_of_cell? w _ hw222_0)).trans hw222_0),((HB.out.cell (World.block_lt_of_cell? w _ hw222_1)).trans hw222_1)⟩ (fun l=>?_);refine Qhe Qcf.tab4 Qcf.bits4 (fun HT_ HW_=>?_);generalize wr.drew=w9 at HB c d g j l ⊢;refine pz_ (i:=0) (N:=some 10) (bm 11 1) (Qgw HT_.out qq_5) ?_;refine pz_ (i:=1) (N:=some 11) (bm 11 3) (Qgw HT_.out qq_5) ?_;refine pz_ (i:=2) (N:=some 12) (bm 11 7) (Qgw HT_.out qq_5) ?_;refine pz_ (i:=3) (N:=some 13) (bm 11 15) (Qgw HT_.out qq_5) ?_;refine pz_ (i:=5) (N:=some 15) (bm 11 47) (Qgw HT_.out qq_5) ?_;refine pz_ (i:=6) (N:=some 16) (bm 11 111) (Qgw HT_.out qq_5) ?_;refine pz_ (i:=7) (N:=some 17) (bm 11 239) (Qgw HT_.out qq_5) ?_;refine tz_ (i:=4) (N:=some 14) (bm 11 255) (Qhd HT_.out HW_.out qq_5) l ?_;refine tz_ (i:=8) (N:=some 18) (bm 11 511) (Qhd HT_.out HW_.out qq_5) l ?_;refine one_ (i:=9) (N:=some 19) (bm 11 1023) rfl rfl (Qgx HT_.out qq_5) (by decide) (fun K hK=>?_);refine Qfy Tryz.func148 qq_5 rfl #[.agg #[.int .u64 ((Qio l0 (a)).f0),.int .u32 ((Qio l0 (a)).f1)],.agg #[.int .u64 ((Qio l0 x3_1).f0),.int .u32 ((Qio l0 x3_1).f1)]] (by rfl) rfl rfl (by(try simp only[List.map_toArray,List.map_cons,List.map_nil]);first|done |(simp only[t];rfl)|rfl |(simp only[List.length_drop,List.length_take];rfl)) ?_;with_reducible refine(Qcd.calls k1 ((Qio l0 (a)).f0) ((Qio l0 (a)).f1) ((Qio l0 x3_1).f0) ((Qio l0 x3_1).f1) m _ A7.out).mono ?_
        rintro e L ⟨rfl,hb⟩;refine⟨_,rfl,?_⟩;have n_:=qn1 (Qes qq_b hb);clear HB;have HB:=n_;clear n_
        (try clear hb)
        (try clear hb2)
        (try clear hk)
        (try clear hi)
        refine hK.out _ _ ⟨((HB.out.cell (World.block_lt_of_cell? w _ hw221_0)).trans hw221_0),((HB.out.cell (World.block_lt_of_cell? w _ hw221_1)).trans hw221_1),((HB.out.cell (World.block_lt_of_cell? w _ hw222_0)).trans hw222_0),((HB.out.cell (World.block_lt_of_cell? w _ hw222_1)).trans hw222_1)⟩ (fun l=>?_);clear hK K;refine nzp_ 19 ?_;refine pz_ (i:=10) (N:=some 20) (bm 11 2047) (Qgw HT_.out qq_5) ?_;refine Qfu (Qgz HT_.out qq_5) ?_
        try go_wp2
        go_ret
        exact⟨by first|rfl |(simp[Qib,Qic]<;>rfl) |(simp only[← t];first|rfl |(simp[Qib,Qic]<;>rfl)) |(simp[*,Qib,Qic]<;>rfl),qq_b⟩
       ·rw[if_neg c8]at H;have B:decide (0≤m)=false:=decide_eq_false c8;clear c8;have H':=QA H;clear H
        try go_wp2
        have n_:=qn1 (Qez HB.out);clear HB;have HB:=n_;clear n_;have o:0≤((a):Int):=of_decide_eq_true qq_3;have p:(a)<(l0.length:Int):=of_decide_eq_true qq_3;obtain⟨b,v,c,d⟩:=Qip y.out (a) o p;have hw221_1:=d;have hw221_0:=c
        cases v
        replace c:=qq_h HB.out c;replace d:=qq_h HB.out d;replace o:=eq_true o;replace p:=eq_true p;have q:0≤(x3_1:Int):=of_decide_eq_true qq_3;have s:x3_1<(l0.length:Int):=of_decide_eq_true qq_3;obtain⟨u,x,g,j⟩:=Qip y.out x3_1 q s;have hw222_1:=j;have hw222_0:=g;obtain rfl:b=u:=(by injection x);replace g:=qq_h HB.out g;replace j:=qq_h HB.out j;replace q:=eq_true q;replace s:=eq_true s;refine Qfq (n:=11) (S:=fun w'=>w'.cell? (b.add (((a)).toNat*2))=some (.int .u64 ((Qio l0 (a)).f0))∧w'.cell? ⟨(b.add (((a)).toNat*2)).block,(b.add (((a)).toNat*2)).off+1,none⟩=some (.int .u32 ((Qio l0 (a)).f1))∧w'.cell? (b.add ((x3_1).toNat*2))=some (.int .u64 ((Qio l0 x3_1).f0))∧w'.cell? ⟨(b.add ((x3_1).toNat*2)).block,(b.add ((x3_1).toNat*2)).off+1,none⟩=some (.int .u32 ((Qio l0 x3_1).f1))) (ds:=[]) (bm 11 0) qq_5 rfl rfl ⟨((HB.out.cell (World.block_lt_of_cell? w _ hw221_0)).trans hw221_0),((HB.out.cell (World.block_lt_of_cell? w _ hw221_1)).trans hw221_1),((HB.out.cell (World.block_lt_of_cell? w _ hw222_0)).trans hw222_0),((HB.out.cell (World.block_lt_of_cell? w _ hw222_1)).trans hw222_1)⟩ (fun l=>?_);refine Qhe Qcf.tab4 Qcf.bits4 (fun HT_ HW_=>?_);generalize wr.drew=w11 at HB c d g j l ⊢;refine pz_ (i:=0) (N:=some 10) (bm 11 1) (Qgw HT_.out qq_5) ?_;refine pz_ (i:=1) (N:=some 11) (bm 11 3) (Qgw HT_.out qq_5) ?_;refine pz_ (i:=2) (N:=some 12) (bm 11 7) (Qgw HT_.out qq_5) ?_;refine pz_ (i:=3) (N:=some 13) (bm 11 15) (Qgw HT_.out qq_5) ?_;refine pz_ (i:=5) (N:=some 15) (bm 11 47) (Qgw HT_.out qq_5) ?_;refine pz_ (i:=6) (N:=some 16) (bm 11 111) (Qgw HT_.out qq_5) ?_;refine pz_ (i:=7) (N:=some 17) (bm 11 239) (Qgw HT_.out qq_5) ?_;refine tz_ (i:=4) (N:=some 14) (bm 11 255) (Qhd HT_.out HW_.out qq_5) l ?_;refine tz_ (i:=8) (N:=some 18) (bm 11 511) (Qhd HT_.out HW_.out qq_5) l ?_;refine one_ (i:=9) (N:=some 19) (bm 11 1023) rfl rfl (Qgx HT_.out qq_5) (by decide) (fun K hK=>?_);refine Qfy Tryz.func148 qq_5 rfl #[.agg #[.int .u64 ((Qio l0 (a)).f0),.int .u32 ((Qio l0 (a)).f1)],.agg #[.int .u64 ((Qio l0 x3_1).f0),.int .u32 ((Qio l0 x3_1).f1)]] (by rfl) rfl rfl (by(try simp only[List.map_toArray,List.map_cons,List.map_nil]);first|done |(simp only[t];rfl)|rfl |(simp only[List.length_drop,List.length_take];rfl)) ?_;with_reducible refine(Qcd.calls k1 ((Qio l0 (a)).f0) ((Qio l0 (a)).f1) ((Qio l0 x3_1).f0) ((Qio l0 x3_1).f1) m _ A7.out).mono ?_
        rintro e M ⟨rfl,hb⟩;refine⟨_,rfl,?_⟩;have n_:=qn1 (Qes qq_b hb);clear HB;have HB:=n_;clear n_
        (try clear hb)
        (try clear hb2)
        (try clear hk)
        (try clear hi)
        refine hK.out _ _ ⟨((HB.out.cell (World.block_lt_of_cell? w _ hw221_0)).trans hw221_0),((HB.out.cell (World.block_lt_of_cell? w _ hw221_1)).trans hw221_1),((HB.out.cell (World.block_lt_of_cell? w _ hw222_0)).trans hw222_0),((HB.out.cell (World.block_lt_of_cell? w _ hw222_1)).trans hw222_1)⟩ (fun l=>?_);clear hK K;refine nzp_ 19 ?_;refine pz_ (i:=10) (N:=some 20) (bm 11 2047) (Qgw HT_.out qq_5) ?_;refine Qfu (Qgz HT_.out qq_5) ?_
        try go_wp2
        go_roundg k1
        case measure=>have:=HK1.out;omega
        case rel=>exact⟨(wrap64 (x3_1+1)),qq_7,H',⟨by have:=HK1.out;omega⟩,⟨qq_b⟩⟩
      ·rw[if_neg c6]at H;exact absurd H (by simp)
     ·rw[if_neg c5]at H;exact absurd H (by simp)
    ·rw[if_neg c4]at H;exact absurd H (by simp)
   ·rw[if_neg c2]at H;have A:=decide_eq_false c2;clear c2;obtain rfl:=Option.some.inj H;go_wp2;go_ret
    exact⟨qq_4,qq_b⟩
theorem Qmo(d:Nat)(w:World)(x0 y0:Int)(x1 y1:Int) :
  (Op.equalIn (d+2) 177 (.agg #[.int .u64 x0,.int .u32 x1]) (.agg #[.int .u64 y0,.int .u32 y1])).run Tryz.prog w=.ok (x0 == y0 && (x1 == y1)) w:=by
 refine Qhm Tryz.underlying177 qq_5 ?_;refine Qhl (by rfl) (by go_simp;rfl) (by go_simp;rfl) (by go_simp) ?_;exact Qhk (by rfl) (by go_simp;rfl) (by go_simp;rfl) (by go_simp)
mutual
def Qbz.l0:Nat→List (S36)→List (S36)→Int→Int→Option (Int)
 | 0,_,_,_,_=>none
 | k+1,x0,x7,x8,x9=>if x9<x8 then(if 0≤x9 then(if x9<(x7.length:Int)then((Qbx.f k ((Qij x7 x9).f0) ((Qij x7 x9).f1) ((Qij x7 x9).f2) ((Qij x7 x9).f3)).bind fun t107=>(if t107=0 then(Qbz.l0 k x0 x7 x8 (wrap64 (x9+1)))else(some t107)))else(none))else(none))else(Qbz.l1 k x0 1)
def Qbz.l1:Nat→List (S36)→Int→Option (Int)
 | 0,_,_=>none
 | k+1,x0,x6=>if x6<(x0.length:Int)then(if 0≤x6 then(if 0≤(wrap64 (x6-1))then(if(wrap64 (x6-1))<(x0.length:Int)then(if((Qij x0 x6).f1)≤((Qij x0 (wrap64 (x6-1))).f1)then(some 8)else(Qbz.l1 k x0 (wrap64 (x6+1))))else(none))else(none))else(none))else(some 0)
end
def Qbz.f(k:Nat)(l0:List (S36)):Option (Int):=Qbz.l0 k l0 l0 (l0.length:Int) 0
theorem Qbz.calls (k:Nat) (A0:Option Addr) (c0:Nat) (l0:List (S36)) (r:Int) (w:World) (hr0:Kd.C k36 w A0 l0.length l0) (hc0:l0.length≤c0) (h:Qbz.f k l0=some r) :
  Calls Tryz.prog 83 #[.slice A0 l0.length c0] w fun e w'=>e=.returned (.int .i64 r)∧Below w.heap.size w w':=by
 have hu36:=Tryz.underlying36;have M:=QA hr0;have aD:=QA hc0;clear hr0 hc0;have HB:=QA (Below.refl w.heap.size w);have H:(Qbz.l0 k l0 l0 (l0.length:Int) 0)=some r:=h;clear h;have H':=QA H;clear H
 go_enter Tryz.func83,Tryz.ntmps83
 go_wp2
 repeat(go_quiet (fail);try go_wp2)
 go_loopg [9] k (fun kq v9 w'=>∃(a:Int),v9=.int .i64 a∧Aside0 (Qbz.l0 kq l0 l0 (l0.length:Int) a=some r)∧Aside0 (kq≤k)∧Aside0 (Below w.heap.size w w'))
 case atStart=>exact⟨(0),qq_7,H',⟨Nat.le_refl _⟩,⟨qq_b⟩⟩
 case round =>
  clear H';obtain⟨a,rfl,HA,HK1,HB⟩:=hrel
  cases gk with
  | zero=>exact absurd HA.out (by simp[Qbz.l0])
  | succ k1 =>
   have H:=HA.out;clear HA;simp only[Qbz.l0]at H
   by_cases c2:a<(l0.length:Int)
   ·rw [if_pos c2]at H;have ag:=decide_eq_true c2;clear c2
    by_cases c3:0≤a
    ·rw[if_pos c3]at H;have aw:=decide_eq_true c3;clear c3
     by_cases c4:a<(l0.length:Int)
     ·rw[if_pos c4]at H;have ax:=decide_eq_true c4;clear c4;replace H:=Option.bind_eq_some_iff.mp H;obtain⟨D,av,H⟩:=H;have A5:=QA av;clear av
      by_cases c6:D=0
      ·rw[if_pos c6]at H;have ah:(D == 0)=true:=beq_iff_eq.mpr c6;have ai:(D != 0)=false:=bne_eq_false_iff_eq.mpr c6;clear c6;have H':=QA H;clear H;have A:0≤(a:Int):=of_decide_eq_true qq_3;have B:a<(l0.length:Int):=of_decide_eq_true qq_3;obtain⟨an,W,j,l,m,n⟩:=Qik M.out a A B
       cases W
       replace j:=qq_h HB.out j;replace l:=qq_h HB.out l;replace m:=qq_h HB.out m;replace n:=qq_h HB.out n;replace A:=eq_true A;replace B:=eq_true B
       go_wp2_with (first |((with_reducible refine Qfc (N:=4) rfl ?_);refine qq_e 4 #[.bool false,.int .u64 0,.string (⟨#[]⟩:ByteArray),.string (⟨#[]⟩:ByteArray)] 36 ?_;intro z hg w7 hbox hb;have n_:=qn4 (Qes qq_b hb) (hbox) (qq_s hg:w.heap.size≤z) (qq_s hg:w.heap.size≤z);clear HB;obtain⟨HB,d,ao,ap⟩:=n_;clear hb hbox hg;obtain⟨aj,ak,al,am⟩:=qc4 d.out;have ay:=Qdg d.out) |(go_at_call 91;(with_reducible refine(Qbx.calls k1 ((Qij l0 a).f0) ((Qij l0 a).f1) ((Qij l0 a).f2) ((Qij l0 a).f3) D _ A5.out).mono ?_);rintro e w9 ⟨rfl,hb⟩;have n_:=qn2 (Qds (g:=z) (o:=.cells #[.bool ((Qij l0 a).f0),.int .u64 ((Qij l0 a).f1),.string ((Qij l0 a).f2),.string ((Qij l0 a).f3)] 36 (0,0)) qq_x hb) (Qes qq_b hb);clear d HB;obtain⟨d,HB⟩:=n_;(try clear hb);(try clear hb2);(try clear hk);(try clear hi)))
       go_roundg k1
       case measure=>have:=HK1.out;omega
       case rel=>exact⟨(wrap64 (a+1)),qq_7,H',⟨by have:=HK1.out;omega⟩,⟨qq_b⟩⟩
      ·rw[if_neg c6]at H;have ah:(D == 0)=false:=beq_eq_false_iff_ne.mpr c6;have ai:(D != 0)=true:=bne_iff_ne.mpr c6;obtain rfl:=Option.some.inj H;have A:0≤(a:Int):=of_decide_eq_true qq_3;have B:a<(l0.length:Int):=of_decide_eq_true qq_3;obtain⟨an,W,j,l,m,n⟩:=Qik M.out a A B
       cases W
       replace j:=qq_h HB.out j;replace l:=qq_h HB.out l;replace m:=qq_h HB.out m;replace n:=qq_h HB.out n;replace A:=eq_true A;replace B:=eq_true B
       go_wp2_with (first |((with_reducible refine Qfc (N:=4) rfl ?_);refine qq_e 4 #[.bool false,.int .u64 0,.string (⟨#[]⟩:ByteArray),.string (⟨#[]⟩:ByteArray)] 36 ?_;intro z hg aE hbox hb;have n_:=qn4 (Qes qq_b hb) (hbox) (qq_s hg:w.heap.size≤z) (qq_s hg:w.heap.size≤z);clear HB;obtain⟨HB,d,ao,ap⟩:=n_;clear hb hbox hg;obtain⟨ac,ad,ae,af⟩:=qc4 d.out;have aq:=Qdg d.out) |(go_at_call 91;(with_reducible refine(Qbx.calls k1 ((Qij l0 a).f0) ((Qij l0 a).f1) ((Qij l0 a).f2) ((Qij l0 a).f3) D _ A5.out).mono ?_);rintro e aF ⟨rfl,hb⟩;have n_:=qn2 (Qds (g:=z) (o:=.cells #[.bool ((Qij l0 a).f0),.int .u64 ((Qij l0 a).f1),.string ((Qij l0 a).f2),.string ((Qij l0 a).f3)] 36 (0,0)) qq_x hb) (Qes qq_b hb);clear d HB;obtain⟨d,HB⟩:=n_;(try clear hb);(try clear hb2);(try clear hk);(try clear hi)))
       go_ret
       exact⟨qq_4,qq_b⟩
     ·rw[if_neg c4]at H;exact absurd H (by simp)
    ·rw[if_neg c3]at H;exact absurd H (by simp)
   ·rw [if_neg c2]at H;have ag:=decide_eq_false c2;clear c2;have H':=QA H;clear H;go_wp2
    repeat(go_quiet (fail);try go_wp2)
    go_loopg [6] k1 (fun kq v6 w'=>∃(b:Int),v6=.int .i64 b∧Aside0 (Qbz.l1 kq l0 b=some r)∧Aside0 (kq≤k1)∧Aside0 (Below w.heap.size w w'))
    case atStart=>exact⟨(1),qq_7,H',⟨Nat.le_refl _⟩,⟨qq_b⟩⟩
    case round =>
     clear H'
     try clear c2
     try clear ag
     try clear c3
     try clear aw
     try clear c4
     try clear ax
     try clear c6
     try clear ah
     try clear ai
     try clear ac
     try clear ad
     try clear ae
     try clear af
     try clear aj
     try clear ak
     try clear al
     try clear am
     try clear aq
     try clear ay
     try clear j
     try clear l
     try clear m
     try clear n
     try clear A
     try clear B
     obtain⟨b,rfl,HA,HK2,HB⟩:=hrel
     cases gk with
     | zero=>exact absurd HA.out (by simp[Qbz.l1])
     | succ k2 =>
      have H:=HA.out;clear HA;simp only[Qbz.l1]at H
      by_cases O:b<(l0.length:Int)
      ·rw [if_pos O]at H;have ar:=decide_eq_true O;clear O
       by_cases Z:0≤b
       ·rw [if_pos Z]at H;have aA:=decide_eq_true Z;clear Z;obtain⟨c,L⟩:∃j_:Int,(wrap64 (b-1))=j_:=⟨_,rfl⟩;replace H:(if 0≤(c)then(if(c)<(l0.length:Int)then(if((Qij l0 b).f1)≤((Qij l0 (c)).f1)then(some 8)else(Qbz.l1 k2 l0 (wrap64 (b+1))))else(none))else(none))=some r:=by first |(rw[L]at H;exact H) |(simp only[L]at H ⊢;exact H)
        have az:(IntKind.i64.wrap (b-1))=c:=(Qga _).trans L
        by_cases aa:0≤(c)
        ·rw[if_pos aa]at H;have aB:=decide_eq_true aa;clear aa
         by_cases ab:(c)<(l0.length:Int)
         ·rw[if_pos ab]at H;have aC:=decide_eq_true ab;clear ab
          by_cases P:((Qij l0 b).f1)≤((Qij l0 (c)).f1)
          ·rw[if_pos P]at H;have au:=decide_eq_true P;clear P;obtain rfl:=Option.some.inj H;have E:0≤(b:Int):=of_decide_eq_true qq_3;have G:b<(l0.length:Int):=of_decide_eq_true qq_3;obtain⟨T,X,p,q,s,t⟩:=Qik M.out b E G
           cases X
           replace p:=qq_h HB.out p;replace q:=qq_h HB.out q;replace s:=qq_h HB.out s;replace t:=qq_h HB.out t;replace E:=eq_true E;replace G:=eq_true G;have I:0≤((c):Int):=of_decide_eq_true qq_3;have J:(c)<(l0.length:Int):=of_decide_eq_true qq_3;obtain⟨U,Y,u,v,x,y⟩:=Qik M.out (c) I J;obtain rfl:T=U:=(by injection Y);replace u:=qq_h HB.out u;replace v:=qq_h HB.out v;replace x:=qq_h HB.out x;replace y:=qq_h HB.out y;replace I:=eq_true I;replace J:=eq_true J;go_wp2
           repeat(go_quiet (fail);try go_wp2)
           go_ret
           exact⟨by first|rfl |(simp[Qib,Qic]<;>rfl) |(simp only[← L];first|rfl |(simp[Qib,Qic]<;>rfl)) |(simp[*,Qib,Qic]<;>rfl),qq_b⟩
          ·rw[if_neg P]at H;have au:=decide_eq_false P;clear P;have H':=QA H;clear H;have E:0≤(b:Int):=of_decide_eq_true qq_3;have G:b<(l0.length:Int):=of_decide_eq_true qq_3;obtain⟨T,X,p,q,s,t⟩:=Qik M.out b E G
           cases X
           replace p:=qq_h HB.out p;replace q:=qq_h HB.out q;replace s:=qq_h HB.out s;replace t:=qq_h HB.out t;replace E:=eq_true E;replace G:=eq_true G;have I:0≤((c):Int):=of_decide_eq_true qq_3;have J:(c)<(l0.length:Int):=of_decide_eq_true qq_3;obtain⟨U,Y,u,v,x,y⟩:=Qik M.out (c) I J;obtain rfl:T=U:=(by injection Y);replace u:=qq_h HB.out u;replace v:=qq_h HB.out v;replace x:=qq_h HB.out x;replace y:=qq_h HB.out y;replace I:=eq_true I;replace J:=eq_true J;go_wp2
           repeat(go_quiet (fail);try go_wp2)
           go_roundg k2
           case measure=>have:=HK1.out;have:=HK2.out;omega
           case rel=>exact⟨(wrap64 (b+1)),qq_7,H',⟨by have:=HK1.out;have:=HK2.out;omega⟩,⟨qq_b⟩⟩
         ·rw[if_neg ab]at H;exact absurd H (by simp)
        ·rw[if_neg aa]at H;exact absurd H (by simp)
       ·rw[if_neg Z]at H;exact absurd H (by simp)
      ·rw[if_neg O]at H;have ar:=decide_eq_false O;clear O;obtain rfl:=Option.some.inj H;go_wp2
       repeat(go_quiet (fail);try go_wp2)
       go_ret
       exact⟨qq_4,qq_b⟩
end Go.Proofs.YtepkfjmjidjedaaGreat.C
end
