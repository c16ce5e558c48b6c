/- Merged texts. -/
import Derived.Test.YteaocbonofboeaaGreatME02
import Derived.Test.YteaocbonofboeaaGreatME21
import Derived.Test.YteaocbonofboeaaGreatME09
import Derived.Test.YteaocbonofboeaaGreatME13
import Derived.Test.YteaocbonofboeaaGreatME11
import Derived.Laws.Bits64b
set_option linter.unusedVariables false
set_option linter.unusedSimpArgs false
set_option maxHeartbeats 8000000
set_option maxRecDepth 100000
section
namespace Go.Proofs.YteaocbonofboeaaGreat.C
open Go.RowKit Go.Proofs.YteaocbonofboeaaGreatW.PrintWords Go.Proofs.YteaocbonofboeaaGreatW.PrintLast Go.Proofs.YteaocbonofboeaaGreatW.PrintMore
attribute [local go_sem] Qie Qif Qig Qih Qii Qij Qik Qil
def Qaz.f(k:Nat)(a0:Int)(l1:List (S37))(l2_0:List (S158))(a2_1:Int):Option (Int × Int × List Int × Bool):=(Qav.f a0).bind fun bt560=>((Qat.f k l1 30 600).bind fun t563=>(if t563=true then(if(l2_0.length:Int) > 20 then(some (bt560.1,bt560.2,([]:List Int),false))else((Qby.f k bt560.1 bt560.2 l1).bind fun bt564=>(some (bt560.1,bt560.2,bt564.1,(bt564.2 == 0)))))else(some (bt560.1,bt560.2,([]:List Int),false))))
theorem Qaz.calls(k:Nat)(a0:Int)(A1:Option Addr)(c1:Nat)(l1:List (S37))(n:Option Addr)(q:Nat)(d:List (S158))(r:Int)(r1:Int)(r2:Int)(r3:List Int)(r4:Bool)(w:World)(hr1:Kd.C k37 w A1 l1.length l1)(hc1:l1.length≤c1)(hr2_0:Kd.C k158 w n d.length d)(hc2_0:d.length≤q)(h:Qaz.f k a0 l1 d r=some (r1,r2,r3,r4)) :
  Calls Tryz.prog 46 #[.int .u8 a0,.slice A1 l1.length c1,.agg #[.slice n d.length q,.int .i64 r]] w fun e w'=>∃W:Value,e=.returned (.tuple #[.agg #[.int .u8 r1,.int .u32 r2],W,.bool r4])∧Kd.R (Kd.int .u8) 5 w' w.heap.size (fun _=>True) W r3∧Below w.heap.size w w':=by
 have hu81:=Tryz.underlying81;have hu28:=Tryz.underlying28;have D:=QA hr1;have E:=QA hc1;clear hr1 hc1;have aD:=QA hr2_0;have aE:=QA hc2_0;clear hr2_0 hc2_0;have HB:=QA (Below.refl w.heap.size w);have H:((Qav.f a0).bind fun bt560=>((Qat.f k l1 30 600).bind fun B=>(if B=true then(if(d.length:Int) > 20 then(some (bt560.1,bt560.2,([]:List Int),false))else((Qby.f k bt560.1 bt560.2 l1).bind fun bt564=>(some (bt560.1,bt560.2,bt564.1,(bt564.2 == 0)))))else(some (bt560.1,bt560.2,([]:List Int),false)))))=some (r1,r2,r3,r4):=h;clear h;replace H:=Option.bind_eq_some_iff.mp H;obtain⟨⟨s,t⟩,X,H⟩:=H;replace H:((Qat.f k l1 30 600).bind fun B=>(if B=true then(if(d.length:Int) > 20 then(some (s,t,([]:List Int),false))else((Qby.f k s t l1).bind fun bt564=>(some (s,t,bt564.1,(bt564.2 == 0)))))else(some (s,t,([]:List Int),false))))=some (r1,r2,r3,r4):=H;have A4:=QA X;clear X;replace H:=Option.bind_eq_some_iff.mp H;obtain⟨B,Y,H⟩:=H;have A5:=QA Y;clear Y
 by_cases c6:B=true
 ·subst c6;rw[if_pos rfl]at H
  by_cases c7:(d.length:Int) > 20
  ·rw[if_pos c7]at H;have aa:decide (20<(d.length:Int))=true:=decide_eq_true c7;have ab:decide (20<d.length)=true:=decide_eq_true (by omega);clear c7;simp only[Option.some.injEq,Prod.mk.injEq]at H;obtain⟨rfl,rfl,rfl,rfl⟩:=H
   go_enter Tryz.func46,Tryz.ntmps46
   go_wp2_with (first |((with_reducible refine Qft (N:=5) rfl ?_);(try(refine Qid (by rfl) ?_;dsimp only));refine qq_e 5 #[.slice n d.length q,.int .i64 r] 81 ?_;intro a hg w8 hbox hb;have n_:=qn4 (Qfi qq_b hb) (hbox) (qq_s hg:w.heap.size≤a) (qq_s hg:w.heap.size≤a);clear HB;obtain⟨HB,c,G,I⟩:=n_;clear hb hbox hg) |((with_reducible refine Qft (N:=6) rfl ?_);(try(refine Qid (by rfl) ?_;dsimp only));refine qq_e 6 #[.int .u8 0,.int .u32 0] 28 ?_;intro b hg w9 hbox hb;have n_:=qn7 (Qeg (g:=a) (o:=.cells #[.slice n d.length q,.int .i64 r] 81 (0,0)) qq_0 hb) (Qfi qq_b hb) (hbox) (qq_s hg:w.heap.size≤b) (qq_s hg:w.heap.size≤b) ((by rw[hg];exact Nat.ne_of_lt (Qdq (g:=a) (o:=.cells #[.slice n d.length q,.int .i64 r] 81 (0,0)) qq_0):a≠b)) ((by rw[hg];exact Nat.ne_of_gt (Qdq (g:=a) (o:=.cells #[.slice n d.length q,.int .i64 r] 81 (0,0)) qq_0):b≠a));clear c HB;obtain⟨c,HB,j,J,K,u,v⟩:=n_;clear hb hbox hg) |((with_reducible refine Qim (f:=16) rfl ?_);refine Qgo (some 13) rfl rfl Tryz.func16 qq_4 rfl #[.int .u8 a0] rfl qq_1 ?_;(with_reducible refine(Qav.calls a0 s t _ A4.out).mono ?_);rintro e bk ⟨rfl,hb⟩;refine⟨_,rfl,?_⟩;have n_:=qn3 (Qeg (g:=a) (o:=.cells #[.slice n d.length q,.int .i64 r] 81 (0,0)) qq_0 hb) (Qeg (g:=b) (o:=.cells #[.int .u8 0,.int .u32 0] 28 (0,0)) qq_0 hb) (Qfi qq_b hb);clear c j HB;obtain⟨c,j,HB⟩:=n_;(try clear hb);(try clear hb2);(try clear hk);(try clear hi)) |((with_reducible refine Qft (N:=9) rfl ?_);(try(refine Qid (by rfl) ?_;dsimp only));refine qq_e 9 #[.int .u8 0,.int .u32 0] 28 ?_;intro l hg bl hbox hb;have n_:=qn10 (Qeg (g:=a) (o:=.cells #[.slice n d.length q,.int .i64 r] 81 (0,0)) qq_0 hb) (Qeg (g:=b) (o:=.cells #[.int .u8 0,.int .u32 0] 28 (0,0)) qq_0 hb) (Qfi qq_b hb) (hbox) (qq_s hg:w.heap.size≤l) (qq_s hg:w.heap.size≤l) ((by rw[hg];exact Nat.ne_of_lt (Qdq (g:=a) (o:=.cells #[.slice n d.length q,.int .i64 r] 81 (0,0)) qq_0):a≠l)) ((by rw[hg];exact Nat.ne_of_gt (Qdq (g:=a) (o:=.cells #[.slice n d.length q,.int .i64 r] 81 (0,0)) qq_0):l≠a)) ((by rw[hg];exact Nat.ne_of_lt (Qdq (g:=b) (o:=.cells #[.int .u8 0,.int .u32 0] 28 (0,0)) qq_0):b≠l)) ((by rw[hg];exact Nat.ne_of_gt (Qdq (g:=b) (o:=.cells #[.int .u8 0,.int .u32 0] 28 (0,0)) qq_0):l≠b));clear c j HB;obtain⟨c,j,HB,m,L,M,x,y,z,A⟩:=n_;clear hb hbox hg;have aF:=y.out;have aG:=x.out;have aH:=A.out;have aI:=z.out;obtain⟨ac,ad⟩:=qc2 m.out;have aJ:=Qds m.out) |((with_reducible refine Qim (f:=15) rfl ?_);refine Qgo (some 15) rfl rfl Tryz.func15 qq_4 rfl #[.slice A1 l1.length c1,.int .i64 30,.int .i64 600] rfl qq_1 ?_;(with_reducible refine(Qat.calls k _ _ l1 30 600 true _ ?side1 ?side2 A5.out).mono ?_);(case side1=>exact Kd.C_below D.out qq_b);(case side2=>exact E.out);rintro e bn ⟨rfl,hb⟩;refine⟨_,rfl,?_⟩;have n_:=qn4 (Qeg (g:=a) (o:=.cells #[.slice n d.length q,.int .i64 r] 81 (0,0)) qq_7 hb) (Qeg (g:=b) (o:=.cells #[.int .u8 0,.int .u32 0] 28 (0,0)) qq_7 hb) (Qeg (g:=l) (o:=.cells #[.int .u8 s,.int .u32 t] 28 (0,0)) qq_x hb) (Qfi qq_b hb);clear c j m HB;obtain⟨c,j,m,HB⟩:=n_;(try clear hb);(try clear hb2);(try clear hk);(try clear hi);have aK:=u.out;have aL:=v.out;obtain⟨ae,af⟩:=qc2 c.out;have aM:=Qds c.out;obtain⟨ag,ah⟩:=qc2 m.out;have aN:=Qds m.out;obtain⟨ai,aj⟩:=qc2 j.out;have aO:=Qds j.out))
   refine bodyPost_ret (Qej rfl _ _ b 28 #[.int .u8 s,.int .u32 t] (0,0) _ rfl qq_x Tryz.underlying28 rfl qq_4) rfl ?_;exact⟨_,by first|rfl |(simp[Qir,Qis]<;>rfl) |(simp[*,Qir,Qis]<;>rfl),by first|exact Kd.R_nil _ _ _ _ _|exact Kd.N_nil _ _ _ _ _|exact Kd.V_nil _ _ _ _ _|exact Kd.Q_nil _ _ _ _ _|exact Kd.S_nil _ _ _ _ _,qq_b⟩
  ·rw[if_neg c7]at H;have aa:decide (20<(d.length:Int))=false:=decide_eq_false c7;have ab:decide (20<d.length)=false:=decide_eq_false (by omega);clear c7;replace H:=Option.bind_eq_some_iff.mp H;obtain⟨⟨O,P⟩,T,H⟩:=H;replace H:(some (s,t,O,(P == 0)))=some (r1,r2,r3,r4):=H;have aC:=QA T;clear T;simp only[Option.some.injEq,Prod.mk.injEq]at H;obtain⟨rfl,rfl,rfl,rfl⟩:=H
   go_enter Tryz.func46,Tryz.ntmps46
   go_wp2_with (first |((with_reducible refine Qft (N:=5) rfl ?_);(try(refine Qid (by rfl) ?_;dsimp only));refine qq_e 5 #[.slice n d.length q,.int .i64 r] 81 ?_;intro a hg bo hbox hb;have n_:=qn4 (Qfi qq_b hb) (hbox) (qq_s hg:w.heap.size≤a) (qq_s hg:w.heap.size≤a);clear HB;obtain⟨HB,c,G,I⟩:=n_;clear hb hbox hg) |((with_reducible refine Qft (N:=6) rfl ?_);(try(refine Qid (by rfl) ?_;dsimp only));refine qq_e 6 #[.int .u8 0,.int .u32 0] 28 ?_;intro b hg bp hbox hb;have n_:=qn7 (Qeg (g:=a) (o:=.cells #[.slice n d.length q,.int .i64 r] 81 (0,0)) qq_0 hb) (Qfi qq_b hb) (hbox) (qq_s hg:w.heap.size≤b) (qq_s hg:w.heap.size≤b) ((by rw[hg];exact Nat.ne_of_lt (Qdq (g:=a) (o:=.cells #[.slice n d.length q,.int .i64 r] 81 (0,0)) qq_0):a≠b)) ((by rw[hg];exact Nat.ne_of_gt (Qdq (g:=a) (o:=.cells #[.slice n d.length q,.int .i64 r] 81 (0,0)) qq_0):b≠a));clear c HB;obtain⟨c,HB,j,J,K,u,v⟩:=n_;clear hb hbox hg) |((with_reducible refine Qim (f:=16) rfl ?_);refine Qgo (some 13) rfl rfl Tryz.func16 qq_4 rfl #[.int .u8 a0] rfl qq_1 ?_;(with_reducible refine(Qav.calls a0 s t _ A4.out).mono ?_);rintro e bq ⟨rfl,hb⟩;refine⟨_,rfl,?_⟩;have n_:=qn3 (Qeg (g:=a) (o:=.cells #[.slice n d.length q,.int .i64 r] 81 (0,0)) qq_0 hb) (Qeg (g:=b) (o:=.cells #[.int .u8 0,.int .u32 0] 28 (0,0)) qq_0 hb) (Qfi qq_b hb);clear c j HB;obtain⟨c,j,HB⟩:=n_;(try clear hb);(try clear hb2);(try clear hk);(try clear hi)) |((with_reducible refine Qft (N:=9) rfl ?_);(try(refine Qid (by rfl) ?_;dsimp only));refine qq_e 9 #[.int .u8 0,.int .u32 0] 28 ?_;intro l hg br hbox hb;have n_:=qn10 (Qeg (g:=a) (o:=.cells #[.slice n d.length q,.int .i64 r] 81 (0,0)) qq_0 hb) (Qeg (g:=b) (o:=.cells #[.int .u8 0,.int .u32 0] 28 (0,0)) qq_0 hb) (Qfi qq_b hb) (hbox) (qq_s hg:w.heap.size≤l) (qq_s hg:w.heap.size≤l) ((by rw[hg];exact Nat.ne_of_lt (Qdq (g:=a) (o:=.cells #[.slice n d.length q,.int .i64 r] 81 (0,0)) qq_0):a≠l)) ((by rw[hg];exact Nat.ne_of_gt (Qdq (g:=a) (o:=.cells #[.slice n d.length q,.int .i64 r] 81 (0,0)) qq_0):l≠a)) ((by rw[hg];exact Nat.ne_of_lt (Qdq (g:=b) (o:=.cells #[.int .u8 0,.int .u32 0] 28 (0,0)) qq_0):b≠l)) ((by rw[hg];exact Nat.ne_of_gt (Qdq (g:=b) (o:=.cells #[.int .u8 0,.int .u32 0] 28 (0,0)) qq_0):l≠b));clear c j HB;obtain⟨c,j,HB,m,L,M,x,y,z,A⟩:=n_;clear hb hbox hg;have aP:=y.out;have aQ:=x.out;have aR:=A.out;have aS:=z.out;obtain⟨ak,al⟩:=qc2 m.out;have aT:=Qds m.out) |((with_reducible refine Qim (f:=15) rfl ?_);refine Qgo (some 15) rfl rfl Tryz.func15 qq_4 rfl #[.slice A1 l1.length c1,.int .i64 30,.int .i64 600] rfl qq_1 ?_;(with_reducible refine(Qat.calls k _ _ l1 30 600 true _ ?side1 ?side2 A5.out).mono ?_);(case side1=>exact Kd.C_below D.out qq_b);(case side2=>exact E.out);rintro e bs ⟨rfl,hb⟩;refine⟨_,rfl,?_⟩;have n_:=qn4 (Qeg (g:=a) (o:=.cells #[.slice n d.length q,.int .i64 r] 81 (0,0)) qq_7 hb) (Qeg (g:=b) (o:=.cells #[.int .u8 0,.int .u32 0] 28 (0,0)) qq_7 hb) (Qeg (g:=l) (o:=.cells #[.int .u8 s,.int .u32 t] 28 (0,0)) qq_x hb) (Qfi qq_b hb);clear c j m HB;obtain⟨c,j,m,HB⟩:=n_;(try clear hb);(try clear hb2);(try clear hk);(try clear hi);have aU:=u.out;have aV:=v.out;obtain⟨am,an⟩:=qc2 c.out;have aW:=Qds c.out;obtain⟨ao,ap⟩:=qc2 m.out;have aX:=Qds m.out) |((with_reducible refine Qim (f:=32) rfl ?_);refine Qgo (some 27) rfl rfl Tryz.func32 qq_4 rfl #[.agg #[.int .u8 s,.int .u32 t],.slice A1 l1.length c1] rfl qq_1 ?_;(with_reducible refine(Qby.calls k s t _ _ l1 O P _ ?side1 ?side2 aC.out).mono ?_);(case side1=>repeat(first|exact(Kd.C_below D.out HB.out) |(with_reducible refine Kd.C_alloc ?_ _) |(with_reducible refine Kd.C_drewN ?_ _) |(with_reducible refine Kd.C_drew ?_)));(case side2=>exact E.out);rintro e bu ⟨bj,rfl,Z,hb⟩;refine⟨_,rfl,?_⟩;have n_:=qn5 (Kd.R_lower Z (Qfh qq_b)) (Qeg (g:=a) (o:=.cells #[.slice n d.length q,.int .i64 r] 81 (0,0)) qq_0 hb) (Qeg (g:=b) (o:=.cells #[.int .u8 0,.int .u32 0] 28 (0,0)) qq_0 hb) (Qeg (g:=l) (o:=.cells #[.int .u8 s,.int .u32 t] 28 (0,0)) qq_0 hb) (Qfi qq_b hb);clear c j m HB;obtain⟨U,c,j,m,HB⟩:=n_;(try clear hb);(try clear hb2);(try clear hk);(try clear hi);(try clear Z);obtain⟨aq,ar⟩:=qc2 m.out;have aY:=Qds m.out;obtain⟨au,av⟩:=qc2 j.out;have aZ:=Qds j.out))
   refine bodyPost_ret (Qej rfl _ _ b 28 #[.int .u8 s,.int .u32 t] (0,0) _ rfl qq_x Tryz.underlying28 rfl qq_4) rfl ?_;exact⟨_,by first|rfl |(simp[Qir,Qis]<;>rfl) |(simp[*,Qir,Qis]<;>rfl),by(with_reducible repeat(first|apply Kd.R_alloc|apply Kd.R_drewN|apply Kd.R_drew));exact Kd.R_mono (Kd.R_far (p:=⟨b,1,none⟩) (Kd.R_far (p:=⟨b,0,none⟩) (Kd.R_types U.out j.out (by decide)) (fun _ hk=>hk.2) (.int .u8 s)) (fun _ hk=>hk.2) (.int .u32 t)) (fun _ hk=>trivial),qq_b⟩
 ·replace c6:=Bool.eq_false_iff.mpr c6;subst c6;rw[if_neg (show ¬(false=true)by decide)]at H;simp only[Option.some.injEq,Prod.mk.injEq]at H;obtain⟨rfl,rfl,rfl,rfl⟩:=H
  go_enter Tryz.func46,Tryz.ntmps46
  go_wp2_with (first |((with_reducible refine Qft (N:=5) rfl ?_);(try(refine Qid (by rfl) ?_;dsimp only));refine qq_e 5 #[.slice n d.length q,.int .i64 r] 81 ?_;intro a hg bv hbox hb;have n_:=qn4 (Qfi qq_b hb) (hbox) (qq_s hg:w.heap.size≤a) (qq_s hg:w.heap.size≤a);clear HB;obtain⟨HB,c,G,I⟩:=n_;clear hb hbox hg) |((with_reducible refine Qft (N:=6) rfl ?_);(try(refine Qid (by rfl) ?_;dsimp only));refine qq_e 6 #[.int .u8 0,.int .u32 0] 28 ?_;intro b hg bw hbox hb;have n_:=qn7 (Qeg (g:=a) (o:=.cells #[.slice n d.length q,.int .i64 r] 81 (0,0)) qq_0 hb) (Qfi qq_b hb) (hbox) (qq_s hg:w.heap.size≤b) (qq_s hg:w.heap.size≤b) ((by rw[hg];exact Nat.ne_of_lt (Qdq (g:=a) (o:=.cells #[.slice n d.length q,.int .i64 r] 81 (0,0)) qq_0):a≠b)) ((by rw[hg];exact Nat.ne_of_gt (Qdq (g:=a) (o:=.cells #[.slice n d.length q,.int .i64 r] 81 (0,0)) qq_0):b≠a));clear c HB;obtain⟨c,HB,j,J,K,u,v⟩:=n_;clear hb hbox hg) |((with_reducible refine Qim (f:=16) rfl ?_);refine Qgo (some 13) rfl rfl Tryz.func16 qq_4 rfl #[.int .u8 a0] rfl qq_1 ?_;(with_reducible refine(Qav.calls a0 s t _ A4.out).mono ?_);rintro e bx ⟨rfl,hb⟩;refine⟨_,rfl,?_⟩;have n_:=qn3 (Qeg (g:=a) (o:=.cells #[.slice n d.length q,.int .i64 r] 81 (0,0)) qq_0 hb) (Qeg (g:=b) (o:=.cells #[.int .u8 0,.int .u32 0] 28 (0,0)) qq_0 hb) (Qfi qq_b hb);clear c j HB;obtain⟨c,j,HB⟩:=n_;(try clear hb);(try clear hb2);(try clear hk);(try clear hi)) |((with_reducible refine Qft (N:=9) rfl ?_);(try(refine Qid (by rfl) ?_;dsimp only));refine qq_e 9 #[.int .u8 0,.int .u32 0] 28 ?_;intro l hg bz hbox hb;have n_:=qn10 (Qeg (g:=a) (o:=.cells #[.slice n d.length q,.int .i64 r] 81 (0,0)) qq_0 hb) (Qeg (g:=b) (o:=.cells #[.int .u8 0,.int .u32 0] 28 (0,0)) qq_0 hb) (Qfi qq_b hb) (hbox) (qq_s hg:w.heap.size≤l) (qq_s hg:w.heap.size≤l) ((by rw[hg];exact Nat.ne_of_lt (Qdq (g:=a) (o:=.cells #[.slice n d.length q,.int .i64 r] 81 (0,0)) qq_0):a≠l)) ((by rw[hg];exact Nat.ne_of_gt (Qdq (g:=a) (o:=.cells #[.slice n d.length q,.int .i64 r] 81 (0,0)) qq_0):l≠a)) ((by rw[hg];exact Nat.ne_of_lt (Qdq (g:=b) (o:=.cells #[.int .u8 0,.int .u32 0] 28 (0,0)) qq_0):b≠l)) ((by rw[hg];exact Nat.ne_of_gt (Qdq (g:=b) (o:=.cells #[.int .u8 0,.int .u32 0] 28 (0,0)) qq_0):l≠b));clear c j HB;obtain⟨c,j,HB,m,L,M,x,y,z,A⟩:=n_;clear hb hbox hg;have ba:=y.out;have bb:=x.out;have bc:=A.out;have bd:=z.out;obtain⟨aw,ax⟩:=qc2 m.out;have be:=Qds m.out) |((with_reducible refine Qim (f:=15) rfl ?_);refine Qgo (some 15) rfl rfl Tryz.func15 qq_4 rfl #[.slice A1 l1.length c1,.int .i64 30,.int .i64 600] rfl qq_1 ?_;(with_reducible refine(Qat.calls k _ _ l1 30 600 false _ ?side1 ?side2 A5.out).mono ?_);(case side1=>exact Kd.C_below D.out qq_b);(case side2=>exact E.out);rintro e bA ⟨rfl,hb⟩;refine⟨_,rfl,?_⟩;have n_:=qn4 (Qeg (g:=a) (o:=.cells #[.slice n d.length q,.int .i64 r] 81 (0,0)) qq_7 hb) (Qeg (g:=b) (o:=.cells #[.int .u8 0,.int .u32 0] 28 (0,0)) qq_7 hb) (Qeg (g:=l) (o:=.cells #[.int .u8 s,.int .u32 t] 28 (0,0)) qq_x hb) (Qfi qq_b hb);clear c j m HB;obtain⟨c,j,m,HB⟩:=n_;(try clear hb);(try clear hb2);(try clear hk);(try clear hi);obtain⟨ay,az⟩:=qc2 m.out;have bf:=Qds m.out;have bg:=v.out;have bh:=u.out;obtain⟨aA,aB⟩:=qc2 j.out;have bi:=Qds j.out))
  refine bodyPost_ret (Qej rfl _ _ b 28 #[.int .u8 s,.int .u32 t] (0,0) _ rfl qq_x Tryz.underlying28 rfl qq_4) rfl ?_;exact⟨_,by first|rfl |(simp[Qir,Qis]<;>rfl) |(simp[*,Qir,Qis]<;>rfl),by first|exact Kd.R_nil _ _ _ _ _|exact Kd.N_nil _ _ _ _ _|exact Kd.V_nil _ _ _ _ _|exact Kd.Q_nil _ _ _ _ _|exact Kd.S_nil _ _ _ _ _,qq_b⟩
end Go.Proofs.YteaocbonofboeaaGreat.C
end
section
namespace Go.Proofs.YteaocbonofboeaaGreat.CodecP
open Go.RowKit Go.Proofs.YteaocbonofboeaaGreat.C Go.Proofs.YteaocbonofboeaaGreatW.PrintWords Go.Proofs.YteaocbonofboeaaGreatW.PrintLast Go.Proofs.YteaocbonofboeaaGreatW.PrintMore
def rotN(x n:Nat):Nat:=(x%2^(64-n))*2^n+x/2^(64-n)
theorem Qql(x n:Nat)(hx:x<2^64)(hn:n≤64):rotN x n<2^64:=by
 unfold rotN;have hp:(2:Nat)^(64-n)*2^n=2^64:=by rw[← Nat.pow_add];congr 1;omega
 have h1:x%2^(64-n)<2^(64-n):=Nat.mod_lt _ (Nat.two_pow_pos _);have h2:x/2^(64-n)<2^n:=by rw[Nat.div_lt_iff_lt_mul (Nat.two_pow_pos _),Nat.mul_comm,hp];exact hx
 have h3:(x%2^(64-n))*2^n+2^n≤2^(64-n)*2^n:=by
  rw[← Nat.succ_mul];exact Nat.mul_le_mul_right _ h1
 omega
theorem Qqm(x i:Nat)(hx:x<2^64)(hi:i<64):(2*rotN x i)%2^64+rotN x i/2^63=rotN x (i+1):=by
 unfold rotN;obtain⟨m,hm⟩:∃m,m=63-i:=⟨_,rfl⟩;rw[show 64-i=m+1 by omega,show 64-(i+1)=m by omega];have hp:(2:Nat)^m*2^i=2^63:=by rw[← Nat.pow_add];congr 1;omega
 rw[Nat.pow_succ 2 m,Nat.pow_succ 2 i];generalize hP:(2:Nat)^m=P at *;generalize hQ:(2:Nat)^i=Q at *;have hP0:0<P:=by rw[← hP];exact Nat.two_pow_pos _
 have hQ0:0<Q:=by rw[← hQ];exact Nat.two_pow_pos _
 obtain⟨a,ha⟩:∃a,a=x/(P*2):=⟨_,rfl⟩;obtain⟨b,hb⟩:∃b,b=x%(P*2):=⟨_,rfl⟩;have hxab:x=P*2*a+b:=by rw[ha,hb];exact(Nat.div_add_mod x (P*2)).symm
 have hbl:b<P*2:=by rw[hb];exact Nat.mod_lt _ (by omega)
 have haQ:a<Q:=by
  rw[ha,Nat.div_lt_iff_lt_mul (by omega),Nat.mul_comm,Nat.mul_assoc,Nat.mul_comm 2 Q,← Nat.mul_assoc,hp];omega
 obtain⟨c,hc⟩:∃c,c=b/P:=⟨_,rfl⟩;obtain⟨d,hd⟩:∃d,d=b%P:=⟨_,rfl⟩;have hbcd:b=P*c+d:=by rw[hc,hd];exact(Nat.div_add_mod b P).symm
 have hdl:d<P:=by rw[hd];exact Nat.mod_lt _ hP0
 have hcl:c<2:=by rw[hc,Nat.div_lt_iff_lt_mul hP0,Nat.mul_comm];exact hbl
 have hxP:x/P=2*a+c:=by
  rw[hxab,hbcd,show P*2*a+(P*c+d)=P*(2*a+c)+d by rw[Nat.mul_add,Nat.mul_assoc,Nat.add_assoc],Nat.mul_add_div hP0,Nat.div_eq_of_lt hdl];rfl
 have hxm:x%P=d:=by
  rw[hxab,hbcd,show P*2*a+(P*c+d)=P*(2*a+c)+d by rw[Nat.mul_add,Nat.mul_assoc,Nat.add_assoc],Nat.mul_add_mod,Nat.mod_eq_of_lt hdl]
 rw[← ha,← hb,hxP,hxm];have he:d*Q+a<2^63:=by
  have:d*Q+Q≤P*Q:=by rw[← Nat.succ_mul];exact Nat.mul_le_mul_right _ hdl
  omega
 have hbq:b*Q+a=2^63*c+(d*Q+a):=by
  rw[hbcd,Nat.add_mul,Nat.mul_assoc,Nat.mul_comm c Q,← Nat.mul_assoc,hp,Nat.add_assoc]
 rw[hbq,show d*(Q*2)=2*(d*Q)by rw[← Nat.mul_assoc,Nat.mul_comm]];generalize d*Q=q at *;clear hp hbq hxab hbcd hbl;have:c=0∨c=1:=by omega
 rcases this with rfl|rfl<;>omega
theorem Qqn(x n:Nat)(hx:x<2^64)(h0:0<n)(hn:n<64):rotP (x:Int) (n:Int)=(rotN x n:Nat):=by
 have hand:Go.bits .and .u64 (IntKind.u64.wrap (n:Int)) 63=(n:Int):=by
  rw[IntWalk.u64_in _ (by omega),show(63:Int)=((63:Nat):Int) from rfl,bits_and_u64_nat _ _ (by omega) (by decide)];have:=Nat.and_two_pow_sub_one_eq_mod n 6;rw[show(63:Nat)=2^6-1 from rfl,this,Nat.mod_eq_of_lt (by omega)]
 have h:=Qkg (x:Int) (n:Int) ⟨by omega,by omega,hand⟩;unfold Qac.f at h;rw[hand,if_pos (by omega),IntWalk.u64_in _ (by omega),if_pos (by omega),Option.some_inj]at h;rw[← h];unfold shl shr rotN;have e1:min (n:Int).toNat IntKind.u64.bits=n:=by simp[IntKind.bits];omega
 have e2:min ((64:Int)-(n:Int)).toNat IntKind.u64.bits=64-n:=by simp[IntKind.bits]<;>omega
 rw[e1,e2,IntKind.wrap_u64];have e3:((x:Int)*2^n)%18446744073709551616=(((x%2^(64-n))*2^n:Nat):Int):=by
  rw[← Nat.mul_mod_mul_right,← Nat.pow_add,show 64-n+n=64 by omega];rw[Int.natCast_emod,Int.natCast_mul,Int.natCast_pow];rfl
 have e4:(x:Int)/2^(64-n)=((x/2^(64-n):Nat):Int):=by rw[Int.natCast_ediv,Int.natCast_pow];rfl
 rw[e3,e4];have hp:(2:Nat)^(64-n)*2^n=2^64:=by rw[← Nat.pow_add];congr 1;omega
 have h1:x%2^(64-n)<2^(64-n):=Nat.mod_lt _ (Nat.two_pow_pos _);have h2:x/2^(64-n)<2^n:=by rw[Nat.div_lt_iff_lt_mul (Nat.two_pow_pos _),Nat.mul_comm,hp];exact hx
 have h3:(x%2^(64-n))*2^n+2^n≤2^(64-n)*2^n:=by
  rw[← Nat.succ_mul];exact Nat.mul_le_mul_right _ h1
 have hq:=Nat.two_pow_pos n;rw[bits_or_u64_nat _ _ (by omega) (by omega)]
 congr 1
 rw[Nat.mul_comm,← Nat.two_pow_add_eq_or_of_lt h2]
theorem Qqo(x n:Nat)(hx:x<2^64)(hn:n≤64):Qpv (x:Int) n=(rotN x n:Nat):=by
 have key:∀(d i:Nat),i+d=n→Qbj.l0 (d+1) ((rotN x i:Nat):Int) (n:Int) (i:Int)=some ((rotN x n:Nat):Int):=by
  intro d
  induction d with
  | zero =>
   intro i h;unfold Qbj.l0;obtain rfl:i=n:=by omega
   rw[if_neg (by omega)]
  | succ d ih =>
   intro i h;unfold Qbj.l0;rw[if_pos (by omega),show wrap64 ((i:Int)+1)=((i+1:Nat):Int)by unfold wrap64;omega];have hl:=Qql x i hx (by omega);have hs:=Qqm x i hx (by omega);have e:IntKind.u64.wrap ((IntKind.u64.wrap (2*((rotN x i:Nat):Int)))+(IntKind.u64.wrap (Int.tdiv ((rotN x i:Nat):Int) 9223372036854775808)))=((rotN x (i+1):Nat):Int):=by
    rw[← hs,Int.tdiv_eq_ediv_of_nonneg (by omega)];generalize rotN x i=y at *;simp only[IntKind.wrap_u64];omega
   rw[e];exact ih (i+1) (by omega)
 have h0:rotN x 0=x:=by simp[rotN,Nat.mod_eq_of_lt hx,Nat.div_eq_of_lt hx]
 have:=key n 0 (by omega);rw[h0]at this;unfold Qpv Qbj.f;rw[show((0:Nat):Int)=0 from rfl]at this;rw[this];rfl
theorem Qqp(x:Int)(n:Nat)(hx0:0≤x)(hx:x<18446744073709551616)(h0:0<n)(hn:n<64):Qpv x n=rotP x (n:Int):=by
 obtain⟨y,rfl⟩:=Int.eq_ofNat_of_zero_le hx0;rw[Qqo y n (by omega) (by omega),Qqn y n (by omega) h0 hn]
theorem u64r(x:Int):0≤IntKind.u64.wrap x∧IntKind.u64.wrap x<18446744073709551616:=by
 rw[IntKind.wrap_u64];omega
theorem Qqq(x y:Int):Qpx x y=Qkh x y:=by
 unfold Qpx Qkh Qbh.f Qcp.f;rw[show(32:Nat)=31+1 from rfl,show(31:Int)=((31:Nat):Int) from rfl,Qpw _ 31 (by omega)];have hw:=u64r (x+(IntKind.u64.wrap (y*14029467366897019727)));rw[Qqp _ 31 hw.1 hw.2 (by omega) (by omega),Qkg _ _ ⟨by decide,by decide,by kernel_rfl⟩]
def leI:List Int→Int
 | []=>0
 | b :: l=>b+256*leI l
def Bytes(l:List Int):Prop:=∀x∈l,0≤x∧x<256
theorem Qqr(s:ByteArray):Bytes (bytesOf s):=by
 intro x hx;unfold bytesOf at hx;obtain⟨b,_,rfl⟩:=List.mem_map.1 hx;have:=b.toNat_lt;omega
theorem Bytes.drop{l:List Int}(h:Bytes l)(n:Nat):Bytes (l.drop n):=fun x hx=>h x (List.mem_of_mem_drop hx)
theorem Bytes.take{l:List Int}(h:Bytes l)(n:Nat):Bytes (l.take n):=fun x hx=>h x (List.mem_of_mem_take hx)
theorem Qqs{l:List Int}(h:Bytes l):0≤leI l∧leI l<256^l.length:=by
 induction l with
 | nil=>simp[leI]
 | cons b l ih =>
  have h1:=ih (fun x hx=>h x (List.mem_cons_of_mem _ hx));have h2:=h b (List.mem_cons_self ..);simp only[leI,List.length_cons,Int.pow_succ];omega
theorem Qqt(l:List Int)(b:Int):leI (l++[b])=leI l+256^l.length*b:=by
 induction l with
 | nil=>simp[leI]
 | cons a l ih=>simp only[List.cons_append,leI,ih,List.length_cons,Int.pow_succ];rw[Int.mul_add,Int.mul_comm (256^l.length) 256,Int.mul_assoc];omega
theorem rd_get{l:List Int}{i:Nat}(h:i<l.length):rd l (i:Int)=l[i]:=by simp[rd,List.getD,List.getElem?_eq_getElem h]
theorem Qqu{l:List Int}{i:Nat}(h:i<l.length):l.take (i+1)=l.take i++[rd l (i:Int)]:=by rw[List.take_succ_eq_append_getElem h,rd_get h]
theorem rd_range{l:List Int}(hb:Bytes l){i:Nat}(h:i<l.length):0≤rd l (i:Int)∧rd l (i:Int)<256:=by rw[rd_get h];exact hb _ (List.getElem_mem h)
theorem num_le(n:Nat)(hn:n≤8)(l:List Int)(hb:Bytes l)(hl:n≤l.length):numP n l=leI (l.take n):=by
 have key:∀(d i:Nat),i+d=n→Qcq.l0 (d+1) l (leI (l.take i)) (n:Int) (i:Int)=some (leI (l.take n)):=by
  intro d
  induction d with
  | zero =>
   intro i h;unfold Qcq.l0;obtain rfl:i=n:=by omega
   rw[if_neg (by omega)]
  | succ d ih =>
   intro i h;unfold Qcq.l0;have hw:wrap64 (8*(i:Int))=((8*i:Nat):Int):=by unfold wrap64;omega
   rw[if_pos (by omega),if_pos (by omega),if_pos (by omega),hw,if_pos (by omega),show wrap64 ((i:Int)+1)=((i+1:Nat):Int)by unfold wrap64;omega];have hr:=Qqs (hb.take i);have hlen:(l.take i).length=i:=by rw[List.length_take];omega
   rw[hlen]at hr;have hd:=rd_range hb (show i<l.length by omega);have e:Go.bits .or .u64 (leI (l.take i)) (shl .u64 (IntKind.u64.wrap (rd l (i:Int))) ((8*i:Nat):Int))=leI (l.take (i+1)):=by
    rw[Qqu (by omega),Qqt,hlen,IntWalk.u64_in _ (by omega)];generalize rd l (i:Int)=b at *;generalize leI (l.take i)=a at *;obtain⟨a,rfl⟩:=Int.eq_ofNat_of_zero_le hr.1;obtain⟨b,rfl⟩:=Int.eq_ofNat_of_zero_le hd.1;have hp:(256:Nat)^i=2^(8*i):=by rw[Nat.pow_mul]
    have ha:a<2^(8*i):=by
     have:=hr.2;rw[← hp]
     exact_mod_cast this
    have hbig:b*2^(8*i)<2^64:=by
     have h1:b*2^(8*i)<2^8*2^(8*i):=Nat.mul_lt_mul_of_pos_right (by omega) (Nat.two_pow_pos _);have h2:(2:Nat)^8*2^(8*i)≤2^64:=by rw[← Nat.pow_add];exact Nat.pow_le_pow_right (by omega) (by omega)
     omega
    have ha2:a<2^64:=by
     have h2:(2:Nat)^(8*i)≤2^64:=Nat.pow_le_pow_right (by omega) (by omega);omega
    unfold shl;rw[show min ((8*i:Nat):Int).toNat IntKind.u64.bits=8*i by simp[IntKind.bits];omega,IntKind.wrap_u64];have e1:((b:Int)*2^(8*i))%18446744073709551616=((2^(8*i)*b:Nat):Int):=by
     have e2:((b:Int)*2^(8*i))=((b*2^(8*i):Nat):Int):=by push_cast;rfl
     rw[e2,Nat.mul_comm (2^(8*i)) b];omega
    rw[e1,bits_or_u64_nat _ _ (by omega) (by rw[Nat.mul_comm];omega),Nat.or_comm,← Nat.two_pow_add_eq_or_of_lt ha];have e3:((256:Int)^i*(b:Int))=((256^i*b:Nat):Int):=by push_cast;rfl
    rw[e3,hp];omega
   rw[e];exact ih (i+1) (by omega)
 have:=key n 0 (by omega);unfold numP Qcq.f;rw[show leI (l.take 0)=0 from rfl,show((0:Nat):Int)=0 from rfl]at this;rw[this];rfl
theorem Qqv(s:ByteArray)(a b:Nat):bytesOf (s.extract a b)=((bytesOf s).drop a).take (b-a):=by
 unfold bytesOf;rw[← List.map_drop,← List.map_take]
 congr 1
 have:(s.extract a b).data=s.data.extract a b:=by simp
 rw[this,Array.toList_extract]
theorem Qqw(s:ByteArray):s.size=(bytesOf s).length:=(Qde s).symm
theorem val_le(s:ByteArray)(hs:s.size≤8):rval s=leI (bytesOf s):=by
 have hB:=Qqr s;have hlen:=Qde s;have key:∀(d:Nat) (x:Int),d≤s.size→0≤x→x*256^d+leI ((bytesOf s).take d)<18446744073709551616 →
   Qbc.l0 (d+1) s x ((d:Int)-1)=some (x*256^d+leI ((bytesOf s).take d)):=by
  intro d
  induction d with
  | zero =>
   intro x h h0 hx;unfold Qbc.l0;rw[if_neg (by omega)];simp[leI]
  | succ d ih =>
   intro x h h0 hx;unfold Qbc.l0;rw[show((d+1:Nat):Int)-1=(d:Int)by omega,if_pos (by omega),if_pos (by omega),if_pos (by omega),show wrap64 ((d:Int)-1)=(d:Int)-1 by unfold wrap64;omega];have hd:=rd_range hB (show d<(bytesOf s).length by omega);have hr:=Qqs (hB.take d);rw[Qdf]at hd;have e2:leI ((bytesOf s).take (d+1))=leI ((bytesOf s).take d)+256^d*bt s (d:Int):=by
    rw[Qqu (by omega),Qqt,Qdf,List.length_take,Nat.min_eq_left (by omega)]
   have e3:x*256^(d+1)+leI ((bytesOf s).take (d+1))=(x*256+bt s (d:Int))*256^d+leI ((bytesOf s).take d):=by
    rw[e2,Int.pow_succ,Int.add_mul,Int.mul_comm (256^d) 256,← Int.mul_assoc,Int.mul_comm (256^d) (bt s (d:Int))];omega
   rw[e3]at hx ⊢;have hpow:(1:Int)≤256^d:=by
    have:=Nat.one_le_pow d 256 (by omega)
    exact_mod_cast this
   have hle:x*256+bt s (d:Int)≤(x*256+bt s (d:Int))*256^d:=by
    have h1:0≤x*256+bt s (d:Int):=by omega
    calc x*256+bt s (d:Int)=(x*256+bt s (d:Int))*1:=by omega
     _≤_:=Int.mul_le_mul_of_nonneg_left hpow h1
   have e4:IntKind.u64.wrap ((IntKind.u64.wrap (x*256))+(IntKind.u64.wrap (bt s (d:Int))))=x*256+bt s (d:Int):=by
    rw[IntWalk.u64_in (x*256) (by omega),IntWalk.u64_in (bt s (d:Int)) (by omega),IntWalk.u64_in _ (by omega)]
   rw[e4];exact ih (x*256+bt s (d:Int)) (by omega) (by omega) hx
 have hr:=Qqs hB;have hp:(256:Int)^(bytesOf s).length≤18446744073709551616:=by
  have h1:(256:Nat)^(bytesOf s).length≤256^8:=Nat.pow_le_pow_right (by omega) (by omega);have h2:(256:Nat)^8=18446744073709551616:=by decide
  rw[h2]at h1;have h3:((256^(bytesOf s).length:Nat):Int)≤((18446744073709551616:Nat):Int):=Int.ofNat_le.2 h1;rw[Int.natCast_pow]at h3;exact h3
 have hall:(bytesOf s).take s.size=bytesOf s:=List.take_of_length_le (by omega);have h:=key s.size 0 (Nat.le_refl _) (Int.le_refl _) (by rw[hall];omega);rw[hall]at h;unfold rval Qbc.f;rw[show wrap64 ((s.size:Int)-1)=(s.size:Int)-1 by unfold wrap64;omega,h];simp
theorem val_ext(s:ByteArray)(a b:Nat)(h:b-a≤8):rval (s.extract a b)=leI (((bytesOf s).drop a).take (b-a)):=by
 rw[val_le _ (Nat.le_trans (Qqj s a b) h),Qqv]
theorem Qqx(s:ByteArray)(a n:Nat)(hn:n≤8)(h:a+n≤s.size):rval (s.extract a (a+n))=numP n ((bytesOf s).drop a):=by
 rw[val_ext s a (a+n) (by omega),num_le n hn _ ((Qqr s).drop a) (by rw[List.length_drop,Qde];omega),Nat.add_sub_cancel_left]
def R64(x:Int):Prop:=0≤x∧x<18446744073709551616
def RV(v:V4):Prop:=R64 v.1∧R64 v.2.1∧R64 v.2.2.1∧R64 v.2.2.2
theorem Qqy(x y:Int):R64 (Qkh x y):=by
 unfold Qkh Qcp.f;rw[Qkg _ _ ⟨by decide,by decide,by kernel_rfl⟩];exact u64r _
theorem Qqz(v:V4)(l:List Int):RV (Qki v l):=⟨Qqy _ _,Qqy _ _,Qqy _ _,Qqy _ _⟩
theorem Qra(v:V4)(s:ByteArray)(h:32≤s.size):Qqb v s=Qki v (bytesOf s):=by
 unfold Qqb Qki;have h0:=Qqx s 0 8 (by omega) (by omega);have h1:=Qqx s 8 8 (by omega) (by omega);have h2:=Qqx s 16 8 (by omega) (by omega);have h3:=Qqx s 24 8 (by omega) (by omega);simp only[Qqq];rw[show(8:Nat)=0+8 from rfl,h0,show(0+8:Nat)=8 from rfl,h1,h2,h3];rfl
theorem Qrb:∀(m:Nat) (v:V4) (s:ByteArray),32*m≤s.size→RV v→(rrun m v s).1=Qkj m v (bytesOf s)∧bytesOf (rrun m v s).2=(bytesOf s).drop (32*m)∧RV (Qkj m v (bytesOf s))
 | 0,v,s,_,hv=>⟨rfl,by simp[rrun],hv⟩
 | m+1,v,s,h,hv=>by
  have hsz:(s.extract 32 s.size).size=s.size-32:=by simp
  have hb:bytesOf (s.extract 32 s.size)=(bytesOf s).drop 32:=by
   rw[Qqv];exact List.take_of_length_le (by rw[List.length_drop,Qde];omega)
  obtain⟨h1,h2,h3⟩:=Qrb m (Qqb v s) (s.extract 32 s.size) (by omega) (by rw[Qra v s (by omega)];exact Qqz _ _);rw[hb,Qra v s (by omega)]at h1 h3;refine⟨?_,?_,h3⟩
  ·show(rrun m (Qqb v s) (s.extract 32 s.size)).1=Qkj m (Qki v (bytesOf s)) ((bytesOf s).drop 32);rw[Qra v s (by omega)];exact h1
  ·show bytesOf (rrun m (Qqb v s) (s.extract 32 s.size)).2=_;rw[h2,hb,List.drop_drop]
   congr 1
   omega
theorem rotP_r(x:Int)(n:Nat)(hx:R64 x)(h0:0<n)(hn:n<64):R64 (rotP x (n:Int)):=by
 obtain⟨hx0,hx1⟩:=hx;obtain⟨y,rfl⟩:=Int.eq_ofNat_of_zero_le hx0;rw[Qqn y n (by omega) h0 hn];have:=Qql y n (by omega) (by omega);unfold R64;omega
theorem Qrc(V:V4)(hV:RV V):rsum V=Qlo 4 V:=by
 obtain⟨h1,h2,h3,h4⟩:=hV;rw[Qlu,Qlt,Qls,Qlr,Qlq];unfold rsum;have r1:=rotP_r V.1 1 h1 (by omega) (by omega);rw[Qqp _ 1 h1.1 h1.2 (by omega) (by omega),Qqp _ 7 h2.1 h2.2 (by omega) (by omega),Qqp _ 12 h3.1 h3.2 (by omega) (by omega),Qqp _ 18 h4.1 h4.2 (by omega) (by omega)];rw[Int.zero_add,show((1:Nat):Int)=1 from rfl,show((7:Nat):Int)=7 from rfl,show((12:Nat):Int)=12 from rfl,show((18:Nat):Int)=18 from rfl];rw[show((1:Nat):Int)=1 from rfl]at r1;rw[IntWalk.u64_in (rotP V.1 1) ⟨r1.1,by have:=r1.2;omega⟩]
theorem Qrd(h:Int)(V:V4):rmix h V=Qlp 4 h V:=by
 rw[Qlz,Qly,Qlx,Qlw,Qlv];unfold rmix Qqc mixP;simp only[Qqq]
theorem Qre{k:Nat}(x:Int)(n:Nat)(hx:R64 x)(h0:0<n)(hn:n<64)(hk:n+1≤k):Qbj.f k x (n:Int)=some (rotP x (n:Int)):=by
 rw[← Qqp x n hx.1 hx.2 h0 hn];exact Qdk (g:=fun k=>Qbj.f k x (n:Int)) (Qbj.mono x (n:Int)) hk (Qpw x n (by omega))
theorem into_k{k:Nat}(x y:Int)(hk:32≤k):Qbh.f k x y=some (Qkh x y):=by
 rw[← Qqq];exact Qdk (g:=fun k=>Qbh.f k x y) (Qbh.mono x y) hk (Qpy x y)
theorem val_k{k:Nat}(s:ByteArray)(a n:Nat)(hn:n≤8)(h:a+n≤s.size)(hk:9≤k):Qbc.f k (s.extract a (a+n))=some (numP n ((bytesOf s).drop a)):=by
 rw[← Qqx s a n hn h];have hs:(s.extract a (a+n)).size≤8:=Nat.le_trans (Qqj s a (a+n)) (by omega);exact Qdk (g:=fun k=>Qbc.f k (s.extract a (a+n))) (Qbc.mono _) (by omega) (Qqa _ (by omega))
theorem mix_k{k:Nat}(x:Int)(n:Nat)(hx:R64 x)(hn:n<64)(hk:n+1≤k):Qbi.f k x (n:Int)=some (Go.bits .xor .u64 x (x/2^n)):=by
 have key:∀(d i:Nat),i+d=n→Qbi.l0 (d+1) x (x/2^i) (n:Int) (i:Int)=some (Go.bits .xor .u64 x (x/2^n)):=by
  intro d
  induction d with
  | zero =>
   intro i h;unfold Qbi.l0;obtain rfl:i=n:=by omega
   rw[if_neg (by omega)]
  | succ d ih =>
   intro i h;unfold Qbi.l0;have hq:0≤x/2^i:=Int.ediv_nonneg hx.1 (Int.pow_nonneg (by decide));have hql:x/2^i≤x:=Int.ediv_le_self _ hx.1;have hx1:=hx.2;rw[if_pos (by omega),show wrap64 ((i:Int)+1)=((i+1:Nat):Int)by unfold wrap64;omega,Int.tdiv_eq_ediv_of_nonneg hq];have e:IntKind.u64.wrap (x/2^i/2)=x/2^(i+1):=by
    rw[IntWalk.u64_in _ (by omega),Int.pow_succ,Int.ediv_ediv_of_nonneg (Int.pow_nonneg (by decide))]
   rw[e];exact ih (i+1) (by omega)
 have h:=key n 0 (by omega);rw[show x/2^0=x by simp,show((0:Nat):Int)=0 from rfl]at h;exact Qdk (g:=fun k=>Qbi.f k x (n:Int)) (Qbi.mono x (n:Int)) hk h
theorem one1_r(h x:Int):R64 (one1 h x):=u64r _
theorem one4_r(h:Int)(l:List Int):R64 (one4 h l):=u64r _
theorem one8_r(h:Int)(l:List Int):R64 (one8 h l):=u64r _
theorem Qrf(op:BinOp)(x y:Int):R64 (Go.bits op .u64 x y):=(by unfold Go.bits;split<;>exact u64r _)
theorem fin_k{k:Nat}(h:Int)(hh:R64 h)(hk:34≤k):((Qbi.f k h 33).bind fun t335=>((Qbi.f k (IntKind.u64.wrap (t335*14029467366897019727)) 29).bind fun t336=>((Qbi.f k (IntKind.u64.wrap (t336*1609587929392839161)) 32).bind fun t337=>(some t337))))=some (finP h):=by
 rw[show(33:Int)=((33:Nat):Int) from rfl,mix_k h 33 hh (by omega) (by omega),Option.bind_some];rw[show(29:Int)=((29:Nat):Int) from rfl,mix_k _ 29 (u64r _) (by omega) (by omega),Option.bind_some];rw[show(32:Int)=((32:Nat):Int) from rfl,mix_k _ 32 (u64r _) (by omega) (by omega),Option.bind_some];rfl
theorem Qrg(s:ByteArray)(hs:s.size≤4611686018427387904):∀(d i k:Nat) (h:Int),i+d=s.size→R64 h→d+40≤k→Qbf.l2 k s h (i:Int)=some (finP (((bytesOf s).drop i).foldl one1 h))
 | 0,i,k,h,hi,hh,hk=>by
  obtain⟨k,rfl⟩:∃m,k=m+1:=⟨k-1,by omega⟩;unfold Qbf.l2;rw[if_neg (by omega),fin_k h hh (by omega),List.drop_of_length_le (by rw[Qde];omega)];rfl
 | d+1,i,k,h,hi,hh,hk=>by
  obtain⟨k,rfl⟩:∃m,k=m+1:=⟨k-1,by omega⟩;unfold Qbf.l2;rw[if_pos (by omega),if_pos (by omega),show(11:Int)=((11:Nat):Int) from rfl,Qre _ 11 (Qrf _ _ _) (by omega) (by omega) (by omega),Option.bind_some,show wrap64 ((i:Int)+1)=((i+1:Nat):Int)by unfold wrap64;omega];have:=Qrg s hs d (i+1) k (one1 h (bt s (i:Int))) (by omega) (one1_r _ _) (by omega);rw[List.drop_eq_getElem_cons (by rw[Qde];omega),List.foldl_cons,← rd_get (l:=bytesOf s) (by rw[Qde];omega),Qdf];exact this
theorem Qrh(s:ByteArray)(hs:s.size<4)(k:Nat)(h:Int)(hh:R64 h)(hk:60≤k):Qbf.l1 k s h=some (finP ((bytesOf s).foldl one1 h)):=by
 obtain⟨k,rfl⟩:∃m,k=m+1:=⟨k-1,by omega⟩;unfold Qbf.l1;rw[if_neg (by omega)];have:=Qrg s (by omega) s.size 0 k h (by omega) hh (by omega);exact this
theorem Qri(s:ByteArray)(a:Nat):(s.extract a s.size).size=s.size-a:=by simp
theorem Qrj(s:ByteArray)(a:Nat):bytesOf (s.extract a s.size)=(bytesOf s).drop a:=by
 rw[Qqv];exact List.take_of_length_le (by rw[List.length_drop,Qde];omega)
theorem sum_l1(s:ByteArray)(hs:s.size<8)(k:Nat)(h:Int)(hh:R64 h)(hk:70≤k):Qbf.l1 k s h=some (if 4≤(bytesOf s).length then finP (((bytesOf s).drop 4).foldl one1 (one4 h (bytesOf s)))else finP ((bytesOf s).foldl one1 h)):=by
 by_cases h4:4≤s.size
 ·obtain⟨k,rfl⟩:∃m,k=m+1:=⟨k-1,by omega⟩;unfold Qbf.l1;rw[if_pos (by omega),if_pos (by omega),if_pos (by omega)];have hv:=val_k (k:=k) s 0 4 (by omega) (by omega) (by omega);rw[Nat.zero_add,List.drop_zero]at hv;rw[hv,Option.bind_some,show(23:Int)=((23:Nat):Int) from rfl,Qre _ 23 (Qrf _ _ _) (by omega) (by omega) (by omega),Option.bind_some,if_pos (by rw[Qde];omega),← Qrj];exact Qrh (s.extract 4 s.size) (by rw[Qri];omega) k (one4 h (bytesOf s)) (one4_r _ _) (by omega)
 ·rw[if_neg (by rw[Qde];omega)];exact Qrh s (by omega) k h hh (by omega)
theorem Qrk(h:Int)(l:List Int)(hl:8≤l.length):sumP h l=sumP (one8 h l) (l.drop 8):=by
 unfold sumP;obtain⟨m,hm⟩:∃m,l.length/8=m+1:=⟨l.length/8-1,by omega⟩;have hm':(l.drop 8).length/8=m:=by rw[List.length_drop];omega
 have hd:(l.drop 8).drop (8*m)=l.drop (8*(m+1)):=by rw[List.drop_drop];congr 1;omega
 rw[hm,hm',hd];rfl
theorem Qrl:∀(m k:Nat) (s:ByteArray) (h:Int),s.size/8=m→R64 h→m+90≤k→Qbf.l0 k s h=some (sumP h (bytesOf s))
 | 0,k,s,h,hm,hh,hk=>by
  obtain⟨k,rfl⟩:∃m,k=m+1:=⟨k-1,by omega⟩;unfold Qbf.l0;rw[if_neg (by omega),sum_l1 s (by omega) k h hh (by omega)];unfold sumP;rw[show(bytesOf s).length/8=0 by rw[Qde];exact hm];simp only[Nat.mul_zero,List.drop_zero,Qme]
 | m+1,k,s,h,hm,hh,hk=>by
  obtain⟨k,rfl⟩:∃m,k=m+1:=⟨k-1,by omega⟩;unfold Qbf.l0;rw[if_pos (by omega),if_pos (by omega),if_pos (by omega)];have hv:=val_k (k:=k) s 0 8 (by omega) (by omega) (by omega);rw[Nat.zero_add,List.drop_zero]at hv;rw[hv,Option.bind_some,into_k _ _ (by omega),Option.bind_some,show(27:Int)=((27:Nat):Int) from rfl,Qre _ 27 (Qrf _ _ _) (by omega) (by omega) (by omega),Option.bind_some];rw[Qrk h _ (by rw[Qde];omega),← Qrj];exact Qrl m k (s.extract 8 s.size) (one8 h (bytesOf s)) (by rw[Qri];omega) (one8_r _ _) (by omega)
theorem Qrm(sd:Int)(s:ByteArray)(k:Nat)(hsd:R64 sd)(hs:s.size≤4611686018427387904)(hk:s.size+100≤k):Qbf.f k sd s=some (Qmf sd (bytesOf s)):=by
 unfold Qbf.f Qmf;rw[Qde,IntWalk.u64_in (s.size:Int) (by omega)]
 by_cases h32:32≤s.size
 ·rw[if_pos (by omega)];unfold Qbg.f;rw[if_pos (by omega),Option.bind_some];have hR:RV (Qqd sd):=⟨u64r _,u64r _,hsd,u64r _⟩;obtain⟨h1,h2,h3⟩:=Qrb (s.size/32) (Qqd sd) s (by omega) hR;obtain⟨k,rfl⟩:∃m,k=m+1:=⟨k-1,by omega⟩;have hj:∀a b c,Qbf.j0 (k+1) a b c=Qbf.l0 k a (IntKind.u64.wrap (c+b)):=fun _ _ _=>rfl
  rw[hj];have hsz:(rrun (s.size/32) (Qqd sd) s).2.size=s.size-32*(s.size/32):=by
   rw[Qqw,h2,List.length_drop,Qde]
  have:=Qrl _ k (rrun (s.size/32) (Qqd sd) s).2 (IntKind.u64.wrap (rmix (rsum (rrun (s.size/32) (Qqd sd) s).1) (rrun (s.size/32) (Qqd sd) s).1+(s.size:Int))) rfl (u64r _) (by rw[hsz];omega);rw[this,h2,h1,Qrd,Qrc _ h3];unfold Qma;rw[if_neg (by omega)];rfl
 ·rw[if_neg (by omega)];obtain⟨k,rfl⟩:∃m,k=m+1:=⟨k-1,by omega⟩;have hj:∀a b c,Qbf.j0 (k+1) a b c=Qbf.l0 k a (IntKind.u64.wrap (c+b)):=fun _ _ _=>rfl
  rw[hj,Qrl _ k s _ rfl (u64r _) (by omega),show s.size/32=0 by omega];unfold Qma;rw[if_pos (by omega)];rfl
end Go.Proofs.YteaocbonofboeaaGreat.CodecP
end
