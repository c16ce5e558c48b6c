/- Merged texts. -/
import Derived.Test.YteaocbonofboeaaGreatMC02
import Derived.Test.YteaocbonofboeaaGreatMC03
import Derived.Test.YteaocbonofboeaaGreatMC07
import Derived.Test.YteaocbonofboeaaGreatMC08
import Derived.WalkLawsBesides
import Derived.Recover
set_option linter.unusedVariables false
set_option linter.unusedSimpArgs false
set_option maxHeartbeats 8000000
set_option maxRecDepth 100000
section
namespace Go.Proofs.YteaocbonofboeaaGreat.C
open Go.RowKit Go.Proofs.YteaocbonofboeaaGreatW.PrintWords Go.Proofs.YteaocbonofboeaaGreatW.PrintLast Go.Proofs.YteaocbonofboeaaGreatW.PrintMore
theorem Qmc(n:Nat)(hn:n≤64):∀(d i:Nat) (x:Int),i+d=n→∃r,Qbh.l0 (d+1) x (n:Int) (i:Int)=some r
 | 0,i,x,h=>by
  refine⟨x,?_⟩;unfold Qbh.l0;rw[if_neg (by omega)]
 | d+1,i,x,h=>by
  obtain⟨r,hr⟩:=Qmc n hn d (i+1) (IntKind.u64.wrap ((IntKind.u64.wrap (2*x))+(IntKind.u64.wrap (Int.tdiv x 9223372036854775808)))) (by omega);refine⟨r,?_⟩;unfold Qbh.l0;rw[if_pos (by omega),show wrap64 ((i:Int)+1)=((i+1:Nat):Int)by unfold wrap64;omega];exact hr
def Qmd(x:Int)(n:Nat):Int:=(Qbh.f (n+1) x n).getD 0
theorem Qme(x:Int)(n:Nat)(hn:n≤64):Qbh.f (n+1) x n=some (Qmd x n):=by
 obtain⟨r,hr⟩:=Qmc n hn n 0 x (by omega);have h:Qbh.f (n+1) x n=some r:=hr;unfold Qmd;rw[h];rfl
def Qmf(x y:Int):Int:=(Qbf.f 32 x y).getD 0
theorem Qmg(x y:Int):Qbf.f 32 x y=some (Qmf x y):=by
 unfold Qmf Qbf.f;rw[show(32:Nat)=31+1 from rfl,show(31:Int)=((31:Nat):Int) from rfl,Qme _ 31 (by omega)];rfl
theorem Qmh(s:ByteArray)(hs:s.size≤1000):∀(d:Nat) (x:Int),d≤s.size→∃r,Qba.l0 (d+1) s x ((d:Int)-1)=some r
 | 0,x,h=>by
  refine⟨x,?_⟩;unfold Qba.l0;rw[if_neg (by omega)]
 | d+1,x,h=>by
  obtain⟨r,hr⟩:=Qmh s hs d (IntKind.u64.wrap ((IntKind.u64.wrap (x*256))+(IntKind.u64.wrap (bt s (d:Int))))) (by omega);refine⟨r,?_⟩;unfold Qba.l0;rw[show((d+1:Nat):Int)-1=(d:Int)by omega,if_pos (by omega),if_pos (by omega),if_pos (by omega),show wrap64 ((d:Int)-1)=(d:Int)-1 by unfold wrap64;omega];exact hr
def rval(s:ByteArray):Int:=(Qba.f (s.size+1) s).getD 0
theorem Qmi(s:ByteArray)(hs:s.size≤1000):Qba.f (s.size+1) s=some (rval s):=by
 obtain⟨r,hr⟩:=Qmh s hs s.size 0 (Nat.le_refl _);have h:Qba.f (s.size+1) s=some r:=by
  unfold Qba.f;rw[show wrap64 ((s.size:Int)-1)=(s.size:Int)-1 by unfold wrap64;omega];exact hr
 unfold rval;rw[h];rfl
def Qmj(v:V4)(s:ByteArray):V4:=(Qmf v.1 (rval (s.extract 0 8)),Qmf v.2.1 (rval (s.extract 8 16)),Qmf v.2.2.1 (rval (s.extract 16 24)),Qmf v.2.2.2 (rval (s.extract 24 32)))
def rrun:Nat→V4→ByteArray→V4 × ByteArray
 | 0,v,s=>(v,s)
 | m+1,v,s=>rrun m (Qmj v s) (s.extract 32 s.size)
def rsum(V:V4):Int:=IntKind.u64.wrap (IntKind.u64.wrap (IntKind.u64.wrap (Qmd V.1 1+Qmd V.2.1 7)+Qmd V.2.2.1 12)+Qmd V.2.2.2 18)
def Qmk(h x:Int):Int:=IntKind.u64.wrap (IntKind.u64.wrap (Go.bits .xor .u64 h (Qmf 0 x)*Q1)+Q4)
def rmix(h:Int)(V:V4):Int:=Qmk (Qmk (Qmk (Qmk h V.1) V.2.1) V.2.2.1) V.2.2.2
def Qml(sd:Int):V4:=(IntKind.u64.wrap (IntKind.u64.wrap (sd+Q1)+Q2),IntKind.u64.wrap (sd+Q2),sd,IntKind.u64.wrap (sd-Q1))
def Qbe.f(a0:Int)(a1:ByteArray):Option (Int × ByteArray) :=
 if a1.size≤9223372036854775807 then some (rmix (rsum (rrun (a1.size/32) (Qml a0) a1).1) (rrun (a1.size/32) (Qml a0) a1).1,(rrun (a1.size/32) (Qml a0) a1).2)else none
def rmixTo(i:Nat)(h:Int)(V:V4):Int:=match i with
 | 0=>h
 | 1=>Qmk h V.1
 | 2=>Qmk (Qmk h V.1) V.2.1
 | 3=>Qmk (Qmk (Qmk h V.1) V.2.1) V.2.2.1
 | _=>rmix h V
def VAt(W:World)(g:Nat)(V:V4):Prop:=W.heap[g]? = some (.cells #[.int .u64 V.1,.int .u64 V.2.1,.int .u64 V.2.2.1,.int .u64 V.2.2.2] 278 (0,0))
def Qmm:Value→Nat
 | .string s=>s.size
 | _=>0
def Qmn(i:Nat)(v:V4)(s:ByteArray):V4:=(if 0<i then Qmf v.1 (rval (s.extract 0 8))else v.1,if 1<i then Qmf v.2.1 (rval (s.extract 8 16))else v.2.1,if 2<i then Qmf v.2.2.1 (rval (s.extract 16 24))else v.2.2.1,if 3<i then Qmf v.2.2.2 (rval (s.extract 24 32))else v.2.2.2)
theorem Qmo(s:ByteArray)(hs:s.size≤1000)(W:World):Calls Tryz.prog 186 #[.string s] W fun e w'=>e=.returned (.int .u64 (rval s))∧Drawn0 W w':=Qba.calls _ s _ W (Qmi s hs)
theorem Qmp(x y:Int)(W:World):Calls Tryz.prog 191 #[.int .u64 x,.int .u64 y] W fun e w'=>e=.returned (.int .u64 (Qmf x y))∧Drawn0 W w':=Qbf.calls _ x y _ W (Qmg x y)
theorem Qmq(x:Int)(n:Nat)(j:Int)(hj:j=(n:Int))(hn:n≤64)(W:World):Calls Tryz.prog 192 #[.int .u64 x,.int .i64 j] W fun e w'=>e=.returned (.int .u64 (Qmd x n))∧Drawn0 W w':=by
 subst hj;exact Qbh.calls _ x n _ W (Qme x n hn)
theorem Qmr(s:ByteArray)(a b:Nat):(s.extract a b).size≤b-a:=by
 rw[ByteArray.size_extract];omega
theorem Qms(sd:Int)(s0:ByteArray)(w:World)(hs:s0.size≤9223372036854775807) :
  Calls Tryz.prog 190 #[.int .u64 sd,.string s0] w fun e w'=>e=.returned (.tuple #[.int .u64 (rmix (rsum (rrun (s0.size/32) (Qml sd) s0).1) (rrun (s0.size/32) (Qml sd) s0).1),.string (rrun (s0.size/32) (Qml sd) s0).2])∧Below w.heap.size w w':=by
 have hu2:=Tryz.underlying278
 go_enter Tryz.func190,Tryz.ntmps190
 go_wp2_with fail
 obtain⟨g,hg⟩:∃g,g=w.heap.size:=⟨_,rfl⟩;obtain⟨V0,hV0⟩:∃V0,V0=Qml sd:=⟨_,rfl⟩;obtain⟨W,hW⟩:∃W,W=w.alloc (.cells #[.int .u64 (IntKind.u64.wrap (IntKind.u64.wrap (sd+11400714785074694791)+14029467366897019727)),.int .u64 (IntKind.u64.wrap (sd+14029467366897019727)),.int .u64 sd,.int .u64 (IntKind.u64.wrap (sd-11400714785074694791))] 278):=⟨_,rfl⟩;have HV0:=QA (show VAt W g V0 by rw[hW,hg,hV0];exact Qee w _);have HW0:=QA (show Below w.heap.size w W by rw[hW];exact Qcp (Below.refl _ _) _);rw[← hW,← hg];have HG:=QA hg;have HVV:=QA hV0;clear hW hg hV0
 go_loopw [1,9,29] (fun v1 v9 a wr=>∃(m:Nat) (s:ByteArray) (V:V4),v1=.string s∧s.size≤s0.size∧Aside0 (s.size/32=m∧rrun (s0.size/32) V0 s0=rrun m V s)∧Aside0 (VAt wr g V)∧Aside0 (Below w.heap.size w wr))
  (fun v1 _ _ _=>Qmm v1)
 case atStart=>exact⟨_,s0,V0,rfl,Nat.le_refl _,⟨rfl,rfl⟩,HV0,HW0⟩
 case round =>
  clear HV0 HW0;obtain⟨m,s,V,rfl,hss,HM,HV,HB⟩:=hrel
  by_cases k:32≤s.size
  ·have d:(32:Int)≤(s.size:Int):=by omega
   go_wp2_with fail
   go_loopw [9,29] (fun v9 a wi=>∃(i:Nat) (iv:Int),i≤4∧a=.int .i64 iv∧Aside0 (iv=(i:Int))∧Aside0 (VAt wi g (Qmn i V s))∧Aside0 (Below w.heap.size w wi))
    (fun _ a _=>4-(intOf a).toNat)
   case atStart=>exact⟨0,0,by omega,rfl,⟨rfl⟩,HV,HB⟩
   case round =>
    clear HV HB;obtain⟨i,iv,hi,rfl,HI,HV,HB⟩:=hrel
    by_cases h4:i<4
    ·have hk:i=0∨i=1∨i=2∨i=3:=by omega
     rcases hk with rfl|rfl|rfl|rfl
     ·obtain rfl:iv=0:=HI.out;have cv:wr.cell? ⟨g,0,none⟩=some (.int .u64 V.1):=(Qdo HV.out 0).trans rfl;have fv:=Qdp HV.out 0
      go_wp2_with fail
      have hw0:IntKind.i64.wrap 0=0:=IntWalk.i64_in 0 (by decide);have hw1:IntKind.i64.wrap 8=8:=IntWalk.i64_in 8 (by decide);have hsz:(8:Int)≤(s.size:Int):=by omega
      have hx:(s.extract 0 8).size≤1000:=Nat.le_trans (Qmr s 0 8) (by decide)
      go_region_with (first |(go_at_call 186;refine(Qmo (s.extract 0 8) hx _).mono ?_;rintro e w7 ⟨rfl,hd⟩;obtain⟨q,rfl⟩:=hd.out;clear hd) |(go_at_call 191;refine(Qmp _ _ _).mono ?_;rintro e w8 ⟨rfl,hd⟩;obtain⟨q2,rfl⟩:=hd.out;clear hd))
      all_goals
       go_wp2_with fail
       go_roundw
       case rel=>exact⟨1,1,by omega,by go_num,⟨rfl⟩,⟨Qdl (w:=wr.drewN _) HV.out 0 _⟩,⟨Qjk (Qcr HB.out _) (by rw[HG.out];exact Nat.le_refl _)⟩⟩
       case measure=>simp[intOf]
     ·obtain rfl:iv=1:=HI.out;have cv:wr.cell? ⟨g,1,none⟩=some (.int .u64 V.2.1):=(Qdo HV.out 1).trans rfl;have fv:=Qdp HV.out 1
      go_wp2_with fail
      have hw0:IntKind.i64.wrap 8=8:=IntWalk.i64_in 8 (by decide);have hw1:IntKind.i64.wrap 16=16:=IntWalk.i64_in 16 (by decide);have hsz:(16:Int)≤(s.size:Int):=by omega
      have hx:(s.extract 8 16).size≤1000:=Nat.le_trans (Qmr s 8 16) (by decide)
      go_region_with (first |(go_at_call 186;refine(Qmo (s.extract 8 16) hx _).mono ?_;rintro e w7 ⟨rfl,hd⟩;obtain⟨q,rfl⟩:=hd.out;clear hd) |(go_at_call 191;refine(Qmp _ _ _).mono ?_;rintro e w8 ⟨rfl,hd⟩;obtain⟨q2,rfl⟩:=hd.out;clear hd))
      all_goals
       go_wp2_with fail
       go_roundw
       case rel=>exact⟨2,2,by omega,by go_num,⟨rfl⟩,⟨Qdl (w:=wr.drewN _) HV.out 1 _⟩,⟨Qjk (Qcr HB.out _) (by rw[HG.out];exact Nat.le_refl _)⟩⟩
       case measure=>simp[intOf]
     ·obtain rfl:iv=2:=HI.out;have cv:wr.cell? ⟨g,2,none⟩=some (.int .u64 V.2.2.1):=(Qdo HV.out 2).trans rfl;have fv:=Qdp HV.out 2
      go_wp2_with fail
      have hw0:IntKind.i64.wrap 16=16:=IntWalk.i64_in 16 (by decide);have hw1:IntKind.i64.wrap 24=24:=IntWalk.i64_in 24 (by decide);have hsz:(24:Int)≤(s.size:Int):=by omega
      have hx:(s.extract 16 24).size≤1000:=Nat.le_trans (Qmr s 16 24) (by decide)
      go_region_with (first |(go_at_call 186;refine(Qmo (s.extract 16 24) hx _).mono ?_;rintro e w7 ⟨rfl,hd⟩;obtain⟨q,rfl⟩:=hd.out;clear hd) |(go_at_call 191;refine(Qmp _ _ _).mono ?_;rintro e w8 ⟨rfl,hd⟩;obtain⟨q2,rfl⟩:=hd.out;clear hd))
      all_goals
       go_wp2_with fail
       go_roundw
       case rel=>exact⟨3,3,by omega,by go_num,⟨rfl⟩,⟨Qdl (w:=wr.drewN _) HV.out 2 _⟩,⟨Qjk (Qcr HB.out _) (by rw[HG.out];exact Nat.le_refl _)⟩⟩
       case measure=>simp[intOf]
     ·obtain rfl:iv=3:=HI.out;have cv:wr.cell? ⟨g,3,none⟩=some (.int .u64 V.2.2.2):=(Qdo HV.out 3).trans rfl;have fv:=Qdp HV.out 3
      go_wp2_with fail
      have hw0:IntKind.i64.wrap 24=24:=IntWalk.i64_in 24 (by decide);have hw1:IntKind.i64.wrap 32=32:=IntWalk.i64_in 32 (by decide);have hsz:(32:Int)≤(s.size:Int):=by omega
      have hx:(s.extract 24 32).size≤1000:=Nat.le_trans (Qmr s 24 32) (by decide)
      go_region_with (first |(go_at_call 186;refine(Qmo (s.extract 24 32) hx _).mono ?_;rintro e w7 ⟨rfl,hd⟩;obtain⟨q,rfl⟩:=hd.out;clear hd) |(go_at_call 191;refine(Qmp _ _ _).mono ?_;rintro e w8 ⟨rfl,hd⟩;obtain⟨q2,rfl⟩:=hd.out;clear hd))
      all_goals
       go_wp2_with fail
       go_roundw
       case rel=>exact⟨4,4,by omega,by go_num,⟨rfl⟩,⟨Qdl (w:=wr.drewN _) HV.out 3 _⟩,⟨Qjk (Qcr HB.out _) (by rw[HG.out];exact Nat.le_refl _)⟩⟩
       case measure=>simp[intOf]
    ·obtain rfl:i=4:=by omega
     obtain rfl:iv=4:=HI.out
     go_wp2_with fail
     go_roundw
     case rel =>
      have e4:Qmn 4 V s=Qmj V s:=rfl;have hm:=HM.out;have hd:(s.extract 32 s.size).size=s.size-32:=by rw[ByteArray.size_extract];omega
      refine⟨m-1,s.extract 32 s.size,Qmj V s,rfl,by rw[hd];omega,⟨by rw[hd];omega,?_⟩,⟨?_⟩,HB⟩
      ·rw[hm.2,show m=(m-1)+1 by omega];rfl
      ·exact HV.out
     case measure=>simp[Qmm];omega
  ·have d:(s.size:Int)<32:=by omega
   go_wp2_with fail
   have c0:wr.cell? ⟨g,0,none⟩=some (.int .u64 V.1):=(Qdo HV.out 0).trans rfl;have c1:wr.cell? ⟨g,1,none⟩=some (.int .u64 V.2.1):=(Qdo HV.out 1).trans rfl;have c2:wr.cell? ⟨g,2,none⟩=some (.int .u64 V.2.2.1):=(Qdo HV.out 2).trans rfl;have c3:wr.cell? ⟨g,3,none⟩=some (.int .u64 V.2.2.2):=(Qdo HV.out 3).trans rfl
   go_region_held3 (fun w'=>w'.cell? ⟨g,0,none⟩=some (.int .u64 V.1)∧w'.cell? ⟨g,1,none⟩=some (.int .u64 V.2.1)∧w'.cell? ⟨g,2,none⟩=some (.int .u64 V.2.2.1)∧w'.cell? ⟨g,3,none⟩=some (.int .u64 V.2.2.2)) (go_keep) (first
    |(go_at_call_of 192 (Value.int .i64 1);refine(Qmq V.1 1 1 rfl (by decide) _).mono ?_;rintro e w7 ⟨rfl,hd⟩;obtain⟨q1,rfl⟩:=hd.out;clear hd)
    |(go_at_call_of 192 (Value.int .i64 7);refine(Qmq V.2.1 7 7 rfl (by decide) _).mono ?_;rintro e w7 ⟨rfl,hd⟩;obtain⟨q2,rfl⟩:=hd.out;clear hd)
    |(go_at_call_of 192 (Value.int .i64 12);refine(Qmq V.2.2.1 12 12 rfl (by decide) _).mono ?_;rintro e w7 ⟨rfl,hd⟩;obtain⟨q3,rfl⟩:=hd.out;clear hd)
    |(go_at_call_of 192 (Value.int .i64 18);refine(Qmq V.2.2.2 18 18 rfl (by decide) _).mono ?_;rintro e w7 ⟨rfl,hd⟩;obtain⟨q4,rfl⟩:=hd.out;clear hd))
   obtain⟨W2,hW2⟩:∃W2,W2=wr.drewN (1+q1+q2+q3+q4):=⟨_,rfl⟩;have HV2:=QA (show VAt W2 g V by rw[hW2];exact HV.out);have c:=QA (show Below w.heap.size w W2 by rw[hW2];exact Qcr HB.out _);rw[← hW2];clear hW2 c0 c1 c2 c3 HV HB;have hm0:m=0:=by have:=HM.out.1;omega
   go_wp2_with fail
   go_loopw [10,11,64] (fun j l b wi=>∃(i:Nat) (iv h:Int),i≤4∧b=.int .i64 iv∧j=.int .u64 h∧Aside0 (iv=(i:Int))∧Aside0 (h=rmixTo i (rsum V) V)∧Aside0 (VAt wi g V)∧Aside0 (Below w.heap.size w wi))
    (fun _ _ b _=>4-(intOf b).toNat)
   case atStart=>exact⟨0,0,_,by omega,rfl,rfl,⟨rfl⟩,⟨rfl⟩,HV2,c⟩
   case round =>
    clear HV2 c;obtain⟨i,iv,h,hi,rfl,rfl,HI,HH,HV,HB⟩:=hrel
    by_cases h4:i<4
    ·have hk:i=0∨i=1∨i=2∨i=3:=by omega
     rcases hk with rfl|rfl|rfl|rfl
     ·obtain rfl:iv=0:=HI.out;have cv:wr.cell? ⟨g,0,none⟩=some (.int .u64 V.1):=(Qdo HV.out 0).trans rfl
      go_wp2_with (go_at_call 191;refine(Qmp _ _ _).mono ?_;rintro e w8 ⟨rfl,hd⟩;obtain⟨q9,rfl⟩:=hd.out;clear hd)
      go_roundw
      case rel=>exact⟨1,1,Qmk h V.1,by omega,by go_num,rfl,⟨rfl⟩,⟨by rw[HH.out];rfl⟩,⟨HV.out⟩,⟨Qcr HB.out _⟩⟩
      case measure=>simp[intOf]
     ·obtain rfl:iv=1:=HI.out;have cv:wr.cell? ⟨g,1,none⟩=some (.int .u64 V.2.1):=(Qdo HV.out 1).trans rfl
      go_wp2_with (go_at_call 191;refine(Qmp _ _ _).mono ?_;rintro e w8 ⟨rfl,hd⟩;obtain⟨q9,rfl⟩:=hd.out;clear hd)
      go_roundw
      case rel=>exact⟨2,2,Qmk h V.2.1,by omega,by go_num,rfl,⟨rfl⟩,⟨by rw[HH.out];rfl⟩,⟨HV.out⟩,⟨Qcr HB.out _⟩⟩
      case measure=>simp[intOf]
     ·obtain rfl:iv=2:=HI.out;have cv:wr.cell? ⟨g,2,none⟩=some (.int .u64 V.2.2.1):=(Qdo HV.out 2).trans rfl
      go_wp2_with (go_at_call 191;refine(Qmp _ _ _).mono ?_;rintro e w8 ⟨rfl,hd⟩;obtain⟨q9,rfl⟩:=hd.out;clear hd)
      go_roundw
      case rel=>exact⟨3,3,Qmk h V.2.2.1,by omega,by go_num,rfl,⟨rfl⟩,⟨by rw[HH.out];rfl⟩,⟨HV.out⟩,⟨Qcr HB.out _⟩⟩
      case measure=>simp[intOf]
     ·obtain rfl:iv=3:=HI.out;have cv:wr.cell? ⟨g,3,none⟩=some (.int .u64 V.2.2.2):=(Qdo HV.out 3).trans rfl
      go_wp2_with (go_at_call 191;refine(Qmp _ _ _).mono ?_;rintro e w8 ⟨rfl,hd⟩;obtain⟨q9,rfl⟩:=hd.out;clear hd)
      go_roundw
      case rel=>exact⟨4,4,Qmk h V.2.2.2,by omega,by go_num,rfl,⟨rfl⟩,⟨by rw[HH.out];rfl⟩,⟨HV.out⟩,⟨Qcr HB.out _⟩⟩
      case measure=>simp[intOf]
    ·obtain rfl:i=4:=by omega
     obtain rfl:iv=4:=HI.out
     go_wp2_with fail
     refine bodyPost_ret (results_tmp2 rfl _ _ _) rfl ?_;refine⟨?_,HB.out⟩;have e5:=HM.out.2;rw[hm0]at e5;have e6:rrun (s0.size/32) (Qml sd) s0=(V,s):=by rw[← HVV.out];exact e5
     rw[e6,HH.out];rfl
theorem Qbe.calls(a0:Int)(a1:ByteArray)(r1:Int)(r2:ByteArray)(w:World)(h:Qbe.f a0 a1=some (r1,r2)) :
  Calls Tryz.prog 190 #[.int .u64 a0,.string a1] w fun e w'=>e=.returned (.tuple #[.int .u64 r1,.string r2])∧Below w.heap.size w w':=by
 unfold Qbe.f at h;split at h
 ·rename_i hs;simp only[Option.some.injEq,Prod.mk.injEq]at h;obtain⟨rfl,rfl⟩:=h;exact Qms a0 a1 w hs
 ·cases h
def IsCur(W:World)(b g:Nat)(bs:List Int)(i:Int):Prop:=∃v,W.heap[g]? = some (.cells #[v,.int .i64 i,.bool true] 300 (0,0))∧R8 W b v bs
def Qnv(g:Nat)(e:Int):PanicEntry:={ v:=.iface 302 (.agg #[.pointer (some ⟨g,0,none⟩),.int .i64 e]),recovered:=false }
theorem IsCur.kept{W W':World}{b g:Nat}{bs:List Int}{i:Int}(h:IsCur W b g bs i)(hb:Below W.heap.size W W'):IsCur W' b g bs i:=by
 obtain⟨v,h1,h2⟩:=h;exact⟨v,Qed h1 hb,h2.kept hb⟩
theorem IsCur.lt{W:World}{b g:Nat}{bs:List Int}{i:Int}(h:IsCur W b g bs i):g<W.heap.size:=by
 obtain⟨v,h1,h2⟩:=h;exact Qdn h1
theorem IsCur.cells{W:World}{b g:Nat}{bs:List Int}{i:Int}(h:IsCur W b g bs i):∃A c,W.cell? ⟨g,0,none⟩=some (.slice A bs.length c)∧W.cell? ⟨g,1,none⟩=some (.int .i64 i)∧W.cell? ⟨g,2,none⟩=some (.bool true)∧W.frozen? ⟨g,1,none⟩=false∧Kd.C (Kd.int .u8) W A bs.length bs∧bs.length≤c:=by
 obtain⟨v,h1,h2⟩:=h;obtain⟨A,c,rfl⟩:=Kd.R_slice h2;exact⟨A,c,(Qdo h1 0).trans rfl,(Qdo h1 1).trans rfl,(Qdo h1 2).trans rfl,Qdp h1 1,(Kd.R_reads' h2).2.2,(Kd.R_reads' h2).2.1⟩
theorem IsCur.move{W:World}{b g:Nat}{bs:List Int}{i:Int}(h:IsCur W b g bs i)(hbg:b≤g)(j:Int):IsCur (W.setCell ⟨g,1,none⟩ (.int .i64 j)) b g bs j∧Bw b g W (W.setCell ⟨g,1,none⟩ (.int .i64 j)):=by
 obtain⟨v,h1,h2⟩:=h;exact⟨⟨v,Qdl h1 1 _,h2.set h1 (by decide) 1 _⟩,Qjk (Below.refl _ _) hbg,fun k cs t h3 h4 h5=>Qdm h3 h5 _⟩
theorem Qnw(b g:Nat)(bs:List Int)(i:Int)(w:World)(hI:IsCur w b g bs i) :
  Calls Tryz.prog 220 #[.pointer (some ⟨g,0,none⟩)] w fun e w'=>e=.returned (.bool false)∧w'=w:=by
 obtain⟨A,c,h0,h1,h2,h3,h4,h5⟩:=hI.cells;clear hI;have hu:=Tryz.underlying300
 go_enter Tryz.func220,Tryz.ntmps220
 go_wp2;go_ret
 exact⟨rfl,rfl⟩
theorem Qnx(b g:Nat)(bs:List Int)(i er:Int)(he:er≠0)(w:World)(hI:IsCur w b g bs i) :
  Calls Tryz.prog 174 #[.pointer (some ⟨g,0,none⟩),.int .i64 er] w fun e w'=>e=.panicked [Qnv g er]∧w'=w:=by
 have HI:=QA hI;clear hI;have hu:=Tryz.underlying300;have hne:(er != 0)=true:=bne_iff_ne.2 he
 go_enter Tryz.func174,Tryz.ntmps174
 go_wp2_with (go_at_call 220;refine(Qnw b g bs i _ HI.out).mono ?_;rintro ee wa ⟨rfl,rfl⟩)
 exact⟨rfl,rfl,rfl⟩
theorem Qny(b g:Nat)(bs:List Int)(i n:Int)(hn:0<n)(hi:0≤i∧i≤bs.length)(hl:bs.length≤140737488355328)(hs:(bs.length:Int)-i<n)(w:World)(hI:IsCur w b g bs i) :
  Calls Tryz.prog 221 #[.pointer (some ⟨g,0,none⟩),.int .i64 n] w fun e w'=>e=.panicked [Qnv g 2]∧Below w.heap.size w w':=by
 have HI:=QA hI;obtain⟨A,c,h0,h1,h2,h3,h4,h5⟩:=hI.cells;clear hI h4;have hu:=Tryz.underlying300;have hb0:decide (n≤0)=false:=decide_eq_false (by omega);have hw1:IntKind.i64.wrap ((bs.length:Int)-i)=(bs.length:Int)-i:=IntWalk.i64_in _ (by omega);have hb1:decide ((bs.length:Int)-i<n)=true:=decide_eq_true hs
 go_enter Tryz.func221,Tryz.ntmps221
 go_upto_region 3 with(go_at_call 220;refine(Qnw b g bs i _ HI.out).mono ?_;rintro ee wa ⟨rfl,rfl⟩)
 have q0:=Qct (Qcq (Below.refl _ _)) h0;have q1:=Qct (Qcq (Below.refl _ _)) h1
 go_region
 go_wp2_with (go_at_call 174;refine(Qnx b g bs i 2 (by decide) _ (HI.out.kept (Qcq (Below.refl _ _)))).mono ?_;rintro ee wa ⟨rfl,rfl⟩)
 exact⟨rfl,rfl,Qcq (Below.refl _ _)⟩
theorem Qnz(b g:Nat)(bs:List Int)(i n:Int)(hn:n≤0)(w:World)(hI:IsCur w b g bs i) :
  Calls Tryz.prog 221 #[.pointer (some ⟨g,0,none⟩),.int .i64 n] w fun e w'=>e=.returned (.slice none 0 0)∧w'=w:=by
 have HI:=QA hI;clear hI;have hb0:decide (n≤0)=true:=decide_eq_true hn
 go_enter Tryz.func221,Tryz.ntmps221
 go_wp2_with (go_at_call 220;refine(Qnw b g bs i _ HI.out).mono ?_;rintro ee wa ⟨rfl,rfl⟩)
 go_ret
 exact⟨rfl,rfl⟩
def K8(w w':World):Prop:=∀(b:Nat) (v:Value) (ys:List Int),R8 w b v ys→R8 w' b v ys
theorem K8.move{W:World}{b g:Nat}{bs:List Int}{i:Int}(h:IsCur W b g bs i)(j:Int){w':World}(hb:Below W.heap.size (W.setCell ⟨g,1,none⟩ (.int .i64 j)) w'):K8 W w':=by
 intro b' v' ys hR;obtain⟨v,h1,_⟩:=h;exact R8.kept (R8.set hR h1 (by decide) 1 _) (by simpa [World.setCell]using hb)
theorem Qoa(b g:Nat)(bs xs:List Int)(i n:Int)(hxs:xs=(bs.drop i.toNat).take n.toNat)(hn:0<n)(hi:0≤i)(hl:bs.length≤140737488355328)(hs:i+n≤(bs.length:Int))(hbg:b≤g)(w:World)(hbw:b≤w.heap.size)(hI:IsCur w b g bs i) :
  Calls Tryz.prog 221 #[.pointer (some ⟨g,0,none⟩),.int .i64 n] w fun e w'=>∃v,e=.returned v∧R8 w' w.heap.size v xs∧IsCur w' b g bs (i+n)∧Bw b g w w'∧K8 w w':=by
 have HI:=QA hI;obtain⟨A,c,h0,h1,h2,h3,h4,h5⟩:=hI.cells;clear hI h4;have hu:=Tryz.underlying300;have hb0:decide (n≤0)=false:=decide_eq_false (by omega);have hw1:IntKind.i64.wrap ((bs.length:Int)-i)=(bs.length:Int)-i:=IntWalk.i64_in _ (by omega);have hw2:IntKind.i64.wrap (i+n)=i+n:=IntWalk.i64_in _ (by omega);have hw3:IntKind.i64.wrap (i+n-n)=i:=by rw[show i+n-n=i by omega];exact IntWalk.i64_in _ (by omega)
 have hw4:IntKind.i64.wrap i=i:=IntWalk.i64_in _ (by omega);have hb1:decide ((bs.length:Int)-i<n)=false:=decide_eq_false (by omega)
 go_enter Tryz.func221,Tryz.ntmps221
 go_upto_region 3 with(go_at_call 220;refine(Qnw b g bs i _ HI.out).mono ?_;rintro ee wa ⟨rfl,rfl⟩)
 have q0:=Qct (Qcq (Below.refl _ _)) h0;have q1:=Qct (Qcq (Below.refl _ _)) h1;have q3:wa.drew.frozen? ⟨g,1,none⟩=false:=h3;clear h0 h1 h2 h3;have HI1:=QA (HI.out.kept (Qcq (Below.refl _ _)))
 go_region
 go_upto_region 6 with fail
 clear HI1 q0 q1 q3;obtain⟨m1,m2⟩:=HI.out.move hbg (i+n);have M1:=QA (m1.kept (Qcq (Below.refl _ _)));have M2:=QA (m2.trans (Bw.below (Qcq (Below.refl _ _)) (Nat.le_trans hbw m2.size)));clear m1 m2;obtain⟨W2,hW2⟩:∃W2,W2=(wa.setCell ⟨g,1,none⟩ (.int .i64 (i+n))).drew:=⟨_,rfl⟩;have hk8:Below wa.heap.size (wa.setCell ⟨g,1,none⟩ (.int .i64 (i+n))) W2:=by rw[hW2];exact Qcq (Below.refl _ _)
 have HK8:=QA (fun w' (hb:Below W2.heap.size W2 w')=>K8.move HI.out (i+n) (hk8.trans (Qjl hb (by have:=hk8.size;simpa [World.setCell]using this))));clear hk8;rw[← hW2]at M1 M2 ⊢;obtain⟨A2,c2,r0,r1,r2,r3,r4,r5⟩:=M1.out.cells;clear hW2 r2 r3;have hmid:(bs.take (i+n).toNat).drop i.toNat=xs:=by rw[hxs,List.drop_take,show(i+n).toNat-i.toNat=n.toNat by omega]
 have hxl:xs.length=n.toNat:=by rw[hxs,List.length_take,List.length_drop];omega
 obtain⟨i0,hii,_,hsz,_⟩:=info_parts Qim;have hcut:=Qfa (P:=Tryz.prog) 40 5 .i64 .i64 Tryz.underlying40 hii 1 hsz A2 bs.length c2 i (i+n) hi (by omega) (by omega) r5;have hC:=Kd.C_mid (lo:=i.toNat) (hi:=(i+n).toNat) r4 (by omega) (by omega) r5;rw[hmid]at hC;obtain⟨A3,hA3⟩:∃A3,A3=(if c2=i.toNat then A2 else A2.map (·.add (i.toNat*1))):=⟨_,rfl⟩;obtain⟨c3,hc3⟩:∃c3,c3=c2-i.toNat:=⟨_,rfl⟩;rw[← hA3,← hc3,show(i+n).toNat-i.toNat=xs.length by omega]at hcut;have hC3:Kd.C (Kd.int .u8) W2 A3 xs.length xs:=by rw[hA3];exact hC
 have d:=QA hC3;have hxl2:xs.length≤140737488355328:=by omega
 obtain⟨j,hj⟩:∃j,j=i+n:=⟨_,rfl⟩;have hw5:IntKind.i64.wrap (j-n)=i:=by rw[hj];exact hw3
 rw[← hj]at hcut r1 M1 ⊢;have HJ:=QA hj;clear hj hC hC3 hA3 hmid r4 hc3 r5 hxs hxl;refine Qfz (n:=17) (S:=fun w'=>w'.cell? ⟨g,0,none⟩=some (.slice A2 bs.length c2)∧w'.cell? ⟨g,1,none⟩=some (.int .i64 j)) (ds:=[]) (bm 17 0) qq_2 rfl rfl ⟨(Qct (Qcq (Below.refl _ _)) r0),(Qct (Qcq (Below.refl _ _)) r1)⟩ (fun a=>?_);refine pz_ (i:=0) (N:=some 33) (bm 17 1) qq_2 ?_;refine pz_ (i:=1) (N:=some 34) (bm 17 3) qq_2 ?_;refine pz_ (i:=2) (N:=some 35) (bm 17 7) qq_2 ?_;refine pz_ (i:=4) (N:=some 37) (bm 17 23) qq_2 ?_;refine pz_ (i:=5) (N:=some 38) (bm 17 55) qq_2 ?_;refine pz_ (i:=6) (N:=some 39) (bm 17 119) qq_2 ?_;refine pz_ (i:=8) (N:=some 41) (bm 17 375) qq_2 ?_;refine pz_ (i:=10) (N:=some 43) (bm 17 1399) qq_2 ?_;refine pz_ (i:=11) (N:=some 44) (bm 17 3447) qq_2 ?_;refine pz_ (i:=12) (N:=some 45) (bm 17 7543) qq_2 ?_;refine tz_ (i:=3) (N:=some 36) (bm 17 7551) qq_2 a ?_;refine tz_ (i:=7) (N:=some 40) (bm 17 7679) qq_2 a ?_;refine pz_ (i:=9) (N:=some 42) (bm 17 8191) qq_2 ?_;refine tz_ (i:=13) (N:=some 46) (bm 17 16383) qq_2 a ?_;refine pz_ (i:=14) (N:=some 47) (bm 17 32767) qq_2 ?_;refine one_ (i:=15) (N:=some 48) (bm 17 65535) rfl rfl qq_2 (by decide) (fun K hK=>?_);refine Qgh Tryz.func72 qq_2 rfl #[.slice A3 xs.length c3] (by rfl) rfl rfl (by simp only[List.map_toArray,List.map_cons,List.map_nil];rfl) ?_;with_reducible refine(Qjm A3 c3 xs _ (Kd.C_below d.out (Qcq (Below.refl _ _))) hxl2).mono ?_
 rintro ee w3 ⟨v,rfl,hR,hb⟩;refine⟨_,rfl,?_⟩;refine hK.out _ _ ⟨(Qct hb a.1),(Qct hb a.2)⟩ (fun a=>?_);clear hK K;refine nzp_ 48 ?_;refine pz_ (i:=16) (N:=some 4) (bm 17 131071) qq_2 ?_;refine Qgd qq_2 ?_;go_wp2;go_ret
 have hb2:Below W2.heap.size W2 w3:=(Qcq (Below.refl _ _)).trans hb;exact⟨v,rfl,R8.low hR (show wa.heap.size≤W2.drew.heap.size from M2.out.size),HJ.out ▸ M1.out.kept hb2,M2.out.trans (Bw.below hb2 (Nat.le_trans hbw M2.out.size)),HK8.out _ hb2⟩
theorem Qob(b g:Nat)(bs xs:List Int)(i n:Int)(hxs:xs=(bs.drop i.toNat).take n.toNat)(hn:0<n)(hi:0≤i)(hl:bs.length≤140737488355328)(hs:i+n≤(bs.length:Int))(hbg:b≤g)(w:World)(hbw:b≤w.heap.size)(hI:IsCur w b g bs i) :
  Calls Tryz.prog 221 #[.pointer (some ⟨g,0,none⟩),.int .i64 n] w fun e w'=>∃v,e=.returned v∧R8 w' w.heap.size v xs∧IsCur w' b g bs (i+n)∧Bw b g w w' :=
 (Qoa b g bs xs i n hxs hn hi hl hs hbg w hbw hI).mono (by rintro e w' ⟨v,h1,h2,h3,h4,_⟩;exact⟨v,h1,h2,h3,h4⟩)
theorem Qoc(k b g:Nat)(bs xs:List Int)(i n x:Int)(hxs:xs=(bs.drop i.toNat).take n.toNat)(hn:0<n)(hi:0≤i)(hl:bs.length≤140737488355328)(hs:i+n≤(bs.length:Int))(hbg:b≤g)(m:xs.length≤8)
  (h:Qcn.l0 k xs 0 (xs.length:Int) 0=some x) (w:World) (hbw:b≤w.heap.size) (hI:IsCur w b g bs i) :
  Calls Tryz.prog 219 #[.pointer (some ⟨g,0,none⟩),.int .i64 n] w fun e w'=>e=.returned (.int .u64 x)∧IsCur w' b g bs (i+n)∧Bw b g w w'∧K8 w w':=by
 have HI:=QA hI;have H0:=QA h;have HX:=QA hxs;clear hI h hxs
 go_enter Tryz.func219,Tryz.ntmps219
 go_wp2_with (go_at_call 221;refine(Qoa b g bs xs i n HX.out hn hi hl hs hbg _ hbw HI.out).mono ?_;rintro ee w1 ⟨v,rfl,hR,hI1,hB1,hK1⟩;(have HK1:=QA hK1;clear hK1;obtain⟨A,c,hv⟩:=Kd.R_slice hR;subst hv;have HI1:=QA hI1;have d:=QA hB1;have j:=QA (Kd.R_reads' hR).2.2;clear hI1 hB1 hR))
 go_loopw [5,12] (fun v5 a wr=>∃(x5 x8:Int) (gk:Nat),v5=.int .u64 x5∧a=.int .i64 x8∧Aside0 (Qcn.l0 gk xs x5 (xs.length:Int) x8=some x)∧Aside0 (0≤x8∧x8≤(xs.length:Int))∧wr=w1)
  (fun _ a _=>xs.length-(intOf a).toNat)
 case atStart=>exact⟨0,0,k,rfl,rfl,H0,⟨by omega⟩,rfl⟩
 case round =>
  obtain⟨x5,x8,gk,rfl,rfl,HA,HK,rfl⟩:=hrel
  cases gk with
  | zero=>exact absurd HA.out (by simp[Qcn.l0])
  | succ k1 =>
   have H:=HA.out;clear HA;simp only[Qcn.l0]at H;have p0:0≤x8:=HK.out.1
   by_cases c3:x8<(xs.length:Int)
   ·have hw8:IntKind.i64.wrap (8*x8)=8*x8:=IntWalk.i64_in _ (by omega);have hw9:wrap64 (8*x8)=8*x8:=by unfold wrap64;omega
    have hw1:IntKind.i64.wrap (x8+1)=x8+1:=IntWalk.i64_in _ (by omega);have hw2:wrap64 (x8+1)=x8+1:=by unfold wrap64;omega
    rw[if_pos c3,if_pos p0,if_pos c3,hw9,if_pos (by omega),hw2]at H;have l:decide (x8<(xs.length:Int))=true:=decide_eq_true c3;obtain⟨j6,hj6⟩:∃j6:Int,8*x8=j6:=⟨_,rfl⟩;rw[hj6]at hw8 H;have hj60:0≤j6:=by omega
    obtain⟨j8,hj8⟩:∃j8:Int,(shl .u64 (IntKind.u64.wrap (YteaocbonofboeaaGreatW.PrintWords.rd xs x8)) j6)=j8:=⟨_,rfl⟩;rw[hj8]at H;have hj8_:(IntKind.u64.wrap ((IntKind.u64.wrap (YteaocbonofboeaaGreatW.PrintWords.rd xs x8))*2^min j6.toNat 64))=j8:=hj8;have hj8z:j6≤64→(IntKind.u64.wrap ((IntKind.u64.wrap (YteaocbonofboeaaGreatW.PrintWords.rd xs x8))*2^j6.toNat))=j8:=Qih hj8;have H':=QA H;have HJ:=QA hj6;have HLT:=QA c3;obtain⟨ad,e1,o⟩:=Kd.at_int j.out x8 p0 c3;subst e1;have hw8':IntKind.i64.wrap (8*x8)=j6:=by rw[hj6];exact hw8
    clear H hj6 hj8 hw9 hw2 hw8;go_wp2
    go_roundw
    case rel=>exact⟨_,x8+1,k1,rfl,rfl,H',⟨by have:=HLT.out;have:=HK.out;omega⟩,trivial⟩
    case measure=>have h1:=HLT.out;have h2:=HK.out;simp[intOf];omega
   ·have l:decide (x8<(xs.length:Int))=false:=decide_eq_false c3;rw[if_neg c3]at H;obtain rfl:=Option.some.inj H;go_wp2;go_ret
    exact⟨rfl,HI1.out,d.out,HK1.out⟩
theorem Qod(k b g:Nat)(bs xs:List Int)(i n x:Int)(hxs:xs=(bs.drop i.toNat).take n.toNat)(hn:0<n)(hi:0≤i)(hl:bs.length≤140737488355328)(hs:i+n≤(bs.length:Int))(hbg:b≤g)(hx8:xs.length≤8)
  (h:Qcn.l0 k xs 0 (xs.length:Int) 0=some x) (w:World) (hbw:b≤w.heap.size) (hI:IsCur w b g bs i) :
  Calls Tryz.prog 219 #[.pointer (some ⟨g,0,none⟩),.int .i64 n] w fun e w'=>e=.returned (.int .u64 x)∧IsCur w' b g bs (i+n)∧Bw b g w w':=(Qoc k b g bs xs i n x hxs hn hi hl hs hbg hx8 h w hbw hI).mono (by rintro e w' ⟨h1,h2,h3,_⟩;exact⟨h1,h2,h3⟩)
def Qoe(b g:Nat)(bs:List Int)(i er:Int)(w:World)(e:Ending)(w':World):Prop:=e=.panicked [Qnv g er]∧IsCur w' b g bs i∧Bw b g w w'
theorem Qof(b g:Nat)(bs:List Int)(i n:Int)(hn:0<n)(hi:0≤i∧i≤bs.length)(hl:bs.length≤140737488355328)(hs:(bs.length:Int)-i<n)(w:World)(hbw:b≤w.heap.size)(hI:IsCur w b g bs i) :
  Calls Tryz.prog 219 #[.pointer (some ⟨g,0,none⟩),.int .i64 n] w (Qoe b g bs i 2 w):=by
 have HI:=QA hI;clear hI
 go_enter Tryz.func219,Tryz.ntmps219
 go_wp2_with (go_at_call 221;refine(Qny b g bs i n hn hi hl hs _ HI.out).mono ?_;rintro ee w1 ⟨rfl,hb1⟩)
 exact⟨rfl,rfl,HI.out.kept hb1,Bw.below hb1 hbw⟩
theorem Qog(k b g:Nat)(bs xs:List Int)(i x:Int)(hxs:xs=(bs.drop i.toNat).take 1)(hi:0≤i)(hl:bs.length≤140737488355328)(hs:i+1≤(bs.length:Int))(hbg:b≤g)
  (h:Qcn.l0 k xs 0 (xs.length:Int) 0=some x) (w:World) (hbw:b≤w.heap.size) (hI:IsCur w b g bs i) :
  Calls Tryz.prog 173 #[.pointer (some ⟨g,0,none⟩)] w fun e w'=>e=.returned (.int .u8 (IntKind.u8.wrap x))∧IsCur w' b g bs (i+1)∧Bw b g w w':=by
 have HI:=QA hI;have H0:=QA h;have HX:=QA hxs;have HL:Aside0 (xs.length≤8):=⟨by rw[hxs,List.length_take];omega⟩;clear hI h hxs
 go_enter Tryz.func173,Tryz.ntmps173
 go_wp2_with (go_at_call 219;refine(Qod k b g bs xs i 1 x HX.out (by decide) hi hl hs hbg HL.out H0.out _ hbw HI.out).mono ?_;rintro ee w1 ⟨rfl,hI1,hB1⟩)
 go_ret
 exact⟨rfl,hI1,hB1⟩
theorem Qoh(b g:Nat)(bs:List Int)(i:Int)(hi:0≤i∧i≤bs.length)(hl:bs.length≤140737488355328)(hs:(bs.length:Int)-i<1)(w:World)(hbw:b≤w.heap.size)(hI:IsCur w b g bs i) :
  Calls Tryz.prog 173 #[.pointer (some ⟨g,0,none⟩)] w (Qoe b g bs i 2 w):=by
 have HI:=QA hI;clear hI
 go_enter Tryz.func173,Tryz.ntmps173
 go_wp2_with (go_at_call 219;refine(Qof b g bs i 1 (by decide) hi hl hs _ hbw HI.out).mono ?_;rintro ee w1 ⟨rfl,hF⟩)
 exact⟨rfl,rfl,hF⟩
theorem Qoi(k b g:Nat)(bs xs:List Int)(i x:Int)(hxs:xs=(bs.drop i.toNat).take 8)(hi:0≤i)(hl:bs.length≤140737488355328)(hs:i+8≤(bs.length:Int))(hbg:b≤g)
  (h:Qcn.l0 k xs 0 (xs.length:Int) 0=some x) (w:World) (hbw:b≤w.heap.size) (hI:IsCur w b g bs i) :
  Calls Tryz.prog 171 #[.pointer (some ⟨g,0,none⟩)] w fun e w'=>e=.returned (.int .u64 x)∧IsCur w' b g bs (i+8)∧Bw b g w w':=by
 have HI:=QA hI;have H0:=QA h;have HX:=QA hxs;have HL:Aside0 (xs.length≤8):=⟨by rw[hxs,List.length_take];omega⟩;clear hI h hxs
 go_enter Tryz.func171,Tryz.ntmps171
 go_wp2_with (go_at_call 219;refine(Qod k b g bs xs i 8 x HX.out (by decide) hi hl hs hbg HL.out H0.out _ hbw HI.out).mono ?_;rintro ee w1 ⟨rfl,hI1,hB1⟩)
 go_ret
 exact⟨rfl,hI1,hB1⟩
theorem Qoj(b g:Nat)(bs:List Int)(i:Int)(hi:0≤i∧i≤bs.length)(hl:bs.length≤140737488355328)(w:World)(hI:IsCur w b g bs i) :
  Calls Tryz.prog 222 #[.pointer (some ⟨g,0,none⟩)] w fun e w'=>e=.returned (.int .i64 ((bs.length:Int)-i))∧Below w.heap.size w w':=by
 have HI:=QA hI;obtain⟨A,c,h0,h1,h2,h3,h4,h5⟩:=hI.cells;clear hI h4;have hu:=Tryz.underlying300;have hw1:IntKind.i64.wrap ((bs.length:Int)-i)=(bs.length:Int)-i:=IntWalk.i64_in _ (by omega)
 go_enter Tryz.func222,Tryz.ntmps222
 go_upto_region 3 with(go_at_call 220;refine(Qnw b g bs i _ HI.out).mono ?_;rintro ee wa ⟨rfl,rfl⟩)
 have q0:=Qct (Qcq (Below.refl _ _)) h0;have q1:=Qct (Qcq (Below.refl _ _)) h1
 go_region
 go_wp2;go_ret
 exact⟨rfl,Qcq (Below.refl _ _)⟩
theorem Qok(b g:Nat)(bs:List Int)(i:Int)(hi:0≤i∧i≤bs.length)(hl:bs.length≤140737488355328)(hs:(bs.length:Int)-i≤0)(w:World)(hbw:b≤w.heap.size)(hI:IsCur w b g bs i) :
  Calls Tryz.prog 177 #[.pointer (some ⟨g,0,none⟩)] w fun e w'=>e=.returned (.tuple #[])∧IsCur w' b g bs i∧Bw b g w w':=by
 have HI:=QA hI;clear hI;have hb0:decide (0<(bs.length:Int)-i)=false:=decide_eq_false (by omega)
 go_enter Tryz.func177,Tryz.ntmps177
 go_wp2_with (go_at_call 222;refine(Qoj b g bs i hi hl _ HI.out).mono ?_;rintro ee w1 ⟨rfl,hb1⟩)
 go_end0
 exact⟨rfl,HI.out.kept hb1,Bw.below hb1 hbw⟩
theorem Qol(b g:Nat)(bs:List Int)(i:Int)(hi:0≤i∧i≤bs.length)(hl:bs.length≤140737488355328)(hs:0<(bs.length:Int)-i)(w:World)(hbw:b≤w.heap.size)(hI:IsCur w b g bs i) :
  Calls Tryz.prog 177 #[.pointer (some ⟨g,0,none⟩)] w (Qoe b g bs i 3 w):=by
 have HI:=QA hI;clear hI;have hb0:decide (0<(bs.length:Int)-i)=true:=decide_eq_true hs
 go_enter Tryz.func177,Tryz.ntmps177
 go_wp2_with (first
  |(go_at_call 222;refine(Qoj b g bs i hi hl _ HI.out).mono ?_;rintro ee w1 ⟨rfl,hb1⟩)
  |(go_at_call 174;refine(Qnx b g bs i 3 (by decide) _ (HI.out.kept hb1)).mono ?_;rintro ee w2 ⟨rfl,rfl⟩))
 exact⟨rfl,rfl,HI.out.kept hb1,Bw.below hb1 hbw⟩
end Go.Proofs.YteaocbonofboeaaGreat.C
end
