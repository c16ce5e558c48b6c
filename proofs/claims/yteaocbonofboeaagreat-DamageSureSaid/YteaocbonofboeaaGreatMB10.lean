/- Merged texts. -/
import Derived.Test.YteaocbonofboeaaGreatMB02
import Derived.Test.YteaocbonofboeaaGreatMB05
import Derived.Test.YteaocbonofboeaaGreatMB06
import Derived.Test.YteaocbonofboeaaGreatMB07
import Derived.WalkLawsBesides
import Derived.Recover
import Derived.Test.YteaocbonofboeaaGreatMB03
import Derived.Test.YteaocbonofboeaaGreatMB09
import Derived.LaidEqlPtr
set_option linter.unusedVariables false
set_option linter.unusedSimpArgs false
set_option maxHeartbeats 8000000
set_option maxRecDepth 100000
section
namespace Go.Proofs.YteaocbonofboeaaGreat.C
open Go.RowKit Go.Proofs.YteaocbonofboeaaGreatW.PrintWords Go.Proofs.YteaocbonofboeaaGreatW.PrintLast Go.Proofs.YteaocbonofboeaaGreatW.PrintMore
theorem Qqh(n:Nat)(hn:n≤64):∀(d i:Nat) (x:Int),i+d=n→∃r,Qbn.l0 (d+1) x (n:Int) (i:Int)=some r
 | 0,i,x,h=>by
  refine⟨x,?_⟩;unfold Qbn.l0;rw[if_neg (by omega)]
 | d+1,i,x,h=>by
  obtain⟨r,hr⟩:=Qqh n hn d (i+1) (IntKind.u64.wrap ((IntKind.u64.wrap (2*x))+(IntKind.u64.wrap (Int.tdiv x 9223372036854775808)))) (by omega);refine⟨r,?_⟩;unfold Qbn.l0;rw[if_pos (by omega),show wrap64 ((i:Int)+1)=((i+1:Nat):Int)by unfold wrap64;omega];exact hr
def Qqi(x:Int)(n:Nat):Int:=(Qbn.f (n+1) x n).getD 0
theorem Qqj(x:Int)(n:Nat)(hn:n≤64):Qbn.f (n+1) x n=some (Qqi x n):=by
 obtain⟨r,hr⟩:=Qqh n hn n 0 x (by omega);have h:Qbn.f (n+1) x n=some r:=hr;unfold Qqi;rw[h];rfl
def Qqk(x y:Int):Int:=(Qbl.f 32 x y).getD 0
theorem Qql(x y:Int):Qbl.f 32 x y=some (Qqk x y):=by
 unfold Qqk Qbl.f;rw[show(32:Nat)=31+1 from rfl,show(31:Int)=((31:Nat):Int) from rfl,Qqj _ 31 (by omega)];rfl
theorem Qqm(s:ByteArray)(hs:s.size≤1000):∀(d:Nat) (x:Int),d≤s.size→∃r,Qbg.l0 (d+1) s x ((d:Int)-1)=some r
 | 0,x,h=>by
  refine⟨x,?_⟩;unfold Qbg.l0;rw[if_neg (by omega)]
 | d+1,x,h=>by
  obtain⟨r,hr⟩:=Qqm s hs d (IntKind.u64.wrap ((IntKind.u64.wrap (x*256))+(IntKind.u64.wrap (bt s (d:Int))))) (by omega);refine⟨r,?_⟩;unfold Qbg.l0;rw[show((d+1:Nat):Int)-1=(d:Int)by omega,if_pos (by omega),if_pos (by omega),if_pos (by omega),show wrap64 ((d:Int)-1)=(d:Int)-1 by unfold wrap64;omega];exact hr
def rval(s:ByteArray):Int:=(Qbg.f (s.size+1) s).getD 0
theorem Qqn(s:ByteArray)(hs:s.size≤1000):Qbg.f (s.size+1) s=some (rval s):=by
 obtain⟨r,hr⟩:=Qqm s hs s.size 0 (Nat.le_refl _);have h:Qbg.f (s.size+1) s=some r:=by
  unfold Qbg.f;rw[show wrap64 ((s.size:Int)-1)=(s.size:Int)-1 by unfold wrap64;omega];exact hr
 unfold rval;rw[h];rfl
def Qqo(v:V4)(s:ByteArray):V4:=(Qqk v.1 (rval (s.extract 0 8)),Qqk v.2.1 (rval (s.extract 8 16)),Qqk v.2.2.1 (rval (s.extract 16 24)),Qqk v.2.2.2 (rval (s.extract 24 32)))
def rrun:Nat→V4→ByteArray→V4 × ByteArray
 | 0,v,s=>(v,s)
 | m+1,v,s=>rrun m (Qqo v s) (s.extract 32 s.size)
def rsum(V:V4):Int:=IntKind.u64.wrap (IntKind.u64.wrap (IntKind.u64.wrap (Qqi V.1 1+Qqi V.2.1 7)+Qqi V.2.2.1 12)+Qqi V.2.2.2 18)
def Qqp(h x:Int):Int:=IntKind.u64.wrap (IntKind.u64.wrap (Go.bits .xor .u64 h (Qqk 0 x)*Q1)+Q4)
def rmix(h:Int)(V:V4):Int:=Qqp (Qqp (Qqp (Qqp h V.1) V.2.1) V.2.2.1) V.2.2.2
def Qqq(sd:Int):V4:=(IntKind.u64.wrap (IntKind.u64.wrap (sd+Q1)+Q2),IntKind.u64.wrap (sd+Q2),sd,IntKind.u64.wrap (sd-Q1))
def Qbk.f(a0:Int)(a1:ByteArray):Option (Int × ByteArray) :=
 if a1.size≤9223372036854775807 then some (rmix (rsum (rrun (a1.size/32) (Qqq a0) a1).1) (rrun (a1.size/32) (Qqq a0) a1).1,(rrun (a1.size/32) (Qqq a0) a1).2)else none
def rmixTo(i:Nat)(h:Int)(V:V4):Int:=match i with
 | 0=>h
 | 1=>Qqp h V.1
 | 2=>Qqp (Qqp h V.1) V.2.1
 | 3=>Qqp (Qqp (Qqp h V.1) V.2.1) V.2.2.1
 | _=>rmix h V
def VAt(W:World)(g:Nat)(V:V4):Prop:=W.heap[g]? = some (.cells #[.int .u64 V.1,.int .u64 V.2.1,.int .u64 V.2.2.1,.int .u64 V.2.2.2] 278 (0,0))
def Qqr:Value→Nat
 | .string s=>s.size
 | _=>0
def Qqs(i:Nat)(v:V4)(s:ByteArray):V4:=(if 0<i then Qqk v.1 (rval (s.extract 0 8))else v.1,if 1<i then Qqk v.2.1 (rval (s.extract 8 16))else v.2.1,if 2<i then Qqk v.2.2.1 (rval (s.extract 16 24))else v.2.2.1,if 3<i then Qqk v.2.2.2 (rval (s.extract 24 32))else v.2.2.2)
theorem Qqt(s:ByteArray)(hs:s.size≤1000)(W:World):Calls Tryz.prog 186 #[.string s] W fun e w'=>e=.returned (.int .u64 (rval s))∧Drawn0 W w':=Qbg.calls _ s _ W (Qqn s hs)
theorem Qqu(x y:Int)(W:World):Calls Tryz.prog 191 #[.int .u64 x,.int .u64 y] W fun e w'=>e=.returned (.int .u64 (Qqk x y))∧Drawn0 W w':=Qbl.calls _ x y _ W (Qql x y)
theorem Qqv(x:Int)(n:Nat)(j:Int)(hj:j=(n:Int))(hn:n≤64)(W:World):Calls Tryz.prog 192 #[.int .u64 x,.int .i64 j] W fun e w'=>e=.returned (.int .u64 (Qqi x n))∧Drawn0 W w':=by
 subst hj;exact Qbn.calls _ x n _ W (Qqj x n hn)
theorem Qqw(s:ByteArray)(a b:Nat):(s.extract a b).size≤b-a:=by
 rw[ByteArray.size_extract];omega
theorem Qqx(sd:Int)(s0:ByteArray)(w:World)(hs:s0.size≤9223372036854775807) :
  Calls Tryz.prog 190 #[.int .u64 sd,.string s0] w fun e w'=>e=.returned (.tuple #[.int .u64 (rmix (rsum (rrun (s0.size/32) (Qqq sd) s0).1) (rrun (s0.size/32) (Qqq sd) s0).1),.string (rrun (s0.size/32) (Qqq sd) s0).2])∧Below w.heap.size w w':=by
 have hu2:=Tryz.underlying278
 go_enter Tryz.func190,Tryz.ntmps190
 go_wp2_with fail
 obtain⟨g,hg⟩:∃g,g=w.heap.size:=⟨_,rfl⟩;obtain⟨V0,hV0⟩:∃V0,V0=Qqq sd:=⟨_,rfl⟩;obtain⟨W,hW⟩:∃W,W=w.alloc (.cells #[.int .u64 (IntKind.u64.wrap (IntKind.u64.wrap (sd+11400714785074694791)+14029467366897019727)),.int .u64 (IntKind.u64.wrap (sd+14029467366897019727)),.int .u64 sd,.int .u64 (IntKind.u64.wrap (sd-11400714785074694791))] 278):=⟨_,rfl⟩;have HV0:=QA (show VAt W g V0 by rw[hW,hg,hV0];exact Qem w _);have HW0:=QA (show Below w.heap.size w W by rw[hW];exact Qcx (Below.refl _ _) _);rw[← hW,← hg];have HG:=QA hg;have HVV:=QA hV0;clear hW hg hV0
 go_loopw [1,9,29] (fun v1 v9 a wr=>∃(m:Nat) (s:ByteArray) (V:V4),v1=.string s∧s.size≤s0.size∧Aside0 (s.size/32=m∧rrun (s0.size/32) V0 s0=rrun m V s)∧Aside0 (VAt wr g V)∧Aside0 (Below w.heap.size w wr))
  (fun v1 _ _ _=>Qqr v1)
 case atStart=>exact⟨_,s0,V0,rfl,Nat.le_refl _,⟨rfl,rfl⟩,HV0,HW0⟩
 case round =>
  clear HV0 HW0;obtain⟨m,s,V,rfl,hss,HM,HV,HB⟩:=hrel
  by_cases k:32≤s.size
  ·have d:(32:Int)≤(s.size:Int):=by omega
   go_wp2_with fail
   go_loopw [9,29] (fun v9 a wi=>∃(i:Nat) (iv:Int),i≤4∧a=.int .i64 iv∧Aside0 (iv=(i:Int))∧Aside0 (VAt wi g (Qqs i V s))∧Aside0 (Below w.heap.size w wi))
    (fun _ a _=>4-(intOf a).toNat)
   case atStart=>exact⟨0,0,by omega,rfl,⟨rfl⟩,HV,HB⟩
   case round =>
    clear HV HB;obtain⟨i,iv,hi,rfl,HI,HV,HB⟩:=hrel
    by_cases h4:i<4
    ·have hk:i=0∨i=1∨i=2∨i=3:=by omega
     rcases hk with rfl|rfl|rfl|rfl
     ·obtain rfl:iv=0:=HI.out;have cv:wr.cell? ⟨g,0,none⟩=some (.int .u64 V.1):=(Qdw HV.out 0).trans rfl;have fv:=Qdx HV.out 0
      go_wp2_with fail
      have hw0:IntKind.i64.wrap 0=0:=IntWalk.i64_in 0 (by decide);have hw1:IntKind.i64.wrap 8=8:=IntWalk.i64_in 8 (by decide);have hsz:(8:Int)≤(s.size:Int):=by omega
      have hx:(s.extract 0 8).size≤1000:=Nat.le_trans (Qqw s 0 8) (by decide)
      go_region_with (first |(go_at_call 186;refine(Qqt (s.extract 0 8) hx _).mono ?_;rintro e w7 ⟨rfl,hd⟩;obtain⟨q,rfl⟩:=hd.out;clear hd) |(go_at_call 191;refine(Qqu _ _ _).mono ?_;rintro e w8 ⟨rfl,hd⟩;obtain⟨q2,rfl⟩:=hd.out;clear hd))
      all_goals
       go_wp2_with fail
       go_roundw
       case rel=>exact⟨1,1,by omega,by go_num,⟨rfl⟩,⟨Qdt (w:=wr.drewN _) HV.out 0 _⟩,⟨Qkf (Qcz HB.out _) (by rw[HG.out];exact Nat.le_refl _)⟩⟩
       case measure=>simp[intOf]
     ·obtain rfl:iv=1:=HI.out;have cv:wr.cell? ⟨g,1,none⟩=some (.int .u64 V.2.1):=(Qdw HV.out 1).trans rfl;have fv:=Qdx HV.out 1
      go_wp2_with fail
      have hw0:IntKind.i64.wrap 8=8:=IntWalk.i64_in 8 (by decide);have hw1:IntKind.i64.wrap 16=16:=IntWalk.i64_in 16 (by decide);have hsz:(16:Int)≤(s.size:Int):=by omega
      have hx:(s.extract 8 16).size≤1000:=Nat.le_trans (Qqw s 8 16) (by decide)
      go_region_with (first |(go_at_call 186;refine(Qqt (s.extract 8 16) hx _).mono ?_;rintro e w7 ⟨rfl,hd⟩;obtain⟨q,rfl⟩:=hd.out;clear hd) |(go_at_call 191;refine(Qqu _ _ _).mono ?_;rintro e w8 ⟨rfl,hd⟩;obtain⟨q2,rfl⟩:=hd.out;clear hd))
      all_goals
       go_wp2_with fail
       go_roundw
       case rel=>exact⟨2,2,by omega,by go_num,⟨rfl⟩,⟨Qdt (w:=wr.drewN _) HV.out 1 _⟩,⟨Qkf (Qcz HB.out _) (by rw[HG.out];exact Nat.le_refl _)⟩⟩
       case measure=>simp[intOf]
     ·obtain rfl:iv=2:=HI.out;have cv:wr.cell? ⟨g,2,none⟩=some (.int .u64 V.2.2.1):=(Qdw HV.out 2).trans rfl;have fv:=Qdx HV.out 2
      go_wp2_with fail
      have hw0:IntKind.i64.wrap 16=16:=IntWalk.i64_in 16 (by decide);have hw1:IntKind.i64.wrap 24=24:=IntWalk.i64_in 24 (by decide);have hsz:(24:Int)≤(s.size:Int):=by omega
      have hx:(s.extract 16 24).size≤1000:=Nat.le_trans (Qqw s 16 24) (by decide)
      go_region_with (first |(go_at_call 186;refine(Qqt (s.extract 16 24) hx _).mono ?_;rintro e w7 ⟨rfl,hd⟩;obtain⟨q,rfl⟩:=hd.out;clear hd) |(go_at_call 191;refine(Qqu _ _ _).mono ?_;rintro e w8 ⟨rfl,hd⟩;obtain⟨q2,rfl⟩:=hd.out;clear hd))
      all_goals
       go_wp2_with fail
       go_roundw
       case rel=>exact⟨3,3,by omega,by go_num,⟨rfl⟩,⟨Qdt (w:=wr.drewN _) HV.out 2 _⟩,⟨Qkf (Qcz HB.out _) (by rw[HG.out];exact Nat.le_refl _)⟩⟩
       case measure=>simp[intOf]
     ·obtain rfl:iv=3:=HI.out;have cv:wr.cell? ⟨g,3,none⟩=some (.int .u64 V.2.2.2):=(Qdw HV.out 3).trans rfl;have fv:=Qdx HV.out 3
      go_wp2_with fail
      have hw0:IntKind.i64.wrap 24=24:=IntWalk.i64_in 24 (by decide);have hw1:IntKind.i64.wrap 32=32:=IntWalk.i64_in 32 (by decide);have hsz:(32:Int)≤(s.size:Int):=by omega
      have hx:(s.extract 24 32).size≤1000:=Nat.le_trans (Qqw s 24 32) (by decide)
      go_region_with (first |(go_at_call 186;refine(Qqt (s.extract 24 32) hx _).mono ?_;rintro e w7 ⟨rfl,hd⟩;obtain⟨q,rfl⟩:=hd.out;clear hd) |(go_at_call 191;refine(Qqu _ _ _).mono ?_;rintro e w8 ⟨rfl,hd⟩;obtain⟨q2,rfl⟩:=hd.out;clear hd))
      all_goals
       go_wp2_with fail
       go_roundw
       case rel=>exact⟨4,4,by omega,by go_num,⟨rfl⟩,⟨Qdt (w:=wr.drewN _) HV.out 3 _⟩,⟨Qkf (Qcz HB.out _) (by rw[HG.out];exact Nat.le_refl _)⟩⟩
       case measure=>simp[intOf]
    ·obtain rfl:i=4:=by omega
     obtain rfl:iv=4:=HI.out
     go_wp2_with fail
     go_roundw
     case rel =>
      have e4:Qqs 4 V s=Qqo V s:=rfl;have hm:=HM.out;have hd:(s.extract 32 s.size).size=s.size-32:=by rw[ByteArray.size_extract];omega
      refine⟨m-1,s.extract 32 s.size,Qqo V s,rfl,by rw[hd];omega,⟨by rw[hd];omega,?_⟩,⟨?_⟩,HB⟩
      ·rw[hm.2,show m=(m-1)+1 by omega];rfl
      ·exact HV.out
     case measure=>simp[Qqr];omega
  ·have d:(s.size:Int)<32:=by omega
   go_wp2_with fail
   have c0:wr.cell? ⟨g,0,none⟩=some (.int .u64 V.1):=(Qdw HV.out 0).trans rfl;have c1:wr.cell? ⟨g,1,none⟩=some (.int .u64 V.2.1):=(Qdw HV.out 1).trans rfl;have c2:wr.cell? ⟨g,2,none⟩=some (.int .u64 V.2.2.1):=(Qdw HV.out 2).trans rfl;have c3:wr.cell? ⟨g,3,none⟩=some (.int .u64 V.2.2.2):=(Qdw HV.out 3).trans rfl
   go_region_held3 (fun w'=>w'.cell? ⟨g,0,none⟩=some (.int .u64 V.1)∧w'.cell? ⟨g,1,none⟩=some (.int .u64 V.2.1)∧w'.cell? ⟨g,2,none⟩=some (.int .u64 V.2.2.1)∧w'.cell? ⟨g,3,none⟩=some (.int .u64 V.2.2.2)) (go_keep) (first
    |(go_at_call_of 192 (Value.int .i64 1);refine(Qqv V.1 1 1 rfl (by decide) _).mono ?_;rintro e w7 ⟨rfl,hd⟩;obtain⟨q1,rfl⟩:=hd.out;clear hd)
    |(go_at_call_of 192 (Value.int .i64 7);refine(Qqv V.2.1 7 7 rfl (by decide) _).mono ?_;rintro e w7 ⟨rfl,hd⟩;obtain⟨q2,rfl⟩:=hd.out;clear hd)
    |(go_at_call_of 192 (Value.int .i64 12);refine(Qqv V.2.2.1 12 12 rfl (by decide) _).mono ?_;rintro e w7 ⟨rfl,hd⟩;obtain⟨q3,rfl⟩:=hd.out;clear hd)
    |(go_at_call_of 192 (Value.int .i64 18);refine(Qqv V.2.2.2 18 18 rfl (by decide) _).mono ?_;rintro e w7 ⟨rfl,hd⟩;obtain⟨q4,rfl⟩:=hd.out;clear hd))
   obtain⟨W2,hW2⟩:∃W2,W2=wr.drewN (1+q1+q2+q3+q4):=⟨_,rfl⟩;have HV2:=QA (show VAt W2 g V by rw[hW2];exact HV.out);have c:=QA (show Below w.heap.size w W2 by rw[hW2];exact Qcz HB.out _);rw[← hW2];clear hW2 c0 c1 c2 c3 HV HB;have hm0:m=0:=by have:=HM.out.1;omega
   go_wp2_with fail
   go_loopw [10,11,64] (fun j l b wi=>∃(i:Nat) (iv h:Int),i≤4∧b=.int .i64 iv∧j=.int .u64 h∧Aside0 (iv=(i:Int))∧Aside0 (h=rmixTo i (rsum V) V)∧Aside0 (VAt wi g V)∧Aside0 (Below w.heap.size w wi))
    (fun _ _ b _=>4-(intOf b).toNat)
   case atStart=>exact⟨0,0,_,by omega,rfl,rfl,⟨rfl⟩,⟨rfl⟩,HV2,c⟩
   case round =>
    clear HV2 c;obtain⟨i,iv,h,hi,rfl,rfl,HI,HH,HV,HB⟩:=hrel
    by_cases h4:i<4
    ·have hk:i=0∨i=1∨i=2∨i=3:=by omega
     rcases hk with rfl|rfl|rfl|rfl
     ·obtain rfl:iv=0:=HI.out;have cv:wr.cell? ⟨g,0,none⟩=some (.int .u64 V.1):=(Qdw HV.out 0).trans rfl
      go_wp2_with (go_at_call 191;refine(Qqu _ _ _).mono ?_;rintro e w8 ⟨rfl,hd⟩;obtain⟨q9,rfl⟩:=hd.out;clear hd)
      go_roundw
      case rel=>exact⟨1,1,Qqp h V.1,by omega,by go_num,rfl,⟨rfl⟩,⟨by rw[HH.out];rfl⟩,⟨HV.out⟩,⟨Qcz HB.out _⟩⟩
      case measure=>simp[intOf]
     ·obtain rfl:iv=1:=HI.out;have cv:wr.cell? ⟨g,1,none⟩=some (.int .u64 V.2.1):=(Qdw HV.out 1).trans rfl
      go_wp2_with (go_at_call 191;refine(Qqu _ _ _).mono ?_;rintro e w8 ⟨rfl,hd⟩;obtain⟨q9,rfl⟩:=hd.out;clear hd)
      go_roundw
      case rel=>exact⟨2,2,Qqp h V.2.1,by omega,by go_num,rfl,⟨rfl⟩,⟨by rw[HH.out];rfl⟩,⟨HV.out⟩,⟨Qcz HB.out _⟩⟩
      case measure=>simp[intOf]
     ·obtain rfl:iv=2:=HI.out;have cv:wr.cell? ⟨g,2,none⟩=some (.int .u64 V.2.2.1):=(Qdw HV.out 2).trans rfl
      go_wp2_with (go_at_call 191;refine(Qqu _ _ _).mono ?_;rintro e w8 ⟨rfl,hd⟩;obtain⟨q9,rfl⟩:=hd.out;clear hd)
      go_roundw
      case rel=>exact⟨3,3,Qqp h V.2.2.1,by omega,by go_num,rfl,⟨rfl⟩,⟨by rw[HH.out];rfl⟩,⟨HV.out⟩,⟨Qcz HB.out _⟩⟩
      case measure=>simp[intOf]
     ·obtain rfl:iv=3:=HI.out;have cv:wr.cell? ⟨g,3,none⟩=some (.int .u64 V.2.2.2):=(Qdw HV.out 3).trans rfl
      go_wp2_with (go_at_call 191;refine(Qqu _ _ _).mono ?_;rintro e w8 ⟨rfl,hd⟩;obtain⟨q9,rfl⟩:=hd.out;clear hd)
      go_roundw
      case rel=>exact⟨4,4,Qqp h V.2.2.2,by omega,by go_num,rfl,⟨rfl⟩,⟨by rw[HH.out];rfl⟩,⟨HV.out⟩,⟨Qcz HB.out _⟩⟩
      case measure=>simp[intOf]
    ·obtain rfl:i=4:=by omega
     obtain rfl:iv=4:=HI.out
     go_wp2_with fail
     refine bodyPost_ret (results_tmp2 rfl _ _ _) rfl ?_;refine⟨?_,HB.out⟩;have e5:=HM.out.2;rw[hm0]at e5;have e6:rrun (s0.size/32) (Qqq sd) s0=(V,s):=by rw[← HVV.out];exact e5
     rw[e6,HH.out];rfl
theorem Qbk.calls(a0:Int)(a1:ByteArray)(r1:Int)(r2:ByteArray)(w:World)(h:Qbk.f a0 a1=some (r1,r2)) :
  Calls Tryz.prog 190 #[.int .u64 a0,.string a1] w fun e w'=>e=.returned (.tuple #[.int .u64 r1,.string r2])∧Below w.heap.size w w':=by
 unfold Qbk.f at h;split at h
 ·rename_i hs;simp only[Option.some.injEq,Prod.mk.injEq]at h;obtain⟨rfl,rfl⟩:=h;exact Qqx a0 a1 w hs
 ·cases h
theorem Qsa(k b g:Nat)(bs xs:List Int)(i n x:Int)(hxs:xs=(bs.drop i.toNat).take n.toNat)(hn:0<n)(hi:0≤i)(hl:bs.length≤140737488355328)(hs:i+n≤(bs.length:Int))(hbg:b≤g)(m:xs.length≤8)
  (h:Qcv.l0 k xs 0 (xs.length:Int) 0=some x) (w:World) (hbw:b≤w.heap.size) (hI:IsCur w b g bs i) :
  Calls Tryz.prog 219 #[.pointer (some ⟨g,0,none⟩),.int .i64 n] w fun e w'=>e=.returned (.int .u64 x)∧IsCur w' b g bs (i+n)∧Bw b g w w'∧K8 w w':=by
 have HI:=QA hI;have H0:=QA h;have HX:=QA hxs;clear hI h hxs
 go_enter Tryz.func219,Tryz.ntmps219
 go_wp2_with (go_at_call 221;refine(Qnt b g bs xs i n HX.out hn hi hl hs hbg _ hbw HI.out).mono ?_;rintro ee w1 ⟨v,rfl,hR,hI1,hB1,hK1⟩;(have HK1:=QA hK1;clear hK1;obtain⟨A,c,hv⟩:=Kd.R_slice hR;subst hv;have HI1:=QA hI1;have d:=QA hB1;have j:=QA (Kd.R_reads' hR).2.2;clear hI1 hB1 hR))
 go_loopw [5,12] (fun v5 a wr=>∃(x5 x8:Int) (gk:Nat),v5=.int .u64 x5∧a=.int .i64 x8∧Aside0 (Qcv.l0 gk xs x5 (xs.length:Int) x8=some x)∧Aside0 (0≤x8∧x8≤(xs.length:Int))∧wr=w1)
  (fun _ a _=>xs.length-(intOf a).toNat)
 case atStart=>exact⟨0,0,k,rfl,rfl,H0,⟨by omega⟩,rfl⟩
 case round =>
  obtain⟨x5,x8,gk,rfl,rfl,HA,HK,rfl⟩:=hrel
  cases gk with
  | zero=>exact absurd HA.out (by simp[Qcv.l0])
  | succ k1 =>
   have H:=HA.out;clear HA;simp only[Qcv.l0]at H;have p0:0≤x8:=HK.out.1
   by_cases c3:x8<(xs.length:Int)
   ·have hw8:IntKind.i64.wrap (8*x8)=8*x8:=IntWalk.i64_in _ (by omega);have hw9:wrap64 (8*x8)=8*x8:=by unfold wrap64;omega
    have hw1:IntKind.i64.wrap (x8+1)=x8+1:=IntWalk.i64_in _ (by omega);have hw2:wrap64 (x8+1)=x8+1:=by unfold wrap64;omega
    rw[if_pos c3,if_pos p0,if_pos c3,hw9,if_pos (by omega),hw2]at H;have l:decide (x8<(xs.length:Int))=true:=decide_eq_true c3;obtain⟨j6,hj6⟩:∃j6:Int,8*x8=j6:=⟨_,rfl⟩;rw[hj6]at hw8 H;have hj60:0≤j6:=by omega
    obtain⟨j8,hj8⟩:∃j8:Int,(shl .u64 (IntKind.u64.wrap (YteaocbonofboeaaGreatW.PrintWords.rd xs x8)) j6)=j8:=⟨_,rfl⟩;rw[hj8]at H;have hj8_:(IntKind.u64.wrap ((IntKind.u64.wrap (YteaocbonofboeaaGreatW.PrintWords.rd xs x8))*2^min j6.toNat 64))=j8:=hj8;have hj8z:j6≤64→(IntKind.u64.wrap ((IntKind.u64.wrap (YteaocbonofboeaaGreatW.PrintWords.rd xs x8))*2^j6.toNat))=j8:=Qiw hj8;have H':=QA H;have HJ:=QA hj6;have HLT:=QA c3;obtain⟨ad,e1,o⟩:=Kd.at_int j.out x8 p0 c3;subst e1;have hw8':IntKind.i64.wrap (8*x8)=j6:=by rw[hj6];exact hw8
    clear H hj6 hj8 hw9 hw2 hw8;go_wp2
    go_roundw
    case rel=>exact⟨_,x8+1,k1,rfl,rfl,H',⟨by have:=HLT.out;have:=HK.out;omega⟩,trivial⟩
    case measure=>have h1:=HLT.out;have h2:=HK.out;simp[intOf];omega
   ·have l:decide (x8<(xs.length:Int))=false:=decide_eq_false c3;rw[if_neg c3]at H;obtain rfl:=Option.some.inj H;go_wp2;go_ret
    exact⟨rfl,HI1.out,d.out,HK1.out⟩
theorem Qsb(k b g:Nat)(bs xs:List Int)(i n x:Int)(hxs:xs=(bs.drop i.toNat).take n.toNat)(hn:0<n)(hi:0≤i)(hl:bs.length≤140737488355328)(hs:i+n≤(bs.length:Int))(hbg:b≤g)(hx8:xs.length≤8)
  (h:Qcv.l0 k xs 0 (xs.length:Int) 0=some x) (w:World) (hbw:b≤w.heap.size) (hI:IsCur w b g bs i) :
  Calls Tryz.prog 219 #[.pointer (some ⟨g,0,none⟩),.int .i64 n] w fun e w'=>e=.returned (.int .u64 x)∧IsCur w' b g bs (i+n)∧Bw b g w w':=(Qsa k b g bs xs i n x hxs hn hi hl hs hbg hx8 h w hbw hI).mono (by rintro e w' ⟨h1,h2,h3,_⟩;exact⟨h1,h2,h3⟩)
def Qsc(b g:Nat)(bs:List Int)(i er:Int)(w:World)(e:Ending)(w':World):Prop:=e=.panicked [Qno g er]∧IsCur w' b g bs i∧Bw b g w w'
theorem Qsd(b g:Nat)(bs:List Int)(i n:Int)(hn:0<n)(hi:0≤i∧i≤bs.length)(hl:bs.length≤140737488355328)(hs:(bs.length:Int)-i<n)(w:World)(hbw:b≤w.heap.size)(hI:IsCur w b g bs i) :
  Calls Tryz.prog 219 #[.pointer (some ⟨g,0,none⟩),.int .i64 n] w (Qsc b g bs i 2 w):=by
 have HI:=QA hI;clear hI
 go_enter Tryz.func219,Tryz.ntmps219
 go_wp2_with (go_at_call 221;refine(Qnr b g bs i n hn hi hl hs _ HI.out).mono ?_;rintro ee w1 ⟨rfl,hb1⟩)
 exact⟨rfl,rfl,HI.out.kept hb1,Bw.below hb1 hbw⟩
theorem Qse(k b g:Nat)(bs xs:List Int)(i x:Int)(hxs:xs=(bs.drop i.toNat).take 1)(hi:0≤i)(hl:bs.length≤140737488355328)(hs:i+1≤(bs.length:Int))(hbg:b≤g)
  (h:Qcv.l0 k xs 0 (xs.length:Int) 0=some x) (w:World) (hbw:b≤w.heap.size) (hI:IsCur w b g bs i) :
  Calls Tryz.prog 173 #[.pointer (some ⟨g,0,none⟩)] w fun e w'=>e=.returned (.int .u8 (IntKind.u8.wrap x))∧IsCur w' b g bs (i+1)∧Bw b g w w':=by
 have HI:=QA hI;have H0:=QA h;have HX:=QA hxs;have HL:Aside0 (xs.length≤8):=⟨by rw[hxs,List.length_take];omega⟩;clear hI h hxs
 go_enter Tryz.func173,Tryz.ntmps173
 go_wp2_with (go_at_call 219;refine(Qsb k b g bs xs i 1 x HX.out (by decide) hi hl hs hbg HL.out H0.out _ hbw HI.out).mono ?_;rintro ee w1 ⟨rfl,hI1,hB1⟩)
 go_ret
 exact⟨rfl,hI1,hB1⟩
theorem Qsf(b g:Nat)(bs:List Int)(i:Int)(hi:0≤i∧i≤bs.length)(hl:bs.length≤140737488355328)(hs:(bs.length:Int)-i<1)(w:World)(hbw:b≤w.heap.size)(hI:IsCur w b g bs i) :
  Calls Tryz.prog 173 #[.pointer (some ⟨g,0,none⟩)] w (Qsc b g bs i 2 w):=by
 have HI:=QA hI;clear hI
 go_enter Tryz.func173,Tryz.ntmps173
 go_wp2_with (go_at_call 219;refine(Qsd b g bs i 1 (by decide) hi hl hs _ hbw HI.out).mono ?_;rintro ee w1 ⟨rfl,hF⟩)
 exact⟨rfl,rfl,hF⟩
theorem Qsg(k b g:Nat)(bs xs:List Int)(i x:Int)(hxs:xs=(bs.drop i.toNat).take 8)(hi:0≤i)(hl:bs.length≤140737488355328)(hs:i+8≤(bs.length:Int))(hbg:b≤g)
  (h:Qcv.l0 k xs 0 (xs.length:Int) 0=some x) (w:World) (hbw:b≤w.heap.size) (hI:IsCur w b g bs i) :
  Calls Tryz.prog 171 #[.pointer (some ⟨g,0,none⟩)] w fun e w'=>e=.returned (.int .u64 x)∧IsCur w' b g bs (i+8)∧Bw b g w w':=by
 have HI:=QA hI;have H0:=QA h;have HX:=QA hxs;have HL:Aside0 (xs.length≤8):=⟨by rw[hxs,List.length_take];omega⟩;clear hI h hxs
 go_enter Tryz.func171,Tryz.ntmps171
 go_wp2_with (go_at_call 219;refine(Qsb k b g bs xs i 8 x HX.out (by decide) hi hl hs hbg HL.out H0.out _ hbw HI.out).mono ?_;rintro ee w1 ⟨rfl,hI1,hB1⟩)
 go_ret
 exact⟨rfl,hI1,hB1⟩
theorem Qsh(b g:Nat)(bs:List Int)(i:Int)(hi:0≤i∧i≤bs.length)(hl:bs.length≤140737488355328)(w:World)(hI:IsCur w b g bs i) :
  Calls Tryz.prog 222 #[.pointer (some ⟨g,0,none⟩)] w fun e w'=>e=.returned (.int .i64 ((bs.length:Int)-i))∧Below w.heap.size w w':=by
 have HI:=QA hI;obtain⟨A,c,h0,h1,h2,h3,h4,h5⟩:=hI.cells;clear hI h4;have hu:=Tryz.underlying300;have hw1:IntKind.i64.wrap ((bs.length:Int)-i)=(bs.length:Int)-i:=IntWalk.i64_in _ (by omega)
 go_enter Tryz.func222,Tryz.ntmps222
 go_upto_region 3 with(go_at_call 220;refine(Qnp b g bs i _ HI.out).mono ?_;rintro ee wa ⟨rfl,rfl⟩)
 have q0:=Qdb (Qcy (Below.refl _ _)) h0;have q1:=Qdb (Qcy (Below.refl _ _)) h1
 go_region
 go_wp2;go_ret
 exact⟨rfl,Qcy (Below.refl _ _)⟩
theorem Qsi(b g:Nat)(bs:List Int)(i:Int)(hi:0≤i∧i≤bs.length)(hl:bs.length≤140737488355328)(hs:(bs.length:Int)-i≤0)(w:World)(hbw:b≤w.heap.size)(hI:IsCur w b g bs i) :
  Calls Tryz.prog 177 #[.pointer (some ⟨g,0,none⟩)] w fun e w'=>e=.returned (.tuple #[])∧IsCur w' b g bs i∧Bw b g w w':=by
 have HI:=QA hI;clear hI;have hb0:decide (0<(bs.length:Int)-i)=false:=decide_eq_false (by omega)
 go_enter Tryz.func177,Tryz.ntmps177
 go_wp2_with (go_at_call 222;refine(Qsh b g bs i hi hl _ HI.out).mono ?_;rintro ee w1 ⟨rfl,hb1⟩)
 go_end0
 exact⟨rfl,HI.out.kept hb1,Bw.below hb1 hbw⟩
theorem Qsj(b g:Nat)(bs:List Int)(i:Int)(hi:0≤i∧i≤bs.length)(hl:bs.length≤140737488355328)(hs:0<(bs.length:Int)-i)(w:World)(hbw:b≤w.heap.size)(hI:IsCur w b g bs i) :
  Calls Tryz.prog 177 #[.pointer (some ⟨g,0,none⟩)] w (Qsc b g bs i 3 w):=by
 have HI:=QA hI;clear hI;have hb0:decide (0<(bs.length:Int)-i)=true:=decide_eq_true hs
 go_enter Tryz.func177,Tryz.ntmps177
 go_wp2_with (first
  |(go_at_call 222;refine(Qsh b g bs i hi hl _ HI.out).mono ?_;rintro ee w1 ⟨rfl,hb1⟩)
  |(go_at_call 174;refine(Qnq b g bs i 3 (by decide) _ (HI.out.kept hb1)).mono ?_;rintro ee w2 ⟨rfl,rfl⟩))
 exact⟨rfl,rfl,HI.out.kept hb1,Bw.below hb1 hbw⟩
theorem Qsk{P:Program}{tp te:TypeId}{j:TypeInfo}(a:Addr)(hp:P.underlying tp=some (.pointer te))(hte:P.info? te=some j)(w:World) :
  (binOp .neq tp (.pointer (some a)) (.pointer (some a))).run P w=.ok (.bool false) w:=by
 have h:∀d:Nat,(Op.equalIn (d+1) tp (.pointer (some a)) (.pointer (some a))).run P w=.ok true w:=fun d=>by simp[Op.equalIn,run_underlying hp,sizeOf,typeInfo,hte,run_sameAddr_same]
 simp only[binOp];simp[Op.equal,Op.maxDepth,h 9999]
theorem Qsl{P:Program}{Q:Exit→Act→List Frame→World→Prop}{o:Oper}{id:Nat}{a:Act}{cs:List Frame}{w:World}(hw:Region.wanted o (yielded #[o] a.tmps)=true)(hr:(execOp a.eval o).run P w=.ok .recover w)
  (hc:recoverD cs=none) (h:Q .normal (a.put o.dst .nilIface) cs w):(Code.region id #[o] false).wpS P Q a cs w:=by
 apply wpS_region;show wpOpsS P #[o] Q [0] a cs w;simp only[wpOpsS];show(if Region.wanted o (yielded #[o] a.tmps)=true then _ else _);rw[if_pos hw];simp only[List.getElem_toArray,List.getElem_cons_zero,hr,hc];exact h
theorem Qsm{P:Program}{Q:Exit→Act→List Frame→World→Prop}{o:Oper}{id:Nat}{a:Act}{cs cs':List Frame}{v:Value}{w:World}(hw:Region.wanted o (yielded #[o] a.tmps)=true)(hr:(execOp a.eval o).run P w=.ok .recover w)
  (hc:recoverD cs=some (v,cs')) (h:Q .normal (a.put o.dst v) cs' w):(Code.region id #[o] false).wpS P Q a cs w:=by
 apply wpS_region;show wpOpsS P #[o] Q [0] a cs w;simp only[wpOpsS];show(if Region.wanted o (yielded #[o] a.tmps)=true then _ else _);rw[if_pos hw];simp only[List.getElem_toArray,List.getElem_cons_zero,hr,hc];exact h
theorem Qsn(g ba be bc:Nat)(i x:Int)(v:Value)(w:World)(h0:w.heap[bc]? = some (.cells #[.pointer (some ⟨g,0,none⟩)] 255 (0,0)))
  (h1:w.heap[g]? = some (.cells #[v,.int .i64 i,.bool true] 300 (0,0))) (h2:w.heap[ba]? = some (.cells #[.int .i64 x] 3 (0,0))) :
  CallsD Tryz.prog 218 #[.pointer (some ⟨bc,0,none⟩),.pointer (some ⟨ba,0,none⟩),.pointer (some ⟨be,0,none⟩)] .returning w fun e u' w' =>
   e=.returned (.tuple #[])∧u'=.returning∧w'=(w.setCell ⟨g,2,none⟩ (.bool false)).setCell ⟨ba,0,none⟩ (.int .i64 i):=by
 have hu:=Tryz.underlying300;have n1:bc≠g:=Qdz h0 h1 (by decide);have n2:ba≠g:=Qdz h2 h1 (by decide);have c0:w.cell? ⟨bc,0,none⟩=some (.pointer (some ⟨g,0,none⟩)):=(Qdw h0 0).trans rfl;have c1:w.frozen? ⟨g,2,none⟩=false:=Qdx h1 2;have c2:w.cell? ⟨g,2,none⟩=some (.bool true):=(Qdw h1 2).trans rfl;have k0:=Qdu h0 (p:=⟨g,2,none⟩) n1 (.bool false);have k1:=Qdt h1 2 (.bool false);have k2:=Qdu h2 (p:=⟨g,2,none⟩) n2 (.bool false);obtain⟨W1,hW1⟩:∃W1,W1=w.setCell ⟨g,2,none⟩ (.bool false):=⟨_,rfl⟩;rw[← hW1]at k0 k1 k2 ⊢;refine callsD_of_wpS Tryz.func218 rfl fun c₀ cs hm=>?_
 simp only[Tryz.ntmps218,List.size_toArray,List.length_cons,List.length_nil,Nat.reduceAdd,Nat.reduceSub,Array.replicate_succ,Array.replicate_zero,List.push_toArray,List.append_toArray,List.nil_append,List.cons_append];apply wpS_seq;refine wpS_of_wp ?_;go_wp2;simp only[Exit.thenS];rw[← hW1];have d0:W1.cell? ⟨bc,0,none⟩=some (.pointer (some ⟨g,0,none⟩)):=(Qdw k0 0).trans rfl;have d1:W1.cell? ⟨g,1,none⟩=some (.int .i64 i):=(Qdw k1 1).trans rfl;have d2:W1.frozen? ⟨ba,0,none⟩=false:=Qdx k2 0;have d3:W1.cell? ⟨ba,0,none⟩=some (.int .i64 x):=(Qdw k2 0).trans rfl;clear c0 c1 c2 hW1 h0 h1 h2;apply wpS_seq;refine wpS_of_wp ?_;go_wp2;simp only[Exit.thenS];apply wpS_seq;refine Qsl rfl ?_ ?_ ?_
 ·go_simp
 ·simp[recoverD,hm]
 simp only[Exit.thenS,Act.put,List.setIfInBounds_toArray,List.set_cons_zero,List.set_cons_succ];refine wpS_of_wp ?_;go_wp2;refine⟨rfl,.returning,?_,_,results_none rfl _ _ _,rfl,rfl,rfl⟩
 cases c₀
 simp_all
theorem Qso(g ba be bc:Nat)(i x y er:Int)(v:Value)(w:World)(h0:w.heap[bc]? = some (.cells #[.pointer (some ⟨g,0,none⟩)] 255 (0,0)))
  (h1:w.heap[g]? = some (.cells #[v,.int .i64 i,.bool true] 300 (0,0))) (h2:w.heap[ba]? = some (.cells #[.int .i64 x] 3 (0,0))) (h3:w.heap[be]? = some (.cells #[.int .i64 y] 31 (0,0))) :
  CallsD Tryz.prog 218 #[.pointer (some ⟨bc,0,none⟩),.pointer (some ⟨ba,0,none⟩),.pointer (some ⟨be,0,none⟩)] (.panicking [Qno g er]) w fun e u' w' =>
   e=.returned (.tuple #[])∧u'=.panicking [{ Qno g er with recovered:=true }]∧w'=((((w.setCell ⟨g,2,none⟩ (.bool false)).setCell ⟨ba,0,none⟩ (.int .i64 i)).alloc (.cells #[.pointer (some ⟨g,0,none⟩),.int .i64 er] 302)).setCell ⟨be,0,none⟩ (.int .i64 er)):=by
 have hu:=Tryz.underlying300;have hu2:=Tryz.underlying302;have hu3:=Tryz.underlying255;have n1:bc≠g:=Qdz h0 h1 (by decide);have n2:ba≠g:=Qdz h2 h1 (by decide);have n3:be≠g:=Qdz h3 h1 (by decide);have n4:bc≠ba:=Qdz h0 h2 (by decide);have n5:be≠ba:=Qdz h3 h2 (by decide);have c0:w.cell? ⟨bc,0,none⟩=some (.pointer (some ⟨g,0,none⟩)):=(Qdw h0 0).trans rfl;have c1:w.frozen? ⟨g,2,none⟩=false:=Qdx h1 2;have c2:w.cell? ⟨g,2,none⟩=some (.bool true):=(Qdw h1 2).trans rfl;have k0:=Qdu h0 (p:=⟨g,2,none⟩) n1 (.bool false);have k1:=Qdt h1 2 (.bool false);have k2:=Qdu h2 (p:=⟨g,2,none⟩) n2 (.bool false);have k3:=Qdu h3 (p:=⟨g,2,none⟩) n3 (.bool false);obtain⟨W1,hW1⟩:∃W1,W1=w.setCell ⟨g,2,none⟩ (.bool false):=⟨_,rfl⟩;rw[← hW1]at k0 k1 k2 k3 ⊢;have m0:=Qdu k0 (p:=⟨ba,0,none⟩) n4 (.int .i64 i);have m3:=Qdu k3 (p:=⟨ba,0,none⟩) n5 (.int .i64 i);obtain⟨W2,hW2⟩:∃W2,W2=W1.setCell ⟨ba,0,none⟩ (.int .i64 i):=⟨_,rfl⟩;rw[← hW2]at m0 m3 ⊢;obtain⟨j9,hj9⟩:∃j,Tryz.prog.info? 300=some j:=Option.isSome_iff_exists.1 qq_6;have hnp:∀W:World,(binOp .neq 255 (.pointer (some ⟨g,0,none⟩)) (.pointer (some ⟨g,0,none⟩))).run Tryz.prog W=.ok (.bool false) W:=fun W=>Qsk ⟨g,0,none⟩ hu3 hj9 W
 clear hj9;have hta:∀W:World,(Instr.typeAssert (.iface 302 (.agg #[.pointer (some ⟨g,0,none⟩),.int .i64 er])) 20 302 true).run Tryz.prog W=.ok (.tuple #[.agg #[.pointer (some ⟨g,0,none⟩),.int .i64 er],.bool true]) W:=fun W=>by kernel_rfl
 refine callsD_of_wpS Tryz.func218 rfl fun c₀ cs hm=>?_
 simp only[Tryz.ntmps218,List.size_toArray,List.length_cons,List.length_nil,Nat.reduceAdd,Nat.reduceSub,Array.replicate_succ,Array.replicate_zero,List.push_toArray,List.append_toArray,List.nil_append,List.cons_append];apply wpS_seq;refine wpS_of_wp ?_;go_wp2;simp only[Exit.thenS];rw[← hW1];have d0:W1.cell? ⟨bc,0,none⟩=some (.pointer (some ⟨g,0,none⟩)):=(Qdw k0 0).trans rfl;have d1:W1.cell? ⟨g,1,none⟩=some (.int .i64 i):=(Qdw k1 1).trans rfl;have d2:W1.frozen? ⟨ba,0,none⟩=false:=Qdx k2 0;have d3:W1.cell? ⟨ba,0,none⟩=some (.int .i64 x):=(Qdw k2 0).trans rfl;clear c0 c1 c2 hW1 h0 h1 h2 h3;apply wpS_seq;refine wpS_of_wp ?_;go_wp2;simp only[Exit.thenS];rw[← hW2];have o0:W2.cell? ⟨bc,0,none⟩=some (.pointer (some ⟨g,0,none⟩)):=(Qdw m0 0).trans rfl;have s0:=Qei m0 (.cells #[.pointer (some ⟨g,0,none⟩),.int .i64 er] 302);have s3:=Qei m3 (.cells #[.pointer (some ⟨g,0,none⟩),.int .i64 er] 302);have s4:=Qem W2 (.cells #[.pointer (some ⟨g,0,none⟩),.int .i64 er] 302);have p0:(W2.alloc (.cells #[.pointer (some ⟨g,0,none⟩),.int .i64 er] 302)).cell? ⟨bc,0,none⟩=some (.pointer (some ⟨g,0,none⟩)):=(Qdw s0 0).trans rfl;have p1:(W2.alloc (.cells #[.pointer (some ⟨g,0,none⟩),.int .i64 er] 302)).cell? ⟨be,0,none⟩=some (.int .i64 y):=(Qdw s3 0).trans rfl;have p2:(W2.alloc (.cells #[.pointer (some ⟨g,0,none⟩),.int .i64 er] 302)).frozen? ⟨be,0,none⟩=false:=Qdx s3 0;have p3:(W2.alloc (.cells #[.pointer (some ⟨g,0,none⟩),.int .i64 er] 302)).cell? ⟨W2.heap.size,0,none⟩=some (.pointer (some ⟨g,0,none⟩)):=(Qdw s4 0).trans rfl;have p4:(W2.alloc (.cells #[.pointer (some ⟨g,0,none⟩),.int .i64 er] 302)).cell? ⟨W2.heap.size,1,none⟩=some (.int .i64 er):=(Qdw s4 1).trans rfl;clear d0 d1 d2 d3 hW2 s0 s3 s4;apply wpS_seq;refine Qsm (v:=.iface 302 (.agg #[.pointer (some ⟨g,0,none⟩),.int .i64 er])) (cs':={ c₀ with mode:=.panicking [{ Qno g er with recovered:=true }] } :: cs) rfl ?_ ?_ ?_
 ·go_simp
 ·simp[recoverD,hm,Qno]
 simp only[Exit.thenS,Act.put,List.setIfInBounds_toArray,List.set_cons_zero,List.set_cons_succ];refine wpS_of_wp ?_;go_wp2;refine⟨rfl,_,rfl,_,results_none rfl _ _ _,rfl,rfl,rfl⟩
end Go.Proofs.YteaocbonofboeaaGreat.C
end
