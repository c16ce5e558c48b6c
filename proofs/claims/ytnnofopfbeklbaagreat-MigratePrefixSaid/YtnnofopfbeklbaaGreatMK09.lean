/- Merged texts. -/
import Derived.Test.YtnnofopfbeklbaaGreatMK02
import Derived.Test.YtnnofopfbeklbaaGreatMK08
import Derived.WalkLawsBesides
import Derived.Recover
import Derived.LaidEqlPtr
import Derived.Defers
import Derived.StillTailTactics
import Derived.Test.YtnnofopfbeklbaaGreatMK03
set_option linter.unusedVariables false
set_option linter.unusedSimpArgs false
set_option maxHeartbeats 8000000
set_option maxRecDepth 100000
section
namespace Go.Proofs.YtnnofopfbeklbaaGreat.C
open Go.RowKit Go.Proofs.YtnnofopfbeklbaaGreatW.PrintWords Go.Proofs.YtnnofopfbeklbaaGreatW.PrintLast Go.Proofs.YtnnofopfbeklbaaGreatW.PrintMore
theorem Qnp(n:Nat)(hn:n≤64):∀(d i:Nat) (x:Int),i+d=n→∃r,Qbg.l0 (d+1) x (n:Int) (i:Int)=some r
 | 0,i,x,h=>by
  refine⟨x,?_⟩;unfold Qbg.l0;rw[if_neg (by omega)]
 | d+1,i,x,h=>by
  obtain⟨r,hr⟩:=Qnp n hn d (i+1) (IntKind.u64.wrap ((IntKind.u64.wrap (2*x))+(IntKind.u64.wrap (Int.tdiv x 9223372036854775808)))) (by omega);refine⟨r,?_⟩;unfold Qbg.l0;rw[if_pos (by omega),show wrap64 ((i:Int)+1)=((i+1:Nat):Int)by unfold wrap64;omega];exact hr
def Qnq(x:Int)(n:Nat):Int:=(Qbg.f (n+1) x n).getD 0
theorem Qnr(x:Int)(n:Nat)(hn:n≤64):Qbg.f (n+1) x n=some (Qnq x n):=by
 obtain⟨r,hr⟩:=Qnp n hn n 0 x (by omega);have h:Qbg.f (n+1) x n=some r:=hr;unfold Qnq;rw[h];rfl
def Qns(x y:Int):Int:=(Qbe.f 32 x y).getD 0
theorem Qnt(x y:Int):Qbe.f 32 x y=some (Qns x y):=by
 unfold Qns Qbe.f;rw[show(32:Nat)=31+1 from rfl,show(31:Int)=((31:Nat):Int) from rfl,Qnr _ 31 (by omega)];rfl
theorem Qnu(s:ByteArray)(hs:s.size≤1000):∀(d:Nat) (x:Int),d≤s.size→∃r,Qav.l0 (d+1) s x ((d:Int)-1)=some r
 | 0,x,h=>by
  refine⟨x,?_⟩;unfold Qav.l0;rw[if_neg (by omega)]
 | d+1,x,h=>by
  obtain⟨r,hr⟩:=Qnu s hs d (IntKind.u64.wrap ((IntKind.u64.wrap (x*256))+(IntKind.u64.wrap (bt s (d:Int))))) (by omega);refine⟨r,?_⟩;unfold Qav.l0;rw[show((d+1:Nat):Int)-1=(d:Int)by omega,if_pos (by omega),if_pos (by omega),if_pos (by omega),show wrap64 ((d:Int)-1)=(d:Int)-1 by unfold wrap64;omega];exact hr
def rval(s:ByteArray):Int:=(Qav.f (s.size+1) s).getD 0
theorem Qnv(s:ByteArray)(hs:s.size≤1000):Qav.f (s.size+1) s=some (rval s):=by
 obtain⟨r,hr⟩:=Qnu s hs s.size 0 (Nat.le_refl _);have h:Qav.f (s.size+1) s=some r:=by
  unfold Qav.f;rw[show wrap64 ((s.size:Int)-1)=(s.size:Int)-1 by unfold wrap64;omega];exact hr
 unfold rval;rw[h];rfl
def Qnw(v:V4)(s:ByteArray):V4:=(Qns v.1 (rval (s.extract 0 8)),Qns v.2.1 (rval (s.extract 8 16)),Qns v.2.2.1 (rval (s.extract 16 24)),Qns v.2.2.2 (rval (s.extract 24 32)))
def rrun:Nat→V4→ByteArray→V4 × ByteArray
 | 0,v,s=>(v,s)
 | m+1,v,s=>rrun m (Qnw v s) (s.extract 32 s.size)
def rsum(V:V4):Int:=IntKind.u64.wrap (IntKind.u64.wrap (IntKind.u64.wrap (Qnq V.1 1+Qnq V.2.1 7)+Qnq V.2.2.1 12)+Qnq V.2.2.2 18)
def Qnx(h x:Int):Int:=IntKind.u64.wrap (IntKind.u64.wrap (Go.bits .xor .u64 h (Qns 0 x)*Q1)+Q4)
def rmix(h:Int)(V:V4):Int:=Qnx (Qnx (Qnx (Qnx h V.1) V.2.1) V.2.2.1) V.2.2.2
def Qny(sd:Int):V4:=(IntKind.u64.wrap (IntKind.u64.wrap (sd+Q1)+Q2),IntKind.u64.wrap (sd+Q2),sd,IntKind.u64.wrap (sd-Q1))
def Qbd.f(a0:Int)(a1:ByteArray):Option (Int × ByteArray) :=
 if a1.size≤9223372036854775807 then some (rmix (rsum (rrun (a1.size/32) (Qny a0) a1).1) (rrun (a1.size/32) (Qny a0) a1).1,(rrun (a1.size/32) (Qny a0) a1).2)else none
def rmixTo(i:Nat)(h:Int)(V:V4):Int:=match i with
 | 0=>h
 | 1=>Qnx h V.1
 | 2=>Qnx (Qnx h V.1) V.2.1
 | 3=>Qnx (Qnx (Qnx h V.1) V.2.1) V.2.2.1
 | _=>rmix h V
def VAt(W:World)(g:Nat)(V:V4):Prop:=W.heap[g]? = some (.cells #[.int .u64 V.1,.int .u64 V.2.1,.int .u64 V.2.2.1,.int .u64 V.2.2.2] 231 (0,0))
def Qnz:Value→Nat
 | .string s=>s.size
 | _=>0
def Qoa(i:Nat)(v:V4)(s:ByteArray):V4:=(if 0<i then Qns v.1 (rval (s.extract 0 8))else v.1,if 1<i then Qns v.2.1 (rval (s.extract 8 16))else v.2.1,if 2<i then Qns v.2.2.1 (rval (s.extract 16 24))else v.2.2.1,if 3<i then Qns v.2.2.2 (rval (s.extract 24 32))else v.2.2.2)
theorem Qob(s:ByteArray)(hs:s.size≤1000)(W:World):Calls Tryz.prog 107 #[.string s] W fun e w'=>e=.returned (.int .u64 (rval s))∧Drawn0 W w':=Qav.calls _ s _ W (Qnv s hs)
theorem Qoc(x y:Int)(W:World):Calls Tryz.prog 106 #[.int .u64 x,.int .u64 y] W fun e w'=>e=.returned (.int .u64 (Qns x y))∧Drawn0 W w':=Qbe.calls _ x y _ W (Qnt x y)
theorem Qod(x:Int)(n:Nat)(j:Int)(hj:j=(n:Int))(hn:n≤64)(W:World):Calls Tryz.prog 108 #[.int .u64 x,.int .i64 j] W fun e w'=>e=.returned (.int .u64 (Qnq x n))∧Drawn0 W w':=by
 subst hj;exact Qbg.calls _ x n _ W (Qnr x n hn)
theorem Qoe(s:ByteArray)(a b:Nat):(s.extract a b).size≤b-a:=by
 rw[ByteArray.size_extract];omega
theorem Qof(sd:Int)(s0:ByteArray)(w:World)(hs:s0.size≤9223372036854775807) :
  Calls Tryz.prog 105 #[.int .u64 sd,.string s0] w fun e w'=>e=.returned (.tuple #[.int .u64 (rmix (rsum (rrun (s0.size/32) (Qny sd) s0).1) (rrun (s0.size/32) (Qny sd) s0).1),.string (rrun (s0.size/32) (Qny sd) s0).2])∧Below w.heap.size w w':=by
 have hu2:=Tryz.underlying231
 go_enter Tryz.func105,Tryz.ntmps105
 go_wp2_with fail
 obtain⟨g,hg⟩:∃g,g=w.heap.size:=⟨_,rfl⟩;obtain⟨V0,hV0⟩:∃V0,V0=Qny sd:=⟨_,rfl⟩;obtain⟨W,hW⟩:∃W,W=w.alloc (.cells #[.int .u64 (IntKind.u64.wrap (IntKind.u64.wrap (sd+11400714785074694791)+14029467366897019727)),.int .u64 (IntKind.u64.wrap (sd+14029467366897019727)),.int .u64 sd,.int .u64 (IntKind.u64.wrap (sd-11400714785074694791))] 231):=⟨_,rfl⟩;have HV0:=QA (show VAt W g V0 by rw[hW,hg,hV0];exact Qff w _);have HW0:=QA (show Below w.heap.size w W by rw[hW];exact Qdr (Below.refl _ _) _);rw[← hW,← hg];have HG:=QA hg;have HVV:=QA hV0;clear hW hg hV0
 go_loopw [1,9,29] (fun v1 v9 a wr=>∃(m:Nat) (s:ByteArray) (V:V4),v1=.string s∧s.size≤s0.size∧Aside0 (s.size/32=m∧rrun (s0.size/32) V0 s0=rrun m V s)∧Aside0 (VAt wr g V)∧Aside0 (Below w.heap.size w wr))
  (fun v1 _ _ _=>Qnz v1)
 case atStart=>exact⟨_,s0,V0,rfl,Nat.le_refl _,⟨rfl,rfl⟩,HV0,HW0⟩
 case round =>
  clear HV0 HW0;obtain⟨m,s,V,rfl,hss,HM,HV,HB⟩:=hrel
  by_cases k:32≤s.size
  ·have d:(32:Int)≤(s.size:Int):=by omega
   go_wp2_with fail
   go_loopw [9,29] (fun v9 a wi=>∃(i:Nat) (iv:Int),i≤4∧a=.int .i64 iv∧Aside0 (iv=(i:Int))∧Aside0 (VAt wi g (Qoa i V s))∧Aside0 (Below w.heap.size w wi))
    (fun _ a _=>4-(intOf a).toNat)
   case atStart=>exact⟨0,0,by omega,rfl,⟨rfl⟩,HV,HB⟩
   case round =>
    clear HV HB;obtain⟨i,iv,hi,rfl,HI,HV,HB⟩:=hrel
    by_cases h4:i<4
    ·have hk:i=0∨i=1∨i=2∨i=3:=by omega
     rcases hk with rfl|rfl|rfl|rfl
     ·obtain rfl:iv=0:=HI.out;have cv:wr.cell? ⟨g,0,none⟩=some (.int .u64 V.1):=(Qep HV.out 0).trans rfl;have fv:=Qeq HV.out 0
      go_wp2_with fail
      have hw0:IntKind.i64.wrap 0=0:=IntWalk.i64_in 0 (by decide);have hw1:IntKind.i64.wrap 8=8:=IntWalk.i64_in 8 (by decide);have hsz:(8:Int)≤(s.size:Int):=by omega
      have hx:(s.extract 0 8).size≤1000:=Nat.le_trans (Qoe s 0 8) (by decide)
      go_region_with (first |(go_at_call 107;refine(Qob (s.extract 0 8) hx _).mono ?_;rintro e w7 ⟨rfl,hd⟩;obtain⟨q,rfl⟩:=hd.out;clear hd) |(go_at_call 106;refine(Qoc _ _ _).mono ?_;rintro e w8 ⟨rfl,hd⟩;obtain⟨q2,rfl⟩:=hd.out;clear hd))
      all_goals
       go_wp2_with fail
       go_roundw
       case rel=>exact⟨1,1,by omega,by go_num,⟨rfl⟩,⟨Qem (w:=wr.drewN _) HV.out 0 _⟩,⟨Qle (Qdt HB.out _) qq_22⟩⟩
       case measure=>simp[intOf]
     ·obtain rfl:iv=1:=HI.out;have cv:wr.cell? ⟨g,1,none⟩=some (.int .u64 V.2.1):=(Qep HV.out 1).trans rfl;have fv:=Qeq HV.out 1
      go_wp2_with fail
      have hw0:IntKind.i64.wrap 8=8:=IntWalk.i64_in 8 (by decide);have hw1:IntKind.i64.wrap 16=16:=IntWalk.i64_in 16 (by decide);have hsz:(16:Int)≤(s.size:Int):=by omega
      have hx:(s.extract 8 16).size≤1000:=Nat.le_trans (Qoe s 8 16) (by decide)
      go_region_with (first |(go_at_call 107;refine(Qob (s.extract 8 16) hx _).mono ?_;rintro e w7 ⟨rfl,hd⟩;obtain⟨q,rfl⟩:=hd.out;clear hd) |(go_at_call 106;refine(Qoc _ _ _).mono ?_;rintro e w8 ⟨rfl,hd⟩;obtain⟨q2,rfl⟩:=hd.out;clear hd))
      all_goals
       go_wp2_with fail
       go_roundw
       case rel=>exact⟨2,2,by omega,by go_num,⟨rfl⟩,⟨Qem (w:=wr.drewN _) HV.out 1 _⟩,⟨Qle (Qdt HB.out _) qq_22⟩⟩
       case measure=>simp[intOf]
     ·obtain rfl:iv=2:=HI.out;have cv:wr.cell? ⟨g,2,none⟩=some (.int .u64 V.2.2.1):=(Qep HV.out 2).trans rfl;have fv:=Qeq HV.out 2
      go_wp2_with fail
      have hw0:IntKind.i64.wrap 16=16:=IntWalk.i64_in 16 (by decide);have hw1:IntKind.i64.wrap 24=24:=IntWalk.i64_in 24 (by decide);have hsz:(24:Int)≤(s.size:Int):=by omega
      have hx:(s.extract 16 24).size≤1000:=Nat.le_trans (Qoe s 16 24) (by decide)
      go_region_with (first |(go_at_call 107;refine(Qob (s.extract 16 24) hx _).mono ?_;rintro e w7 ⟨rfl,hd⟩;obtain⟨q,rfl⟩:=hd.out;clear hd) |(go_at_call 106;refine(Qoc _ _ _).mono ?_;rintro e w8 ⟨rfl,hd⟩;obtain⟨q2,rfl⟩:=hd.out;clear hd))
      all_goals
       go_wp2_with fail
       go_roundw
       case rel=>exact⟨3,3,by omega,by go_num,⟨rfl⟩,⟨Qem (w:=wr.drewN _) HV.out 2 _⟩,⟨Qle (Qdt HB.out _) qq_22⟩⟩
       case measure=>simp[intOf]
     ·obtain rfl:iv=3:=HI.out;have cv:wr.cell? ⟨g,3,none⟩=some (.int .u64 V.2.2.2):=(Qep HV.out 3).trans rfl;have fv:=Qeq HV.out 3
      go_wp2_with fail
      have hw0:IntKind.i64.wrap 24=24:=IntWalk.i64_in 24 (by decide);have hw1:IntKind.i64.wrap 32=32:=IntWalk.i64_in 32 (by decide);have hsz:(32:Int)≤(s.size:Int):=by omega
      have hx:(s.extract 24 32).size≤1000:=Nat.le_trans (Qoe s 24 32) (by decide)
      go_region_with (first |(go_at_call 107;refine(Qob (s.extract 24 32) hx _).mono ?_;rintro e w7 ⟨rfl,hd⟩;obtain⟨q,rfl⟩:=hd.out;clear hd) |(go_at_call 106;refine(Qoc _ _ _).mono ?_;rintro e w8 ⟨rfl,hd⟩;obtain⟨q2,rfl⟩:=hd.out;clear hd))
      all_goals
       go_wp2_with fail
       go_roundw
       case rel=>exact⟨4,4,by omega,by go_num,⟨rfl⟩,⟨Qem (w:=wr.drewN _) HV.out 3 _⟩,⟨Qle (Qdt HB.out _) qq_22⟩⟩
       case measure=>simp[intOf]
    ·obtain rfl:i=4:=by omega
     obtain rfl:iv=4:=HI.out
     go_wp2_with fail
     go_roundw
     case rel =>
      have e4:Qoa 4 V s=Qnw V s:=rfl;have hm:=HM.out;have hd:(s.extract 32 s.size).size=s.size-32:=by rw[ByteArray.size_extract];omega
      refine⟨m-1,s.extract 32 s.size,Qnw V s,rfl,by rw[hd];omega,⟨by rw[hd];omega,?_⟩,⟨?_⟩,HB⟩
      ·rw[hm.2,show m=(m-1)+1 by omega];rfl
      ·exact HV.out
     case measure=>simp[Qnz];omega
  ·have d:(s.size:Int)<32:=by omega
   go_wp2_with fail
   have c0:wr.cell? ⟨g,0,none⟩=some (.int .u64 V.1):=(Qep HV.out 0).trans rfl;have c1:wr.cell? ⟨g,1,none⟩=some (.int .u64 V.2.1):=(Qep HV.out 1).trans rfl;have c2:wr.cell? ⟨g,2,none⟩=some (.int .u64 V.2.2.1):=(Qep HV.out 2).trans rfl;have c3:wr.cell? ⟨g,3,none⟩=some (.int .u64 V.2.2.2):=(Qep HV.out 3).trans rfl
   go_region_held3 (fun w'=>w'.cell? ⟨g,0,none⟩=some (.int .u64 V.1)∧w'.cell? ⟨g,1,none⟩=some (.int .u64 V.2.1)∧w'.cell? ⟨g,2,none⟩=some (.int .u64 V.2.2.1)∧w'.cell? ⟨g,3,none⟩=some (.int .u64 V.2.2.2)) (go_keep) (first
    |(go_at_call_of 108 (Value.int .i64 1);refine(Qod V.1 1 1 rfl (by decide) _).mono ?_;rintro e w7 ⟨rfl,hd⟩;obtain⟨q1,rfl⟩:=hd.out;clear hd)
    |(go_at_call_of 108 (Value.int .i64 7);refine(Qod V.2.1 7 7 rfl (by decide) _).mono ?_;rintro e w7 ⟨rfl,hd⟩;obtain⟨q2,rfl⟩:=hd.out;clear hd)
    |(go_at_call_of 108 (Value.int .i64 12);refine(Qod V.2.2.1 12 12 rfl (by decide) _).mono ?_;rintro e w7 ⟨rfl,hd⟩;obtain⟨q3,rfl⟩:=hd.out;clear hd)
    |(go_at_call_of 108 (Value.int .i64 18);refine(Qod V.2.2.2 18 18 rfl (by decide) _).mono ?_;rintro e w7 ⟨rfl,hd⟩;obtain⟨q4,rfl⟩:=hd.out;clear hd))
   obtain⟨W2,hW2⟩:∃W2,W2=wr.drewN (1+q1+q2+q3+q4):=⟨_,rfl⟩;have HV2:=QA (show VAt W2 g V by rw[hW2];exact HV.out);have c:=QA (show Below w.heap.size w W2 by rw[hW2];exact Qdt HB.out _);rw[← hW2];clear hW2 c0 c1 c2 c3 HV HB;have hm0:m=0:=by have:=HM.out.1;omega
   go_wp2_with fail
   go_loopw [10,11,64] (fun j l b wi=>∃(i:Nat) (iv h:Int),i≤4∧b=.int .i64 iv∧j=.int .u64 h∧Aside0 (iv=(i:Int))∧Aside0 (h=rmixTo i (rsum V) V)∧Aside0 (VAt wi g V)∧Aside0 (Below w.heap.size w wi))
    (fun _ _ b _=>4-(intOf b).toNat)
   case atStart=>exact⟨0,0,_,by omega,rfl,rfl,⟨rfl⟩,⟨rfl⟩,HV2,c⟩
   case round =>
    clear HV2 c;obtain⟨i,iv,h,hi,rfl,rfl,HI,HH,HV,HB⟩:=hrel
    by_cases h4:i<4
    ·have hk:i=0∨i=1∨i=2∨i=3:=by omega
     rcases hk with rfl|rfl|rfl|rfl
     ·obtain rfl:iv=0:=HI.out;have cv:wr.cell? ⟨g,0,none⟩=some (.int .u64 V.1):=(Qep HV.out 0).trans rfl
      go_wp2_with (go_at_call 106;refine(Qoc _ _ _).mono ?_;rintro e w8 ⟨rfl,hd⟩;obtain⟨q9,rfl⟩:=hd.out;clear hd)
      go_roundw
      case rel=>exact⟨1,1,Qnx h V.1,by omega,by go_num,rfl,⟨rfl⟩,⟨by rw[HH.out];rfl⟩,⟨HV.out⟩,⟨Qdt HB.out _⟩⟩
      case measure=>simp[intOf]
     ·obtain rfl:iv=1:=HI.out;have cv:wr.cell? ⟨g,1,none⟩=some (.int .u64 V.2.1):=(Qep HV.out 1).trans rfl
      go_wp2_with (go_at_call 106;refine(Qoc _ _ _).mono ?_;rintro e w8 ⟨rfl,hd⟩;obtain⟨q9,rfl⟩:=hd.out;clear hd)
      go_roundw
      case rel=>exact⟨2,2,Qnx h V.2.1,by omega,by go_num,rfl,⟨rfl⟩,⟨by rw[HH.out];rfl⟩,⟨HV.out⟩,⟨Qdt HB.out _⟩⟩
      case measure=>simp[intOf]
     ·obtain rfl:iv=2:=HI.out;have cv:wr.cell? ⟨g,2,none⟩=some (.int .u64 V.2.2.1):=(Qep HV.out 2).trans rfl
      go_wp2_with (go_at_call 106;refine(Qoc _ _ _).mono ?_;rintro e w8 ⟨rfl,hd⟩;obtain⟨q9,rfl⟩:=hd.out;clear hd)
      go_roundw
      case rel=>exact⟨3,3,Qnx h V.2.2.1,by omega,by go_num,rfl,⟨rfl⟩,⟨by rw[HH.out];rfl⟩,⟨HV.out⟩,⟨Qdt HB.out _⟩⟩
      case measure=>simp[intOf]
     ·obtain rfl:iv=3:=HI.out;have cv:wr.cell? ⟨g,3,none⟩=some (.int .u64 V.2.2.2):=(Qep HV.out 3).trans rfl
      go_wp2_with (go_at_call 106;refine(Qoc _ _ _).mono ?_;rintro e w8 ⟨rfl,hd⟩;obtain⟨q9,rfl⟩:=hd.out;clear hd)
      go_roundw
      case rel=>exact⟨4,4,Qnx h V.2.2.2,by omega,by go_num,rfl,⟨rfl⟩,⟨by rw[HH.out];rfl⟩,⟨HV.out⟩,⟨Qdt HB.out _⟩⟩
      case measure=>simp[intOf]
    ·obtain rfl:i=4:=by omega
     obtain rfl:iv=4:=HI.out
     go_wp2_with fail
     refine bodyPost_ret (results_tmp2 rfl _ _ _) rfl ?_;refine⟨?_,HB.out⟩;have e5:=HM.out.2;rw[hm0]at e5;have e6:rrun (s0.size/32) (Qny sd) s0=(V,s):=by rw[← HVV.out];exact e5
     rw[e6,HH.out];rfl
theorem Qbd.calls(a0:Int)(a1:ByteArray)(r1:Int)(r2:ByteArray)(w:World)(h:Qbd.f a0 a1=some (r1,r2)) :
  Calls Tryz.prog 105 #[.int .u64 a0,.string a1] w fun e w'=>e=.returned (.tuple #[.int .u64 r1,.string r2])∧Below w.heap.size w w':=by
 unfold Qbd.f at h;split at h
 ·rename_i hs;simp only[Option.some.injEq,Prod.mk.injEq]at h;obtain⟨rfl,rfl⟩:=h;exact Qof a0 a1 w hs
 ·cases h
def IsCur(W:World)(b g:Nat)(bs:List Int)(i:Int):Prop:=∃v,W.heap[g]? = some (.cells #[v,.int .i64 i,.bool true] 264 (0,0))∧R8 W b v bs
def Qpl(g:Nat)(e:Int):PanicEntry:={ v:=.iface 266 (.agg #[.pointer (some ⟨g,0,none⟩),.int .i64 e]),recovered:=false }
theorem IsCur.kept{W W':World}{b g:Nat}{bs:List Int}{i:Int}(h:IsCur W b g bs i)(hb:Below W.heap.size W W'):IsCur W' b g bs i:=by
 obtain⟨v,h1,h2⟩:=h;exact⟨v,Qfe h1 hb,h2.kept hb⟩
theorem IsCur.cells{W:World}{b g:Nat}{bs:List Int}{i:Int}(h:IsCur W b g bs i):∃A c,W.cell? ⟨g,0,none⟩=some (.slice A bs.length c)∧W.cell? ⟨g,1,none⟩=some (.int .i64 i)∧W.cell? ⟨g,2,none⟩=some (.bool true)∧W.frozen? ⟨g,1,none⟩=false∧Kd.C (Kd.int .u8) W A bs.length bs∧bs.length≤c:=by
 obtain⟨v,h1,h2⟩:=h;obtain⟨A,c,rfl⟩:=Kd.R_slice h2;exact⟨A,c,(Qep h1 0).trans rfl,(Qep h1 1).trans rfl,(Qep h1 2).trans rfl,Qeq h1 1,(Kd.R_reads' h2).2.2,(Kd.R_reads' h2).2.1⟩
theorem IsCur.move{W:World}{b g:Nat}{bs:List Int}{i:Int}(h:IsCur W b g bs i)(hbg:b≤g)(j:Int):IsCur (W.setCell ⟨g,1,none⟩ (.int .i64 j)) b g bs j∧Bw b g W (W.setCell ⟨g,1,none⟩ (.int .i64 j)):=by
 obtain⟨v,h1,h2⟩:=h;exact⟨⟨v,Qem h1 1 _,h2.set h1 (by decide) 1 _⟩,Qle (Below.refl _ _) hbg,fun k cs t h3 h4 h5=>Qen h3 h5 _⟩
theorem Qpm(b g:Nat)(bs:List Int)(i:Int)(w:World)(hI:IsCur w b g bs i) :
  Calls Tryz.prog 191 #[.pointer (some ⟨g,0,none⟩)] w fun e w'=>e=.returned (.bool false)∧w'=w:=by
 obtain⟨A,c,h0,h1,h2,h3,h4,h5⟩:=hI.cells;clear hI;have hu:=Tryz.underlying264
 go_enter Tryz.func191,Tryz.ntmps191
 go_wp2;go_ret
 exact⟨rfl,rfl⟩
theorem Qpn(b g:Nat)(bs:List Int)(i er:Int)(he:er≠0)(w:World)(hI:IsCur w b g bs i) :
  Calls Tryz.prog 175 #[.pointer (some ⟨g,0,none⟩),.int .i64 er] w fun e w'=>e=.panicked [Qpl g er]∧w'=w:=by
 have HI:=QA hI;clear hI;have hu:=Tryz.underlying264;have hne:(er != 0)=true:=bne_iff_ne.2 he
 go_enter Tryz.func175,Tryz.ntmps175
 go_wp2_with (go_at_call 191;refine(Qpm b g bs i _ HI.out).mono ?_;rintro ee wa ⟨rfl,rfl⟩)
 exact⟨rfl,rfl,rfl⟩
theorem Qpo(b g:Nat)(bs:List Int)(i n:Int)(hn:n≤0)(w:World)(hI:IsCur w b g bs i) :
  Calls Tryz.prog 193 #[.pointer (some ⟨g,0,none⟩),.int .i64 n] w fun e w'=>e=.returned (.slice none 0 0)∧w'=w:=by
 have HI:=QA hI;clear hI;have hb0:decide (n≤0)=true:=decide_eq_true hn
 go_enter Tryz.func193,Tryz.ntmps193
 go_wp2_with (go_at_call 191;refine(Qpm b g bs i _ HI.out).mono ?_;rintro ee wa ⟨rfl,rfl⟩)
 go_ret
 exact⟨rfl,rfl⟩
def K8(w w':World):Prop:=∀(b:Nat) (v:Value) (ys:List Int),R8 w b v ys→R8 w' b v ys
theorem K8.refl(w:World):K8 w w:=fun _ _ _ h=>h
theorem K8.move{W:World}{b g:Nat}{bs:List Int}{i:Int}(h:IsCur W b g bs i)(j:Int){w':World}(hb:Below W.heap.size (W.setCell ⟨g,1,none⟩ (.int .i64 j)) w'):K8 W w':=by
 intro b' v' ys hR;obtain⟨v,h1,_⟩:=h;exact R8.kept (R8.set hR h1 (by decide) 1 _) (by simpa [World.setCell]using hb)
theorem Qpp(b g:Nat)(bs xs:List Int)(i n:Int)(hxs:xs=(bs.drop i.toNat).take n.toNat)(hn:0<n)(hi:0≤i)(hl:bs.length≤140737488355328)(hs:i+n≤(bs.length:Int))(hbg:b≤g)(w:World)(hbw:b≤w.heap.size)(hI:IsCur w b g bs i) :
  Calls Tryz.prog 193 #[.pointer (some ⟨g,0,none⟩),.int .i64 n] w fun e w'=>∃v,e=.returned v∧R8 w' w.heap.size v xs∧IsCur w' b g bs (i+n)∧Bw b g w w'∧K8 w w':=by
 have HI:=QA hI;obtain⟨A,c,h0,h1,h2,h3,h4,h5⟩:=hI.cells;clear hI h4;have hu:=Tryz.underlying264;have hb0:decide (n≤0)=false:=decide_eq_false (by omega);have hw1:IntKind.i64.wrap ((bs.length:Int)-i)=(bs.length:Int)-i:=IntWalk.i64_in _ (by omega);have hw2:IntKind.i64.wrap (i+n)=i+n:=IntWalk.i64_in _ (by omega);have hw3:IntKind.i64.wrap (i+n-n)=i:=by rw[show i+n-n=i by omega];exact IntWalk.i64_in _ (by omega)
 have hw4:IntKind.i64.wrap i=i:=IntWalk.i64_in _ (by omega);have hb1:decide ((bs.length:Int)-i<n)=false:=decide_eq_false (by omega)
 go_enter Tryz.func193,Tryz.ntmps193
 go_upto_region 3 with(go_at_call 191;refine(Qpm b g bs i _ HI.out).mono ?_;rintro ee wa ⟨rfl,rfl⟩)
 have q0:=Qdv (Qds (Below.refl _ _)) h0;have q1:=Qdv (Qds (Below.refl _ _)) h1;have q3:wa.drew.frozen? ⟨g,1,none⟩=false:=h3;clear h0 h1 h2 h3;have HI1:=QA (HI.out.kept (Qds (Below.refl _ _)))
 go_region
 go_upto_region 6 with fail
 clear HI1 q0 q1 q3;obtain⟨m1,m2⟩:=HI.out.move hbg (i+n);have M1:=QA (m1.kept (Qds (Below.refl _ _)));have M2:=QA (m2.trans (Bw.below (Qds (Below.refl _ _)) (Nat.le_trans hbw m2.size)));clear m1 m2;obtain⟨W2,hW2⟩:∃W2,W2=(wa.setCell ⟨g,1,none⟩ (.int .i64 (i+n))).drew:=⟨_,rfl⟩;have hk8:Below wa.heap.size (wa.setCell ⟨g,1,none⟩ (.int .i64 (i+n))) W2:=by rw[hW2];exact Qds (Below.refl _ _)
 have HK8:=QA (fun w' (hb:Below W2.heap.size W2 w')=>K8.move HI.out (i+n) (hk8.trans (Qlf hb (by have:=hk8.size;simpa [World.setCell]using this))));clear hk8;rw[← hW2]at M1 M2 ⊢;obtain⟨A2,c2,r0,r1,r2,r3,r4,r5⟩:=M1.out.cells;clear hW2 r2 r3;have hmid:(bs.take (i+n).toNat).drop i.toNat=xs:=by rw[hxs,List.drop_take,show(i+n).toNat-i.toNat=n.toNat by omega]
 have hxl:xs.length=n.toNat:=by rw[hxs,List.length_take,List.length_drop];omega
 obtain⟨i0,hii,_,hsz,_⟩:=info_parts Qkd;have hcut:=cut_mid (P:=Tryz.prog) 52 5 .i64 .i64 Tryz.underlying52 hii 1 hsz A2 bs.length c2 i (i+n) hi (by omega) (by omega) r5;have hC:=Kd.C_mid (lo:=i.toNat) (hi:=(i+n).toNat) r4 (by omega) (by omega) r5;rw[hmid]at hC;obtain⟨A3,hA3⟩:∃A3,A3=(if c2=i.toNat then A2 else A2.map (·.add (i.toNat*1))):=⟨_,rfl⟩;obtain⟨c3,hc3⟩:∃c3,c3=c2-i.toNat:=⟨_,rfl⟩;rw[← hA3,← hc3,show(i+n).toNat-i.toNat=xs.length by omega]at hcut;have hC3:Kd.C (Kd.int .u8) W2 A3 xs.length xs:=by rw[hA3];exact hC
 have d:=QA hC3;have hxl2:xs.length≤140737488355328:=by omega
 obtain⟨j,hj⟩:∃j,j=i+n:=⟨_,rfl⟩;have hw5:IntKind.i64.wrap (j-n)=i:=by rw[hj];exact hw3
 rw[← hj]at hcut r1 M1 ⊢;have HJ:=QA hj;clear hj hC hC3 hA3 hmid r4 hc3 r5 hxs hxl;refine Qhk (n:=17) (S:=fun w'=>w'.cell? ⟨g,0,none⟩=some (.slice A2 bs.length c2)∧w'.cell? ⟨g,1,none⟩=some (.int .i64 j)) (ds:=[]) (bm 17 0) qq_6 rfl rfl ⟨(Qdv (Qds (Below.refl _ _)) r0),(Qdv (Qds (Below.refl _ _)) r1)⟩ (fun a=>?_);refine pz_ (i:=0) (N:=some 33) (bm 17 1) qq_6 ?_;refine pz_ (i:=1) (N:=some 34) (bm 17 3) qq_6 ?_;refine pz_ (i:=2) (N:=some 35) (bm 17 7) qq_6 ?_;refine pz_ (i:=4) (N:=some 37) (bm 17 23) qq_6 ?_;refine pz_ (i:=5) (N:=some 38) (bm 17 55) qq_6 ?_;refine pz_ (i:=6) (N:=some 39) (bm 17 119) qq_6 ?_;refine pz_ (i:=8) (N:=some 41) (bm 17 375) qq_6 ?_;refine pz_ (i:=10) (N:=some 43) (bm 17 1399) qq_6 ?_;refine pz_ (i:=11) (N:=some 44) (bm 17 3447) qq_6 ?_;refine pz_ (i:=12) (N:=some 45) (bm 17 7543) qq_6 ?_;refine tz_ (i:=3) (N:=some 36) (bm 17 7551) qq_6 a ?_;refine tz_ (i:=7) (N:=some 40) (bm 17 7679) qq_6 a ?_;refine pz_ (i:=9) (N:=some 42) (bm 17 8191) qq_6 ?_;refine tz_ (i:=13) (N:=some 46) (bm 17 16383) qq_6 a ?_;refine pz_ (i:=14) (N:=some 47) (bm 17 32767) qq_6 ?_;refine one_ (i:=15) (N:=some 48) (bm 17 65535) rfl rfl qq_6 (by decide) (fun K hK=>?_);refine Qht Tryz.func70 qq_6 rfl #[.slice A3 xs.length c3] (by rfl) rfl rfl qq_11 ?_;with_reducible refine(Qlg A3 c3 xs _ (Kd.C_below d.out (Qds (Below.refl _ _))) hxl2).mono ?_
 rintro ee w3 ⟨v,rfl,hR,hb⟩;refine⟨_,rfl,?_⟩;refine hK.out _ _ ⟨(Qdv hb a.1),(Qdv hb a.2)⟩ (fun a=>?_);clear hK K;refine nzp_ 48 ?_;refine pz_ (i:=16) (N:=some 4) (bm 17 131071) qq_6 ?_;refine Qhn qq_6 ?_;go_wp2;go_ret
 have hb2:Below W2.heap.size W2 w3:=(Qds (Below.refl _ _)).trans hb;exact⟨v,rfl,R8.low hR (show wa.heap.size≤W2.drew.heap.size from M2.out.size),HJ.out ▸ M1.out.kept hb2,M2.out.trans (Bw.below hb2 (Nat.le_trans hbw M2.out.size)),HK8.out _ hb2⟩
theorem Qpq(b g:Nat)(bs xs:List Int)(i n:Int)(hxs:xs=(bs.drop i.toNat).take n.toNat)(hn:0≤n)(hi:0≤i)(hl:bs.length≤140737488355328)(hs:i+n≤(bs.length:Int))(hbg:b≤g)(w:World)(hbw:b≤w.heap.size)(hI:IsCur w b g bs i) :
  Calls Tryz.prog 193 #[.pointer (some ⟨g,0,none⟩),.int .i64 n] w fun e w'=>∃v,e=.returned v∧R8 w' w.heap.size v xs∧IsCur w' b g bs (i+n)∧Bw b g w w'∧K8 w w':=by
 rcases Int.lt_or_le 0 n with h|h
 ·exact Qpp b g bs xs i n hxs h hi hl hs hbg w hbw hI
 ·obtain rfl:n=0:=by omega
  refine(Qpo b g bs i 0 h w hI).mono ?_;rintro e w' ⟨rfl,rfl⟩;have hx:xs=[]:=by rw[hxs];simp
  rw[hx,Int.add_zero];exact⟨_,rfl,Kd.R_nil _ _ _ _ _,hI,Bw.refl _ _ _,K8.refl _⟩
theorem Qpr(k b g:Nat)(bs xs:List Int)(i n x:Int)(hxs:xs=(bs.drop i.toNat).take n.toNat)(hn:0<n)(hi:0≤i)(hl:bs.length≤140737488355328)(hs:i+n≤(bs.length:Int))(hbg:b≤g)(m:xs.length≤8)
  (h:Qdp.l0 k xs 0 (xs.length:Int) 0=some x) (w:World) (hbw:b≤w.heap.size) (hI:IsCur w b g bs i) :
  Calls Tryz.prog 219 #[.pointer (some ⟨g,0,none⟩),.int .i64 n] w fun e w'=>e=.returned (.int .u64 x)∧IsCur w' b g bs (i+n)∧Bw b g w w'∧K8 w w':=by
 have HI:=QA hI;have H0:=QA h;have HX:=QA hxs;clear hI h hxs
 go_enter Tryz.func219,Tryz.ntmps219
 go_wp2_with (go_at_call 193;refine(Qpp b g bs xs i n HX.out hn hi hl hs hbg _ hbw HI.out).mono ?_;rintro ee w1 ⟨v,rfl,hR,hI1,hB1,hK1⟩;(have HK1:=QA hK1;clear hK1;obtain⟨A,c,hv⟩:=Kd.R_slice hR;subst hv;have HI1:=QA hI1;have d:=QA hB1;have j:=QA (Kd.R_reads' hR).2.2;clear hI1 hB1 hR))
 go_loopw [5,12] (fun v5 a wr=>∃(x5 x8:Int) (gk:Nat),v5=.int .u64 x5∧a=.int .i64 x8∧Aside0 (Qdp.l0 gk xs x5 (xs.length:Int) x8=some x)∧Aside0 (0≤x8∧x8≤(xs.length:Int))∧wr=w1)
  (fun _ a _=>xs.length-(intOf a).toNat)
 case atStart=>exact⟨0,0,k,rfl,rfl,H0,⟨by omega⟩,rfl⟩
 case round =>
  obtain⟨x5,x8,gk,rfl,rfl,HA,HK,rfl⟩:=hrel
  cases gk with
  | zero=>exact absurd HA.out (by simp[Qdp.l0])
  | succ k1 =>
   have H:=HA.out;clear HA;simp only[Qdp.l0]at H;have p0:0≤x8:=HK.out.1
   by_cases c3:x8<(xs.length:Int)
   ·have hw8:IntKind.i64.wrap (8*x8)=8*x8:=IntWalk.i64_in _ (by omega);have hw9:wrap64 (8*x8)=8*x8:=by unfold wrap64;omega
    have hw1:IntKind.i64.wrap (x8+1)=x8+1:=IntWalk.i64_in _ (by omega);have hw2:wrap64 (x8+1)=x8+1:=by unfold wrap64;omega
    rw[if_pos c3,if_pos p0,if_pos c3,hw9,if_pos (by omega),hw2]at H;have l:decide (x8<(xs.length:Int))=true:=decide_eq_true c3;obtain⟨j6,hj6⟩:∃j6:Int,8*x8=j6:=⟨_,rfl⟩;rw[hj6]at hw8 H;have hj60:0≤j6:=by omega
    obtain⟨j8,hj8⟩:∃j8:Int,(shl .u64 (IntKind.u64.wrap (YtnnofopfbeklbaaGreatW.PrintWords.rd xs x8)) j6)=j8:=⟨_,rfl⟩;rw[hj8]at H;have hj8_:(IntKind.u64.wrap ((IntKind.u64.wrap (YtnnofopfbeklbaaGreatW.PrintWords.rd xs x8))*2^min j6.toNat 64))=j8:=hj8;have hj8z:j6≤64→(IntKind.u64.wrap ((IntKind.u64.wrap (YtnnofopfbeklbaaGreatW.PrintWords.rd xs x8))*2^j6.toNat))=j8:=Qjw hj8;have H':=QA H;have HJ:=QA hj6;have HLT:=QA c3;obtain⟨ad,e1,o⟩:=Kd.at_int j.out x8 p0 c3;subst e1;have hw8':IntKind.i64.wrap (8*x8)=j6:=by rw[hj6];exact hw8
    clear H hj6 hj8 hw9 hw2 hw8;go_wp2
    go_roundw
    case rel=>exact⟨_,x8+1,k1,rfl,rfl,H',⟨by have:=HLT.out;have:=HK.out;omega⟩,trivial⟩
    case measure=>have h1:=HLT.out;have h2:=HK.out;simp[intOf];omega
   ·have l:decide (x8<(xs.length:Int))=false:=decide_eq_false c3;rw[if_neg c3]at H;obtain rfl:=Option.some.inj H;go_wp2;go_ret
    exact⟨rfl,HI1.out,d.out,HK1.out⟩
theorem Qps(b g:Nat)(bs:List Int)(i:Int)(hi:0≤i∧i≤bs.length)(hl:bs.length≤140737488355328)(w:World)(hI:IsCur w b g bs i) :
  Calls Tryz.prog 139 #[.pointer (some ⟨g,0,none⟩)] w fun e w'=>e=.returned (.int .i64 ((bs.length:Int)-i))∧Below w.heap.size w w':=by
 have HI:=QA hI;obtain⟨A,c,h0,h1,h2,h3,h4,h5⟩:=hI.cells;clear hI h4;have hu:=Tryz.underlying264;have hw1:IntKind.i64.wrap ((bs.length:Int)-i)=(bs.length:Int)-i:=IntWalk.i64_in _ (by omega)
 go_enter Tryz.func139,Tryz.ntmps139
 go_upto_region 3 with(go_at_call 191;refine(Qpm b g bs i _ HI.out).mono ?_;rintro ee wa ⟨rfl,rfl⟩)
 have q0:=Qdv (Qds (Below.refl _ _)) h0;have q1:=Qdv (Qds (Below.refl _ _)) h1
 go_region
 go_wp2;go_ret
 exact⟨rfl,Qds (Below.refl _ _)⟩
theorem Qpt{P:Program}{tp te:TypeId}{j:TypeInfo}(a:Addr)(hp:P.underlying tp=some (.pointer te))(hte:P.info? te=some j)(w:World) :
  (binOp .neq tp (.pointer (some a)) (.pointer (some a))).run P w=.ok (.bool false) w:=by
 have h:∀d:Nat,(Op.equalIn (d+1) tp (.pointer (some a)) (.pointer (some a))).run P w=.ok true w:=fun d=>by simp[Op.equalIn,run_underlying hp,sizeOf,typeInfo,hte,run_sameAddr_same]
 simp only[binOp];simp[Op.equal,Op.maxDepth,h 9999]
theorem Qpu{P:Program}{Q:Exit→Act→List Frame→World→Prop}{o:Oper}{id:Nat}{a:Act}{cs:List Frame}{w:World}(hw:Region.wanted o (yielded #[o] a.tmps)=true)(hr:(execOp a.eval o).run P w=.ok .recover w)
  (hc:recoverD cs=none) (h:Q .normal (a.put o.dst .nilIface) cs w):(Code.region id #[o] false).wpS P Q a cs w:=by
 apply wpS_region;show wpOpsS P #[o] Q [0] a cs w;simp only[wpOpsS];show(if Region.wanted o (yielded #[o] a.tmps)=true then _ else _);rw[if_pos hw];simp only[List.getElem_toArray,List.getElem_cons_zero,hr,hc];exact h
theorem Qpv{P:Program}{Q:Exit→Act→List Frame→World→Prop}{o:Oper}{id:Nat}{a:Act}{cs cs':List Frame}{v:Value}{w:World}(hw:Region.wanted o (yielded #[o] a.tmps)=true)(hr:(execOp a.eval o).run P w=.ok .recover w)
  (hc:recoverD cs=some (v,cs')) (h:Q .normal (a.put o.dst v) cs' w):(Code.region id #[o] false).wpS P Q a cs w:=by
 apply wpS_region;show wpOpsS P #[o] Q [0] a cs w;simp only[wpOpsS];show(if Region.wanted o (yielded #[o] a.tmps)=true then _ else _);rw[if_pos hw];simp only[List.getElem_toArray,List.getElem_cons_zero,hr,hc];exact h
theorem Qpw(g ba be bc:Nat)(i x:Int)(v:Value)(w:World)(h0:w.heap[bc]? = some (.cells #[.pointer (some ⟨g,0,none⟩)] 204 (0,0)))
  (h1:w.heap[g]? = some (.cells #[v,.int .i64 i,.bool true] 264 (0,0))) (h2:w.heap[ba]? = some (.cells #[.int .i64 x] 3 (0,0))) :
  CallsD Tryz.prog 190 #[.pointer (some ⟨bc,0,none⟩),.pointer (some ⟨ba,0,none⟩),.pointer (some ⟨be,0,none⟩)] .returning w fun e u' w' =>
   e=.returned (.tuple #[])∧u'=.returning∧w'=(w.setCell ⟨g,2,none⟩ (.bool false)).setCell ⟨ba,0,none⟩ (.int .i64 i):=by
 have hu:=Tryz.underlying264;have n1:bc≠g:=Qes h0 h1 (by decide);have n2:ba≠g:=Qes h2 h1 (by decide);have c0:w.cell? ⟨bc,0,none⟩=some (.pointer (some ⟨g,0,none⟩)):=(Qep h0 0).trans rfl;have c1:w.frozen? ⟨g,2,none⟩=false:=Qeq h1 2;have c2:w.cell? ⟨g,2,none⟩=some (.bool true):=(Qep h1 2).trans rfl;have k0:=Qen h0 (p:=⟨g,2,none⟩) n1 (.bool false);have k1:=Qem h1 2 (.bool false);have k2:=Qen h2 (p:=⟨g,2,none⟩) n2 (.bool false);obtain⟨W1,hW1⟩:∃W1,W1=w.setCell ⟨g,2,none⟩ (.bool false):=⟨_,rfl⟩;rw[← hW1]at k0 k1 k2 ⊢;refine callsD_of_wpS Tryz.func190 rfl fun c₀ cs hm=>?_
 simp only[Tryz.ntmps190,List.size_toArray,List.length_cons,List.length_nil,Nat.reduceAdd,Nat.reduceSub,Array.replicate_succ,Array.replicate_zero,List.push_toArray,List.append_toArray,List.nil_append,List.cons_append];apply wpS_seq;refine wpS_of_wp ?_;go_wp2;simp only[Exit.thenS];rw[← hW1];have d0:W1.cell? ⟨bc,0,none⟩=some (.pointer (some ⟨g,0,none⟩)):=(Qep k0 0).trans rfl;have d1:W1.cell? ⟨g,1,none⟩=some (.int .i64 i):=(Qep k1 1).trans rfl;have d2:W1.frozen? ⟨ba,0,none⟩=false:=Qeq k2 0;have d3:W1.cell? ⟨ba,0,none⟩=some (.int .i64 x):=(Qep k2 0).trans rfl;clear c0 c1 c2 hW1 h0 h1 h2;apply wpS_seq;refine wpS_of_wp ?_;go_wp2;simp only[Exit.thenS];apply wpS_seq;refine Qpu rfl ?_ ?_ ?_
 ·go_simp
 ·simp[recoverD,hm]
 simp only[Exit.thenS,Act.put,List.setIfInBounds_toArray,List.set_cons_zero,List.set_cons_succ];refine wpS_of_wp ?_;go_wp2;refine⟨rfl,.returning,?_,_,results_none rfl _ _ _,rfl,rfl,rfl⟩
 cases c₀
 simp_all
theorem Qpx(g ba be bc:Nat)(i x y er:Int)(v:Value)(w:World)(h0:w.heap[bc]? = some (.cells #[.pointer (some ⟨g,0,none⟩)] 204 (0,0)))
  (h1:w.heap[g]? = some (.cells #[v,.int .i64 i,.bool true] 264 (0,0))) (h2:w.heap[ba]? = some (.cells #[.int .i64 x] 3 (0,0))) (h3:w.heap[be]? = some (.cells #[.int .i64 y] 30 (0,0))) :
  CallsD Tryz.prog 190 #[.pointer (some ⟨bc,0,none⟩),.pointer (some ⟨ba,0,none⟩),.pointer (some ⟨be,0,none⟩)] (.panicking [Qpl g er]) w fun e u' w' =>
   e=.returned (.tuple #[])∧u'=.panicking [{ Qpl g er with recovered:=true }]∧w'=((((w.setCell ⟨g,2,none⟩ (.bool false)).setCell ⟨ba,0,none⟩ (.int .i64 i)).alloc (.cells #[.pointer (some ⟨g,0,none⟩),.int .i64 er] 266)).setCell ⟨be,0,none⟩ (.int .i64 er)):=by
 have hu:=Tryz.underlying264;have hu2:=Tryz.underlying266;have hu3:=Tryz.underlying204;have n1:bc≠g:=Qes h0 h1 (by decide);have n2:ba≠g:=Qes h2 h1 (by decide);have n3:be≠g:=Qes h3 h1 (by decide);have n4:bc≠ba:=Qes h0 h2 (by decide);have n5:be≠ba:=Qes h3 h2 (by decide);have c0:w.cell? ⟨bc,0,none⟩=some (.pointer (some ⟨g,0,none⟩)):=(Qep h0 0).trans rfl;have c1:w.frozen? ⟨g,2,none⟩=false:=Qeq h1 2;have c2:w.cell? ⟨g,2,none⟩=some (.bool true):=(Qep h1 2).trans rfl;have k0:=Qen h0 (p:=⟨g,2,none⟩) n1 (.bool false);have k1:=Qem h1 2 (.bool false);have k2:=Qen h2 (p:=⟨g,2,none⟩) n2 (.bool false);have k3:=Qen h3 (p:=⟨g,2,none⟩) n3 (.bool false);obtain⟨W1,hW1⟩:∃W1,W1=w.setCell ⟨g,2,none⟩ (.bool false):=⟨_,rfl⟩;rw[← hW1]at k0 k1 k2 k3 ⊢;have m0:=Qen k0 (p:=⟨ba,0,none⟩) n4 (.int .i64 i);have m3:=Qen k3 (p:=⟨ba,0,none⟩) n5 (.int .i64 i);obtain⟨W2,hW2⟩:∃W2,W2=W1.setCell ⟨ba,0,none⟩ (.int .i64 i):=⟨_,rfl⟩;rw[← hW2]at m0 m3 ⊢;obtain⟨j9,hj9⟩:∃j,Tryz.prog.info? 264=some j:=Option.isSome_iff_exists.1 qq_6;have hnp:∀W:World,(binOp .neq 204 (.pointer (some ⟨g,0,none⟩)) (.pointer (some ⟨g,0,none⟩))).run Tryz.prog W=.ok (.bool false) W:=fun W=>Qpt ⟨g,0,none⟩ hu3 hj9 W
 clear hj9;have hta:∀W:World,(Instr.typeAssert (.iface 266 (.agg #[.pointer (some ⟨g,0,none⟩),.int .i64 er])) 20 266 true).run Tryz.prog W=.ok (.tuple #[.agg #[.pointer (some ⟨g,0,none⟩),.int .i64 er],.bool true]) W:=fun W=>by kernel_rfl
 refine callsD_of_wpS Tryz.func190 rfl fun c₀ cs hm=>?_
 simp only[Tryz.ntmps190,List.size_toArray,List.length_cons,List.length_nil,Nat.reduceAdd,Nat.reduceSub,Array.replicate_succ,Array.replicate_zero,List.push_toArray,List.append_toArray,List.nil_append,List.cons_append];apply wpS_seq;refine wpS_of_wp ?_;go_wp2;simp only[Exit.thenS];rw[← hW1];have d0:W1.cell? ⟨bc,0,none⟩=some (.pointer (some ⟨g,0,none⟩)):=(Qep k0 0).trans rfl;have d1:W1.cell? ⟨g,1,none⟩=some (.int .i64 i):=(Qep k1 1).trans rfl;have d2:W1.frozen? ⟨ba,0,none⟩=false:=Qeq k2 0;have d3:W1.cell? ⟨ba,0,none⟩=some (.int .i64 x):=(Qep k2 0).trans rfl;clear c0 c1 c2 hW1 h0 h1 h2 h3;apply wpS_seq;refine wpS_of_wp ?_;go_wp2;simp only[Exit.thenS];rw[← hW2];have o0:W2.cell? ⟨bc,0,none⟩=some (.pointer (some ⟨g,0,none⟩)):=(Qep m0 0).trans rfl;have s0:=Qfb m0 (.cells #[.pointer (some ⟨g,0,none⟩),.int .i64 er] 266);have s3:=Qfb m3 (.cells #[.pointer (some ⟨g,0,none⟩),.int .i64 er] 266);have s4:=Qff W2 (.cells #[.pointer (some ⟨g,0,none⟩),.int .i64 er] 266);have p0:(W2.alloc (.cells #[.pointer (some ⟨g,0,none⟩),.int .i64 er] 266)).cell? ⟨bc,0,none⟩=some (.pointer (some ⟨g,0,none⟩)):=(Qep s0 0).trans rfl;have p1:(W2.alloc (.cells #[.pointer (some ⟨g,0,none⟩),.int .i64 er] 266)).cell? ⟨be,0,none⟩=some (.int .i64 y):=(Qep s3 0).trans rfl;have p2:(W2.alloc (.cells #[.pointer (some ⟨g,0,none⟩),.int .i64 er] 266)).frozen? ⟨be,0,none⟩=false:=Qeq s3 0;have p3:(W2.alloc (.cells #[.pointer (some ⟨g,0,none⟩),.int .i64 er] 266)).cell? ⟨W2.heap.size,0,none⟩=some (.pointer (some ⟨g,0,none⟩)):=(Qep s4 0).trans rfl;have p4:(W2.alloc (.cells #[.pointer (some ⟨g,0,none⟩),.int .i64 er] 266)).cell? ⟨W2.heap.size,1,none⟩=some (.int .i64 er):=(Qep s4 1).trans rfl;clear d0 d1 d2 d3 hW2 s0 s3 s4;apply wpS_seq;refine Qpv (v:=.iface 266 (.agg #[.pointer (some ⟨g,0,none⟩),.int .i64 er])) (cs':={ c₀ with mode:=.panicking [{ Qpl g er with recovered:=true }] } :: cs) rfl ?_ ?_ ?_
 ·go_simp
 ·simp[recoverD,hm,Qpl]
 simp only[Exit.thenS,Act.put,List.setIfInBounds_toArray,List.set_cons_zero,List.set_cons_succ];refine wpS_of_wp ?_;go_wp2;refine⟨rfl,_,rfl,_,results_none rfl _ _ _,rfl,rfl,rfl⟩
def Tl(lo g:Nat)(w w':World):Prop:=∀k cs t,lo≤k→w.heap[k]? = some (.cells cs t (0,0))→t≠5→k≠g→w'.heap[k]? = some (.cells cs t (0,0))
def Ty(W W':World):Prop:=∀(k:Nat) (cs:Array Value) (t:TypeId),W.heap[k]? = some (.cells cs t (0,0))→t≠3→t≠30→t≠264→W'.heap[k]? = some (.cells cs t (0,0))
theorem Ty.set{W W1:World}(h:Ty W W1){p:Addr}{cs:Array Value}{t:TypeId}(hp:W1.heap[p.block]? = some (.cells cs t (0,0)))(ht:t=3∨t=30∨t=264)(u:Value):Ty W (W1.setCell p u):=fun k cs' t' h1 h2 h3 h4 =>
 Qen (h k cs' t' h1 h2 h3 h4) (p:=p) (Qes (h k cs' t' h1 h2 h3 h4) hp (by rcases ht with rfl|rfl|rfl;exact h2;exact h3;exact h4)) u
theorem Ty.refl(W:World):Ty W W:=fun _ _ _ h _ _ _=>h
theorem Ty.alloc{W W1:World}(h:Ty W W1)(o:Obj):Ty W (W1.alloc o):=fun k cs t h1 h2 h3 h4=>Qfb (h k cs t h1 h2 h3 h4) o
theorem Qpy(tmps:Array Value)(W:World)(ba be:Nat)(i er:Int)(h4:tmps[4]? = some (.pointer (some ⟨ba,0,none⟩)))(h5:tmps[5]? = some (.pointer (some ⟨be,0,none⟩)))
  (c4:W.heap[ba]? = some (.cells #[.int .i64 i] 3 (0,0))) (c5:W.heap[be]? = some (.cells #[.int .i64 er] 30 (0,0))) :
  (results Tryz.f137 tmps).run Tryz.prog W=.ok (.tuple #[.int .i64 i,.int .i64 er]) W:=by
 have hr:Tryz.f137.results=#[.cell 4 3,.cell 5 30]:=rfl;have d4:W.cell? ⟨ba,0,none⟩=some (.int .i64 i):=(Qep c4 0).trans rfl;have d5:W.cell? ⟨be,0,none⟩=some (.int .i64 er):=(Qep c5 0).trans rfl;have hu1:=Tryz.underlying3;have hu2:=Tryz.underlying30;simp[results,hr,h4,h5,go_sem,loadVar,d4,d5,c4,c5]
theorem Qpz(F:Nat)(cap:Array Value)(A0:Option Addr)(c0:Nat)(l0:List Int)(w:World)(hr0:Kd.C (Kd.int .u8) w A0 l0.length l0)(hl:l0.length≤140737488355328)
  (hcf:∀(as_:Array Value) (W:World),(callFunc F as_).run Tryz.prog W=.ok (.enter F as_) W)
  (Post:Int→Int→World→Prop) (hst:∀er i W W',Post er i W→Below w.heap.size W W'→Ty W W'→Post er i W')
  (hrd:∀(W:World) (g:Nat),w.heap.size≤g→Below w.heap.size w W→IsCur W w.heap.size g l0 0→Calls Tryz.prog F (#[.pointer (some ⟨g,0,none⟩)]++cap) W fun e W'=>∃i,IsCur W' w.heap.size g l0 i∧Tl w.heap.size g W W' ∧
   ((e=.returned (.tuple #[])∧Post 0 i W')∨∃er,e=.panicked [Qpl g er]∧Post er i W')) :
  Calls Tryz.prog 137 #[.slice A0 l0.length c0,.func (.func F) #[] cap] w fun e w'=>∃er i,e=.returned (.tuple #[.int .i64 i,.int .i64 er])∧Post er i w':=by
 have hu:=Tryz.underlying264;have a:=QA hr0;have HRD:=QA @hrd;have HST:=QA @hst;have hmf:∀(fn:Fn) (first cap:Array Value) (w:World),(Instr.makeFunc fn first cap).run Tryz.prog w=.ok (.func fn first cap) w:=fun _ _ _ _=>rfl
 have hnil:∀W:World,(binOp .eql 209 (.func (.func F) #[] cap) .nilFunc).run Tryz.prog W=.ok (.bool false) W:=fun W=>by kernel_rfl
 clear hr0 hrd hst
 go_enter_defers Tryz.func137,Tryz.ntmps137
 go_upto_region 5 with(go_at_call 70;refine(Qlg A0 c0 l0 _ (Kd.C_below a.out (Qdr (Qdr (Below.refl _ _) _) _)) hl).mono ?_;rintro ee w3 ⟨vb,rfl,hR,hb⟩;obtain⟨A,c,hv⟩:=Kd.R_slice hR;subst hv)
 have b0:Below w.heap.size w ((w.alloc (.cells #[.int .i64 0] 3)).alloc (.cells #[.int .i64 0] 30)):=Qdr (Qdr (Below.refl _ _) _) _;have e0:((w.alloc (.cells #[.int .i64 0] 3)).alloc (.cells #[.int .i64 0] 30)).heap.size=w.heap.size+2:=by simp[World.size_alloc]
 have ka:=Qfe (Qfb (Qff w (.cells #[.int .i64 0] 3)) (.cells #[.int .i64 0] 30)) hb;have ke:=Qfe (Qff (w.alloc (.cells #[.int .i64 0] 3)) (.cells #[.int .i64 0] 30)) hb;rw[World.size_alloc]at ke;have b3:Below w.heap.size w w3:=b0.trans (Qlf hb b0.size);have hs3:w.heap.size+2≤w3.heap.size:=by have:=hb.size;omega
 have kc:=Qfb (Qff w3 (.cells #[.slice A l0.length c,.int .i64 0,.bool true] 264)) (.cells #[.pointer (some ⟨w3.heap.size,0,none⟩)] 204);have kp:=Qff (w3.alloc (.cells #[.slice A l0.length c,.int .i64 0,.bool true] 264)) (.cells #[.pointer (some ⟨w3.heap.size,0,none⟩)] 204);rw[World.size_alloc]at kp;have ka5:=Qfb (Qfb ka (.cells #[.slice A l0.length c,.int .i64 0,.bool true] 264)) (.cells #[.pointer (some ⟨w3.heap.size,0,none⟩)] 204);have ke5:=Qfb (Qfb ke (.cells #[.slice A l0.length c,.int .i64 0,.bool true] 264)) (.cells #[.pointer (some ⟨w3.heap.size,0,none⟩)] 204);have b5:Below w.heap.size w ((w3.alloc (.cells #[.slice A l0.length c,.int .i64 0,.bool true] 264)).alloc (.cells #[.pointer (some ⟨w3.heap.size,0,none⟩)] 204)):=b3.trans (Qlf (Qdr (Qdr (Below.refl _ _) _) _) b3.size);have hI5:IsCur ((w3.alloc (.cells #[.slice A l0.length c,.int .i64 0,.bool true] 264)).alloc (.cells #[.pointer (some ⟨w3.heap.size,0,none⟩)] 204)) w.heap.size w3.heap.size l0 0:=⟨_,kc,R8.low (R8.kept (R8.kept hR (Qdr (Below.refl _ _) _)) (Qdr (Below.refl _ _) _)) (by rw[e0];omega)⟩;generalize hW5:((w3.alloc (.cells #[.slice A l0.length c,.int .i64 0,.bool true] 264)).alloc (.cells #[.pointer (some ⟨w3.heap.size,0,none⟩)] 204))=W5 at *;have HI5:=QA hI5;have b:=QA b5;have p0:W5.cell? ⟨w3.heap.size+1,0,none⟩=some (.pointer (some ⟨w3.heap.size,0,none⟩)):=(Qep kp 0).trans rfl;clear hI5 b5 hW5 ka ke b0 e0 hb hR;have ha2:w.heap.size≠w3.heap.size:=by omega
 have he2:w.heap.size+1≠w3.heap.size:=by omega
 have hea:w.heap.size+1≠w.heap.size:=by omega
 have hcg:w3.heap.size+1≠w3.heap.size:=by omega
 go_wp2_with (refine(HRD.out W5 w3.heap.size (by omega) b.out HI5.out).mono ?_;rintro ee w6 ⟨i,hI6,hT6,⟨rfl,hp6⟩ |⟨er,rfl,hp6⟩⟩<;>(obtain⟨v6,kg6,hR6⟩:=hI6;have ka6:=hT6 _ _ _ (by omega) ka5 (by decide) ha2;have ke6:=hT6 _ _ _ (by omega) ke5 (by decide) he2;have kp6:=hT6 _ _ _ (by omega) kp (by decide) hcg;have q0:w6.cell? ⟨w3.heap.size+1,0,none⟩=some (.pointer (some ⟨w3.heap.size,0,none⟩)):=(Qep kp6 0).trans rfl;have q1:w6.cell? ⟨w3.heap.size,1,none⟩=some (.int .i64 i):=(Qep kg6 1).trans rfl;have q2:w6.frozen? ⟨w.heap.size,0,none⟩=false:=Qeq ka6 0;have q3:w6.cell? ⟨w.heap.size,0,none⟩=some (.int .i64 0):=(Qep ka6 0).trans rfl;have ke7:=Qen ke6 (p:=⟨w.heap.size,0,none⟩) hea (.int .i64 i);have q4:(w6.setCell ⟨w.heap.size,0,none⟩ (.int .i64 i)).frozen? ⟨w.heap.size+1,0,none⟩=false:=Qeq ke7 0;have q5:(w6.setCell ⟨w.heap.size,0,none⟩ (.int .i64 i)).cell? ⟨w.heap.size+1,0,none⟩=some (.int .i64 0):=(Qep ke7 0).trans rfl))
 ·have bc8:=Qen (Qen kp6 (p:=⟨w.heap.size,0,none⟩) (show w3.heap.size+1≠w.heap.size by omega) (.int .i64 i)) (p:=⟨w.heap.size+1,0,none⟩) (show w3.heap.size+1≠w.heap.size+1 by omega) (.int .i64 0);have g8:=Qen (Qen kg6 (p:=⟨w.heap.size,0,none⟩) (show w3.heap.size≠w.heap.size by omega) (.int .i64 i)) (p:=⟨w.heap.size+1,0,none⟩) (show w3.heap.size≠w.heap.size+1 by omega) (.int .i64 0);have ba8:=Qen (Qem ka6 0 (.int .i64 i)) (p:=⟨w.heap.size+1,0,none⟩) (show w.heap.size≠w.heap.size+1 by omega) (.int .i64 0);have be8:=Qem ke7 0 (.int .i64 0);have ba9:=Qem (Qen ba8 (p:=⟨w3.heap.size,2,none⟩) ha2 (.bool false)) 0 (.int .i64 i);have be9:=Qen (Qen be8 (p:=⟨w3.heap.size,2,none⟩) he2 (.bool false)) (p:=⟨w.heap.size,0,none⟩) hea (.int .i64 i);have bl:Below w.heap.size w6 (((((w6.setCell ⟨w.heap.size,0,none⟩ (.int .i64 i)).setCell ⟨w.heap.size+1,0,none⟩ (.int .i64 0)).setCell ⟨w3.heap.size,2,none⟩ (.bool false)).setCell ⟨w.heap.size,0,none⟩ (.int .i64 i))) :=
   Qle (Qle (Qle (Qle (Below.refl _ _) (Nat.le_refl _)) (Nat.le_succ _)) (by omega)) (Nat.le_refl _)
  have bt:Ty w6 (((((w6.setCell ⟨w.heap.size,0,none⟩ (.int .i64 i)).setCell ⟨w.heap.size+1,0,none⟩ (.int .i64 0)).setCell ⟨w3.heap.size,2,none⟩ (.bool false)).setCell ⟨w.heap.size,0,none⟩ (.int .i64 i))) :=
   ((((Ty.refl w6).set ka6 (.inl rfl) _).set ke7 (.inr (.inl rfl)) _).set g8 (.inr (.inr rfl)) _).set (Qen ba8 (p:=⟨w3.heap.size,2,none⟩) ha2 (.bool false)) (.inl rfl) _
  refine leaves_cons (f:=190) (args:=#[.pointer (some ⟨w3.heap.size+1,0,none⟩),.pointer (some ⟨w.heap.size,0,none⟩),.pointer (some ⟨w.heap.size+1,0,none⟩)]) (by simp) (by simp[go_sem]) ?_;refine(Qpw w3.heap.size w.heap.size (w.heap.size+1) (w3.heap.size+1) i i v6 _ bc8 g8 ba8).mono ?_;rintro e u' w'' ⟨rfl,rfl,rfl⟩;show Leaves _ _ _ _ [] .returning _;exact⟨_,Qpy _ _ _ _ i 0 rfl rfl ba9 be9,0,i,rfl,HST.out _ _ _ _ hp6 bl bt⟩
 ·have ba9:=Qen (Qfb (Qem (Qen ka6 (p:=⟨w3.heap.size,2,none⟩) ha2 (.bool false)) 0 (.int .i64 i)) (.cells #[.pointer (some ⟨w3.heap.size,0,none⟩),.int .i64 er] 266)) (p:=⟨w.heap.size+1,0,none⟩) (show w.heap.size≠w.heap.size+1 by omega) (.int .i64 er);have be9:=Qem (Qfb (Qen (Qen ke6 (p:=⟨w3.heap.size,2,none⟩) he2 (.bool false)) (p:=⟨w.heap.size,0,none⟩) hea (.int .i64 i)) (.cells #[.pointer (some ⟨w3.heap.size,0,none⟩),.int .i64 er] 266)) 0 (.int .i64 er);have s6:w.heap.size≤w6.heap.size:=Nat.le_of_lt (Qeo ka6);have b1:Below w.heap.size w6 ((w6.setCell ⟨w3.heap.size,2,none⟩ (.bool false)).setCell ⟨w.heap.size,0,none⟩ (.int .i64 i)):=Qle (Qle (Below.refl _ _) (by omega)) (Nat.le_refl _);have bl:Below w.heap.size w6 ((((w6.setCell ⟨w3.heap.size,2,none⟩ (.bool false)).setCell ⟨w.heap.size,0,none⟩ (.int .i64 i)).alloc (.cells #[.pointer (some ⟨w3.heap.size,0,none⟩),.int .i64 er] 266)).setCell ⟨w.heap.size+1,0,none⟩ (.int .i64 er)) :=
   Qle (b1.trans (Qlf (Qdr (Below.refl _ _) _) (Nat.le_trans s6 b1.size))) (Nat.le_succ _)
  have bt:Ty w6 ((((w6.setCell ⟨w3.heap.size,2,none⟩ (.bool false)).setCell ⟨w.heap.size,0,none⟩ (.int .i64 i)).alloc (.cells #[.pointer (some ⟨w3.heap.size,0,none⟩),.int .i64 er] 266)).setCell ⟨w.heap.size+1,0,none⟩ (.int .i64 er)) :=
   ((((Ty.refl w6).set kg6 (.inr (.inr rfl)) _).set (Qen ka6 (p:=⟨w3.heap.size,2,none⟩) ha2 (.bool false)) (.inl rfl) _).alloc _).set (Qfb (Qen (Qen ke6 (p:=⟨w3.heap.size,2,none⟩) he2 (.bool false)) (p:=⟨w.heap.size,0,none⟩) hea (.int .i64 i)) _) (.inr (.inl rfl)) _
  refine leaves_cons (f:=190) (args:=#[.pointer (some ⟨w3.heap.size+1,0,none⟩),.pointer (some ⟨w.heap.size,0,none⟩),.pointer (some ⟨w.heap.size+1,0,none⟩)]) (by simp) (by simp[go_sem]) ?_;refine(Qpx w3.heap.size w.heap.size (w.heap.size+1) (w3.heap.size+1) i 0 0 er v6 _ kp6 kg6 ka6 ke6).mono ?_;rintro e u' w'' ⟨rfl,rfl,rfl⟩;show Leaves _ _ _ _ [] .returning _;exact⟨_,Qpy _ _ _ _ i er rfl rfl ba9 be9,er,i,rfl,HST.out _ _ _ _ hp6 bl bt⟩
def rotT(x n:Int):Int:=(Qac.f x n).getD 0
theorem Qqa(x n:Int)(h:0≤n∧n<32∧Go.bits .and .u64 (IntKind.u64.wrap n) 31=n):Qac.f x n=some (rotT x n):=by
 unfold rotT Qac.f;rw[h.2.2,if_pos h.1,if_pos (by rw[IntWalk.u64_in _ (by omega)];omega)];rfl
def numT(l:List Int):Int:=(Qdm.f l).getD 0
theorem Qqb(l:List Int)(h:4≤l.length):Qdm.f l=some (numT l):=by
 unfold numT Qdm.f;rw[if_pos (show(0:Int)<l.length by omega),if_pos (show(1:Int)<l.length by omega),if_pos (show(2:Int)<l.length by omega),if_pos (show(3:Int)<l.length by omega)];rfl
def Qqc(v y:Int):Int:=IntKind.u32.wrap (rotT (IntKind.u32.wrap (v+IntKind.u32.wrap (y*2246822519))) 13*2654435761)
def Qqd(v:V4)(l:List Int):V4:=(Qqc v.1 (numT l),Qqc v.2.1 (numT (l.drop 4)),Qqc v.2.2.1 (numT (l.drop 8)),Qqc v.2.2.2 (numT (l.drop 12)))
def Qqe:Nat→V4→List Int→V4
 | 0,v,_=>v
 | m+1,v,l=>Qqe m (Qqd v l) (l.drop 16)
def stepT(i:Nat)(v:V4)(l:List Int):V4:=(if 0<i then Qqc v.1 (numT l)else v.1,if 1<i then Qqc v.2.1 (numT (l.drop 4))else v.2.1,if 2<i then Qqc v.2.2.1 (numT (l.drop 8))else v.2.2.1,if 3<i then Qqc v.2.2.2 (numT (l.drop 12))else v.2.2.2)
def V0T(sd:Int):V4:=((sd+2654435761+2246822519)%4294967296,(sd+2246822519)%4294967296,sd,(sd-2654435761)%4294967296)
def sumT(v:V4):Int:=IntKind.u32.wrap (IntKind.u32.wrap (IntKind.u32.wrap (rotT v.1 1+rotT v.2.1 7)+rotT v.2.2.1 12)+rotT v.2.2.2 18)
def Qqf(sd:Int)(l:List Int):Int × List Int:=if l.length<16 then((sd+374761393)%4294967296,l)else(sumT (Qqe (l.length/16) (V0T sd) l),l.drop (16*(l.length/16)))
def Qdn.f(a0:Int)(l1:List Int):Option (Int × List Int):=if l1.length≤140737488355328 then some (Qqf a0 l1)else none
def ArAt(W:World)(g:Nat)(v:V4):Prop:=W.heap[g]? = some (.cells #[.int .u32 v.1,.int .u32 v.2.1,.int .u32 v.2.2.1,.int .u32 v.2.2.2] 313 (0,0))
theorem Qqg{W:World}{A:Option Addr}{n c:Nat}{l:List Int}(hn:n=l.length)(hC:Kd.C (Kd.int .u8) W A n l)(hc:n≤c)(h4:4≤l.length) :
  Calls Tryz.prog 235 #[.slice A n c] W fun e w'=>e=.returned (.int .u32 (numT l))∧Drawn0 W w':=by
 subst hn;exact Qdm.calls A c l _ W hC hc (Qqb l h4)
theorem Qqh(x n:Int)(h:0≤n∧n<32∧Go.bits .and .u64 (IntKind.u64.wrap n) 31=n)(W:World):Calls Tryz.prog 234 #[.int .u32 x,.int .i64 n] W fun e w'=>e=.returned (.int .u32 (rotT x n))∧Drawn0 W w':=Qac.calls x n _ W (Qqa x n h)
theorem Qqi(a0:Int)(A1:Option Addr)(c1:Nat)(l1:List Int)(w:World)(h:l1.length<16) :
  Calls Tryz.prog 233 #[.int .u32 a0,.slice A1 l1.length c1] w fun e w'=>e=.returned (.tuple #[.int .u32 ((a0+374761393)%4294967296),.slice A1 l1.length c1])∧Below w.heap.size w w':=by
 have hi:(l1.length:Int)<16:=by omega
 go_enter Tryz.func233,Tryz.ntmps233
 go_wp2_with fail
 go_ret2
 exact⟨rfl,Below.refl _ _⟩
theorem cutT(kk:IntKind)(A:Option Addr)(c:Nat)(l:List Int)(hlc:l.length≤c)(m:Nat)(hm:m≤l.length)(j:Int)(hj:j=(m:Int)):∃A' n' c',n'=(l.drop m).length∧n'=l.length-m∧(∀W:World,(Instr.slice 52 (.slice A l.length c) (some (.int kk j)) none none).run Tryz.prog W=.ok (.slice A' n' c') W)∧n'≤c' ∧
  ∀W,Kd.C (Kd.int .u8) W A l.length l→Kd.C (Kd.int .u8) W A' n' (l.drop m):=by
 obtain⟨i0,hii,_,hsz1,_⟩:=info_parts Qkd;have h:=Qft (P:=Tryz.prog) 52 5 kk Tryz.underlying52 hii 1 hsz1 A l.length c j (by omega) (by omega);rw[show j.toNat=m by omega]at h;refine⟨_,(l.drop m).length,c-m,rfl,List.length_drop,fun W=>by rw[List.length_drop];exact h W,by rw[List.length_drop];omega,fun W hC=>?_⟩;have h2:=Kd.C_drop (m:=m) hC hm hlc;exact h2
theorem ts_long(a0:Int)(A1:Option Addr)(c1:Nat)(l1:List Int)(w:World)(hr1:Kd.C (Kd.int .u8) w A1 l1.length l1)(hc1:l1.length≤c1)(h:¬l1.length<16) :
  Calls Tryz.prog 233 #[.int .u32 a0,.slice A1 l1.length c1] w fun e w'=>∃A c,e=.returned (.tuple #[.int .u32 (sumT (Qqe (l1.length/16) (V0T a0) l1)),.slice A (l1.drop (16*(l1.length/16))).length c])∧Kd.C (Kd.int .u8) w' A (l1.drop (16*(l1.length/16))).length (l1.drop (16*(l1.length/16)))∧(l1.drop (16*(l1.length/16))).length≤c∧Below w.heap.size w w':=by
 have hi:16≤(l1.length:Int):=by omega
 have j:=QA hr1;have hu:=Tryz.underlying313;have hu3:=Tryz.underlying52;clear hr1
 go_enter Tryz.func233,Tryz.ntmps233
 go_wp2_with fail
 generalize p:(a0+2654435761)%4294967296=y1;generalize r:(y1+2246822519)%4294967296=y2;generalize k:(a0+2654435761+2246822519)%4294967296=y3;generalize l:(a0+2246822519)%4294967296=y4;generalize n:(a0-2654435761)%4294967296=y5;have HV0:=QA (show ArAt (w.alloc (.cells #[.int .u32 y3,.int .u32 y4,.int .u32 a0,.int .u32 y5] 313)) w.heap.size (V0T a0)by unfold V0T;rw[k,l,n];exact Qff w _);have d:=QA (Qdr (Below.refl w.heap.size w) (.cells #[.int .u32 y3,.int .u32 y4,.int .u32 a0,.int .u32 y5] 313));clear p r k l n;obtain⟨B,hB⟩:∃B,B=w.heap.size:=⟨_,rfl⟩;obtain⟨W,hW⟩:∃W,W=w.alloc (.cells #[.int .u32 y3,.int .u32 y4,.int .u32 a0,.int .u32 y5] 313):=⟨_,rfl⟩;rw[← hW,← hB]at HV0;rw[← hW]at d;rw[← hW,← hB];have HBB:=QA hB;clear hW hB
 go_loopw [1] (fun v1 wr=>∃(m:Nat) (l':List Int) (V':V4) (A:Option Addr) (c:Nat),v1=.slice A l'.length c∧l'.length≤c∧l'.length≤l1.length∧Aside0 (l'.length/16=m∧Qqe (l1.length/16) (V0T a0) l1=Qqe m V' l'∧l1.drop (16*(l1.length/16))=l'.drop (16*m))∧Aside0 (Kd.C (Kd.int .u8) w A l'.length l')∧Aside0 (ArAt wr B V')∧Aside0 (Below w.heap.size w wr))
  (fun v1 _=>lenV v1)
 case atStart=>exact⟨_,l1,V0T a0,A1,c1,rfl,hc1,Nat.le_refl _,⟨rfl,rfl,rfl⟩,j,HV0,d⟩
 case round =>
  obtain⟨m,l',V',A,c,rfl,hlc,hll,HM,HC,HV,HB⟩:=hrel;clear j HV0 d
  by_cases s:16≤l'.length
  ·have o:(16:Int)≤(l'.length:Int):=by omega
   go_wp2_with fail
   go_loopw [9,30] (fun v9 g wi=>∃(i:Nat) (iv:Int),i≤4∧g=.int .i64 iv∧Aside0 (iv=(i:Int))∧Aside0 (ArAt wi B (stepT i V' l'))∧Aside0 (Below w.heap.size w wi))
    (fun _ g _=>4-(intOf g).toNat)
   case atStart=>exact⟨0,0,by omega,rfl,⟨rfl⟩,HV,HB⟩
   case round =>
    obtain⟨i,iv,hi4,rfl,HI,HVi,HBi⟩:=hrel;clear HB HV
    by_cases h4:i<4
    ·have hk:i=0∨i=1∨i=2∨i=3:=by omega
     rcases hk with rfl|rfl|rfl|rfl
     ·obtain rfl:iv=0:=HI.out;have cv:wr.cell? ⟨B,0,none⟩=some (.int .u32 V'.1):=(Qep HVi.out 0).trans rfl;have fv:=Qeq HVi.out 0;obtain⟨A',n',c',hn',a,hcut,hc',hA'⟩:=cutT .i64 A c l' hlc 0 (by omega) 0 rfl;have b:4≤(l'.drop 0).length:=by rw[List.length_drop];omega
      have hwa:IntKind.i64.wrap 0=0:=IntWalk.i64_in 0 (by decide);have hq:∀q,Kd.C (Kd.int .u8) (wr.drewN q) A' n' (l'.drop 0):=fun q=>Kd.C_below (hA' w HC.out) (Qdt HBi.out q)
      have HN:=QA (And.intro hn' hc');clear hA' hn' a hc'
      go_wp2_with fail
      go_region_with (first |(go_at_call 235;refine(Qqg HN.out.1 (hq _) HN.out.2 b).mono ?_;rintro e w7 ⟨rfl,hd⟩;obtain⟨q,rfl⟩:=hd.out;clear hd) |(go_at_call 234;refine(Qqh _ 13 ⟨by decide,by decide,by kernel_rfl⟩ _).mono ?_;rintro e w8 ⟨rfl,hd⟩;obtain⟨q2,rfl⟩:=hd.out;clear hd))
      all_goals
       go_wp2_with fail
       go_roundw
       case rel=>exact⟨1,1,by omega,by go_num,⟨rfl⟩,⟨Qem (w:=wr.drewN _) HVi.out 0 _⟩,⟨Qle (Qdt HBi.out _) (Nat.le_of_eq HBB.out.symm)⟩⟩
       case measure=>simp[intOf]
     ·obtain rfl:iv=1:=HI.out;have cv:wr.cell? ⟨B,1,none⟩=some (.int .u32 V'.2.1):=(Qep HVi.out 1).trans rfl;have fv:=Qeq HVi.out 1;obtain⟨A',n',c',hn',a,hcut,hc',hA'⟩:=cutT .i64 A c l' hlc 4 (by omega) 4 rfl;have b:4≤(l'.drop 4).length:=by rw[List.length_drop];omega
      have hwa:IntKind.i64.wrap 4=4:=IntWalk.i64_in 4 (by decide);have hq:∀q,Kd.C (Kd.int .u8) (wr.drewN q) A' n' (l'.drop 4):=fun q=>Kd.C_below (hA' w HC.out) (Qdt HBi.out q)
      have HN:=QA (And.intro hn' hc');clear hA' hn' a hc'
      go_wp2_with fail
      go_region_with (first |(go_at_call 235;refine(Qqg HN.out.1 (hq _) HN.out.2 b).mono ?_;rintro e w7 ⟨rfl,hd⟩;obtain⟨q,rfl⟩:=hd.out;clear hd) |(go_at_call 234;refine(Qqh _ 13 ⟨by decide,by decide,by kernel_rfl⟩ _).mono ?_;rintro e w8 ⟨rfl,hd⟩;obtain⟨q2,rfl⟩:=hd.out;clear hd))
      all_goals
       go_wp2_with fail
       go_roundw
       case rel=>exact⟨2,2,by omega,by go_num,⟨rfl⟩,⟨Qem (w:=wr.drewN _) HVi.out 1 _⟩,⟨Qle (Qdt HBi.out _) (Nat.le_of_eq HBB.out.symm)⟩⟩
       case measure=>simp[intOf]
     ·obtain rfl:iv=2:=HI.out;have cv:wr.cell? ⟨B,2,none⟩=some (.int .u32 V'.2.2.1):=(Qep HVi.out 2).trans rfl;have fv:=Qeq HVi.out 2;obtain⟨A',n',c',hn',a,hcut,hc',hA'⟩:=cutT .i64 A c l' hlc 8 (by omega) 8 rfl;have b:4≤(l'.drop 8).length:=by rw[List.length_drop];omega
      have hwa:IntKind.i64.wrap 8=8:=IntWalk.i64_in 8 (by decide);have hq:∀q,Kd.C (Kd.int .u8) (wr.drewN q) A' n' (l'.drop 8):=fun q=>Kd.C_below (hA' w HC.out) (Qdt HBi.out q)
      have HN:=QA (And.intro hn' hc');clear hA' hn' a hc'
      go_wp2_with fail
      go_region_with (first |(go_at_call 235;refine(Qqg HN.out.1 (hq _) HN.out.2 b).mono ?_;rintro e w7 ⟨rfl,hd⟩;obtain⟨q,rfl⟩:=hd.out;clear hd) |(go_at_call 234;refine(Qqh _ 13 ⟨by decide,by decide,by kernel_rfl⟩ _).mono ?_;rintro e w8 ⟨rfl,hd⟩;obtain⟨q2,rfl⟩:=hd.out;clear hd))
      all_goals
       go_wp2_with fail
       go_roundw
       case rel=>exact⟨3,3,by omega,by go_num,⟨rfl⟩,⟨Qem (w:=wr.drewN _) HVi.out 2 _⟩,⟨Qle (Qdt HBi.out _) (Nat.le_of_eq HBB.out.symm)⟩⟩
       case measure=>simp[intOf]
     ·obtain rfl:iv=3:=HI.out;have cv:wr.cell? ⟨B,3,none⟩=some (.int .u32 V'.2.2.2):=(Qep HVi.out 3).trans rfl;have fv:=Qeq HVi.out 3;obtain⟨A',n',c',hn',a,hcut,hc',hA'⟩:=cutT .i64 A c l' hlc 12 (by omega) 12 rfl;have b:4≤(l'.drop 12).length:=by rw[List.length_drop];omega
      have hwa:IntKind.i64.wrap 12=12:=IntWalk.i64_in 12 (by decide);have hq:∀q,Kd.C (Kd.int .u8) (wr.drewN q) A' n' (l'.drop 12):=fun q=>Kd.C_below (hA' w HC.out) (Qdt HBi.out q)
      have HN:=QA (And.intro hn' hc');clear hA' hn' a hc'
      go_wp2_with fail
      go_region_with (first |(go_at_call 235;refine(Qqg HN.out.1 (hq _) HN.out.2 b).mono ?_;rintro e w7 ⟨rfl,hd⟩;obtain⟨q,rfl⟩:=hd.out;clear hd) |(go_at_call 234;refine(Qqh _ 13 ⟨by decide,by decide,by kernel_rfl⟩ _).mono ?_;rintro e w8 ⟨rfl,hd⟩;obtain⟨q2,rfl⟩:=hd.out;clear hd))
      all_goals
       go_wp2_with fail
       go_roundw
       case rel=>exact⟨4,4,by omega,by go_num,⟨rfl⟩,⟨Qem (w:=wr.drewN _) HVi.out 3 _⟩,⟨Qle (Qdt HBi.out _) (Nat.le_of_eq HBB.out.symm)⟩⟩
       case measure=>simp[intOf]
    ·obtain rfl:i=4:=by omega
     obtain rfl:iv=4:=HI.out;obtain⟨A',n',c',hn',a,hcut,hc',hA'⟩:=cutT .i64 A c l' hlc 16 s 16 rfl;have HN:=QA (And.intro hn' (And.intro a hc'));have HA':=QA (hA' w HC.out);clear hA' hn' a hc'
     go_wp2_with fail
     go_roundw
     case rel =>
      have e4:stepT 4 V' l'=Qqd V' l':=rfl;have hm:=HM.out;obtain⟨hn',a,hc'⟩:=HN.out;subst hn';refine⟨m-1,l'.drop 16,Qqd V' l',A',c',rfl,hc',by omega,⟨by omega,?_,?_⟩,HA',HVi,HBi⟩
      ·rw[hm.2.1,show m=(m-1)+1 by omega];rfl
      ·rw[hm.2.2,List.drop_drop]
       congr 1
       omega
     case measure=>simp[lenV];have:=HN.out.2.1;omega
  ·have o:(l'.length:Int)<16:=by omega
   obtain⟨v1,v2,v3,v4⟩:=V'
   go_wp2_with fail
   have c0:wr.cell? ⟨B,0,none⟩=some (.int .u32 v1):=(Qep HV.out 0).trans rfl;have c1:wr.cell? ⟨B,1,none⟩=some (.int .u32 v2):=(Qep HV.out 1).trans rfl;have c2:wr.cell? ⟨B,2,none⟩=some (.int .u32 v3):=(Qep HV.out 2).trans rfl;have c3:wr.cell? ⟨B,3,none⟩=some (.int .u32 v4):=(Qep HV.out 3).trans rfl
   go_region_held3 (fun w'=>w'.cell? ⟨B,0,none⟩=some (.int .u32 v1)∧w'.cell? ⟨B,1,none⟩=some (.int .u32 v2)∧w'.cell? ⟨B,2,none⟩=some (.int .u32 v3)∧w'.cell? ⟨B,3,none⟩=some (.int .u32 v4)) (go_keep) (first
    |(go_at_call_of 234 (Value.int .i64 1);refine(Qqh v1 1 ⟨by decide,by decide,by kernel_rfl⟩ _).mono ?_;rintro e w7 ⟨rfl,hd⟩;obtain⟨q1,rfl⟩:=hd.out;clear hd)
    |(go_at_call_of 234 (Value.int .i64 7);refine(Qqh v2 7 ⟨by decide,by decide,by kernel_rfl⟩ _).mono ?_;rintro e w7 ⟨rfl,hd⟩;obtain⟨q2,rfl⟩:=hd.out;clear hd)
    |(go_at_call_of 234 (Value.int .i64 12);refine(Qqh v3 12 ⟨by decide,by decide,by kernel_rfl⟩ _).mono ?_;rintro e w7 ⟨rfl,hd⟩;obtain⟨q3,rfl⟩:=hd.out;clear hd)
    |(go_at_call_of 234 (Value.int .i64 18);refine(Qqh v4 18 ⟨by decide,by decide,by kernel_rfl⟩ _).mono ?_;rintro e w7 ⟨rfl,hd⟩;obtain⟨q4,rfl⟩:=hd.out;clear hd))
   have hm0:m=0:=by have:=HM.out.1;omega
   subst hm0;have hm:=HM.out
   go_wp2_with fail
   refine bodyPost_ret (results_tmp2 rfl _ _ _) rfl ?_;have e2:l1.drop (16*(l1.length/16))=l':=by rw[hm.2.2];simp
   rw[e2,hm.2.1];exact⟨A,c,rfl,Kd.C_below HC.out (Qdt HB.out _),hlc,Qdt HB.out _⟩
theorem Qdn.calls(a0:Int)(A1:Option Addr)(c1:Nat)(l1:List Int)(r1:Int)(r2:List Int)(w:World)(hr1:Kd.C (Kd.int .u8) w A1 l1.length l1)(hc1:l1.length≤c1)(h:Qdn.f a0 l1=some (r1,r2)) :
  Calls Tryz.prog 233 #[.int .u32 a0,.slice A1 l1.length c1] w fun e w'=>∃A c,e=.returned (.tuple #[.int .u32 r1,.slice A r2.length c])∧Kd.C (Kd.int .u8) w' A r2.length r2∧r2.length≤c∧Below w.heap.size w w':=by
 unfold Qdn.f Qqf at h;split at h
 ·have h:=Option.some.inj h
  by_cases hs:l1.length<16
  ·rw[if_pos hs]at h
   cases h
   refine(Qqi a0 A1 c1 l1 w hs).mono ?_;rintro e w' ⟨rfl,hb⟩;exact⟨A1,c1,rfl,Kd.C_below hr1 hb,hc1,hb⟩
  ·rw[if_neg hs]at h
   cases h
   exact ts_long a0 A1 c1 l1 w hr1 hc1 hs
 ·cases h
end Go.Proofs.YtnnofopfbeklbaaGreat.C
end
