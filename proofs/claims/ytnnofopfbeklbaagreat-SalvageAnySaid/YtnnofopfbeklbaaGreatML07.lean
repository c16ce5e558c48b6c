/- Merged texts. -/
import Derived.Test.YtnnofopfbeklbaaGreatML01
import Derived.Test.YtnnofopfbeklbaaGreatML06
import Derived.Test.YtnnofopfbeklbaaGreatML02
import Derived.Test.YtnnofopfbeklbaaGreatML03
import Derived.Test.YtnnofopfbeklbaaGreatML04
import Derived.WalkLawsBesides
import Derived.Recover
import Derived.Test.YtnnofopfbeklbaaGreatML05
set_option linter.unusedVariables false
set_option linter.unusedSimpArgs false
set_option maxHeartbeats 8000000
set_option maxRecDepth 100000
section
namespace Go.Proofs.YtnnofopfbeklbaaGreat.C
open Go.RowKit Go.Proofs.YtnnofopfbeklbaaGreatW.PrintWords Go.Proofs.YtnnofopfbeklbaaGreatW.PrintLast Go.Proofs.YtnnofopfbeklbaaGreatW.PrintMore
def Qbn.f(k:Nat)(a0:ByteArray):Option (Bool × Int × ByteArray × ByteArray × Int) :=
 if a0.size=0 then some (false,0,(⟨#[]⟩:ByteArray),(⟨#[]⟩:ByteArray),2)
 else if bt a0 0≠2∧bt a0 0≠3 then some (false,0,(⟨#[]⟩:ByteArray),(⟨#[]⟩:ByteArray),4)
 else(Qbb.f k (a0.extract 1 a0.size) 0 0).bind fun g=>(Qbc.f k g.1 g.2.1 g.2.2.1 1 4096).bind fun t =>
  if bt a0 0=3 then(Qav.f t.1 t.2.1 t.2.2.1).bind fun e=>if e.2.2=0 then some (true,g.2.2.2,t.2.2.2,(⟨#[]⟩:ByteArray),0)else some (false,0,(⟨#[]⟩:ByteArray),(⟨#[]⟩:ByteArray),e.2.2)
  else(Qbc.f k t.1 t.2.1 t.2.2.1 0 1048576).bind fun v=>(Qav.f v.1 v.2.1 v.2.2.1).bind fun e=>if e.2.2=0 then some (false,g.2.2.2,t.2.2.2,v.2.2.2,0)else some (false,0,(⟨#[]⟩:ByteArray),(⟨#[]⟩:ByteArray),e.2.2)
def R7(w W:World)(xb gb:Nat)(d:Bool)(g1:ByteArray)(g2 g3:Int):Prop :=
 W.heap[w.heap.size]? = some (.cells #[.bool false,.int .u64 0,.string (⟨#[]⟩:ByteArray),.string (⟨#[]⟩:ByteArray)] 39 (0,0))∧W.heap[xb]? = some (.cells #[.bool d,.int .u64 0,.string (⟨#[]⟩:ByteArray),.string (⟨#[]⟩:ByteArray)] 39 (0,0)) ∧
  W.heap[gb]? = some (.cells #[.string g1,.int .i64 g2,.int .i64 g3] 257 (0,0))∧Below w.heap.size w W∧w.heap.size<xb∧w.heap.size<gb
section
variable {w W W':World} {xb gb:Nat} {d:Bool} {g1:ByteArray} {g2 g3:Int}
theorem R7.kept(h:R7 w W xb gb d g1 g2 g3)(hb:Below W.heap.size W W'):R7 w W' xb gb d g1 g2 g3 :=
 ⟨Qei h.1 hb,Qei h.2.1 hb,Qei h.2.2.1 hb,h.2.2.2.1.trans (Qjp hb h.2.2.2.1.size),h.2.2.2.2⟩
theorem R7.set(h:R7 w W xb gb d g1 g2 g3)(x1:ByteArray)(x2 x3:Int):R7 w (((W.setCell ⟨gb,0,none⟩ (.string x1)).setCell ⟨gb,1,none⟩ (.int .i64 x2)).setCell ⟨gb,2,none⟩ (.int .i64 x3)) xb gb d x1 x2 x3:=by
 obtain⟨h1,h2,h3,h4,h5,h6⟩:=h;have n1:w.heap.size≠gb:=by omega
 have n2:xb≠gb:=Qdy h2 h3 (by decide);have hle:w.heap.size≤gb:=by omega
 exact⟨Qdt (Qdt (Qdt h1 (p:=⟨gb,0,none⟩) n1 _) (p:=⟨gb,1,none⟩) n1 _) (p:=⟨gb,2,none⟩) n1 _,Qdt (Qdt (Qdt h2 (p:=⟨gb,0,none⟩) n2 _) (p:=⟨gb,1,none⟩) n2 _) (p:=⟨gb,2,none⟩) n2 _,
  Qds (Qds (Qds h3 0 _) 1 _) 2 _,Qjo (Qjo (Qjo h4 hle) hle) hle,h5,h6⟩
theorem R7.gc(h:R7 w W xb gb d g1 g2 g3):(W.cell? ⟨gb,0,none⟩=some (.string g1)∧W.cell? ⟨gb,1,none⟩=some (.int .i64 g2)∧W.cell? ⟨gb,2,none⟩=some (.int .i64 g3))∧W.frozen? ⟨gb,0,none⟩=false∧W.frozen? ⟨gb,1,none⟩=false∧W.frozen? ⟨gb,2,none⟩=false :=
 ⟨⟨(Qdv h.2.2.1 0).trans rfl,(Qdv h.2.2.1 1).trans rfl,(Qdv h.2.2.1 2).trans rfl⟩,Qdw h.2.2.1 0,Qdw h.2.2.1 1,Qdw h.2.2.1 2⟩
theorem R7.xc(h:R7 w W xb gb d g1 g2 g3):(W.cell? ⟨xb,0,none⟩=some (.bool d)∧W.cell? ⟨xb,1,none⟩=some (.int .u64 0)∧W.cell? ⟨xb,2,none⟩=some (.string (⟨#[]⟩:ByteArray))∧W.cell? ⟨xb,3,none⟩=some (.string (⟨#[]⟩:ByteArray)))∧W.frozen? ⟨xb,1,none⟩=false∧W.frozen? ⟨xb,2,none⟩=false∧W.frozen? ⟨xb,3,none⟩=false :=
 ⟨box4 h.2.1,Qdw h.2.1 1,Qdw h.2.1 2,Qdw h.2.1 3⟩
theorem R7.rc(h:R7 w W xb gb d g1 g2 g3):(W.cell? ⟨w.heap.size,0,none⟩=some (.bool false)∧W.cell? ⟨w.heap.size,1,none⟩=some (.int .u64 0)∧W.cell? ⟨w.heap.size,2,none⟩=some (.string (⟨#[]⟩:ByteArray))∧W.cell? ⟨w.heap.size,3,none⟩=some (.string (⟨#[]⟩:ByteArray)))∧W.frozen? ⟨w.heap.size,0,none⟩=false∧W.frozen? ⟨w.heap.size,1,none⟩=false∧W.frozen? ⟨w.heap.size,2,none⟩=false∧W.frozen? ⟨w.heap.size,3,none⟩=false :=
 ⟨box4 h.1,Qdw h.1 0,Qdw h.1 1,Qdw h.1 2,Qdw h.1 3⟩
theorem R7.fin(h:R7 w W xb gb d g1 g2 g3)(q:Int)(a b:ByteArray):∃WX,WX=(((W.setCell ⟨xb,1,none⟩ (.int .u64 q)).setCell ⟨xb,2,none⟩ (.string a)).setCell ⟨xb,3,none⟩ (.string b))∧WX.heap[w.heap.size]? = some (.cells #[.bool false,.int .u64 0,.string (⟨#[]⟩:ByteArray),.string (⟨#[]⟩:ByteArray)] 39 (0,0)) ∧
  WX.heap[xb]? = some (.cells #[.bool d,.int .u64 q,.string a,.string b] 39 (0,0))∧Below w.heap.size w WX:=by
 obtain⟨h1,h2,h3,h4,h5,h6⟩:=h;have n1:w.heap.size≠xb:=by omega
 have hle:w.heap.size≤xb:=by omega
 exact⟨_,rfl,Qdt (Qdt (Qdt h1 (p:=⟨xb,1,none⟩) n1 _) (p:=⟨xb,2,none⟩) n1 _) (p:=⟨xb,3,none⟩) n1 _,Qds (Qds (Qds h2 1 _) 2 _) 3 _,Qjo (Qjo (Qjo h4 hle) hle) hle⟩
end
theorem Qoy{w w3:World}(d:Bool)(g1:ByteArray)(g2 g3:Int)(hb:Below ((w.alloc (.cells #[.bool false,.int .u64 0,.string (⟨#[]⟩:ByteArray),.string (⟨#[]⟩:ByteArray)] 39)).alloc (.cells #[.bool d,.int .u64 0,.string (⟨#[]⟩:ByteArray),.string (⟨#[]⟩:ByteArray)] 39)).heap.size ((w.alloc (.cells #[.bool false,.int .u64 0,.string (⟨#[]⟩:ByteArray),.string (⟨#[]⟩:ByteArray)] 39)).alloc (.cells #[.bool d,.int .u64 0,.string (⟨#[]⟩:ByteArray),.string (⟨#[]⟩:ByteArray)] 39)) w3) :
  R7 w (w3.alloc (.cells #[.string g1,.int .i64 g2,.int .i64 g3] 257)) (w.heap.size+1) w3.heap.size d g1 g2 g3:=by
 have k1:=Qef (Qej w (.cells #[.bool false,.int .u64 0,.string (⟨#[]⟩:ByteArray),.string (⟨#[]⟩:ByteArray)] 39)) (.cells #[.bool d,.int .u64 0,.string (⟨#[]⟩:ByteArray),.string (⟨#[]⟩:ByteArray)] 39);have k2:=Qej (w.alloc (.cells #[.bool false,.int .u64 0,.string (⟨#[]⟩:ByteArray),.string (⟨#[]⟩:ByteArray)] 39)) (.cells #[.bool d,.int .u64 0,.string (⟨#[]⟩:ByteArray),.string (⟨#[]⟩:ByteArray)] 39);rw[World.size_alloc]at k2;have hs:((w.alloc (.cells #[.bool false,.int .u64 0,.string (⟨#[]⟩:ByteArray),.string (⟨#[]⟩:ByteArray)] 39)).alloc (.cells #[.bool d,.int .u64 0,.string (⟨#[]⟩:ByteArray),.string (⟨#[]⟩:ByteArray)] 39)).heap.size=w.heap.size+2:=by simp[World.size_alloc]
 have b2:Below w.heap.size w ((w.alloc (.cells #[.bool false,.int .u64 0,.string (⟨#[]⟩:ByteArray),.string (⟨#[]⟩:ByteArray)] 39)).alloc (.cells #[.bool d,.int .u64 0,.string (⟨#[]⟩:ByteArray),.string (⟨#[]⟩:ByteArray)] 39)):=Qcw (Qcw (Below.refl _ _) _) _;have hz:=hb.size;have b3:=b2.trans (Qjp hb b2.size);exact⟨Qef (Qei k1 hb) _,Qef (Qei k2 hb) _,Qej w3 _,b3.trans (Qjp (Qcw (Below.refl _ _) _) b3.size),Nat.lt_succ_self _,by omega⟩
theorem r7_2_0(k:Nat)(a0:ByteArray)(w:World)(hz:0<a0.size)(hk:bt a0 0=2)(g1:ByteArray)(g2 g3 q:Int)(hg:Qbb.f k (a0.extract 1 a0.size) 0 0=some (g1,g2,g3,q))(t1:ByteArray)(t2 t3:Int)(t4:ByteArray)(ht:Qbc.f k g1 g2 g3 1 4096=some (t1,t2,t3,t4))(v1:ByteArray)(v2 v3:Int)(v4:ByteArray)(hv:Qbc.f k t1 t2 t3 0 1048576=some (v1,v2,v3,v4))(e1:ByteArray)(e2 e3:Int)(he:Qav.f v1 v2 v3=some (e1,e2,e3))(hE:e3=0) :
  Calls Tryz.prog 136 #[.string a0] w fun e w'=>e=.returned (.tuple #[.agg #[.bool false,.int .u64 q,.string t4,.string v4],.int .i64 0])∧Below w.heap.size w w':=by
 have hu39:=Tryz.underlying39;have hu257:=Tryz.underlying257;have HG:=QA hg;have HT:=QA ht;have HV:=QA hv;have HE:=QA he;have hx:∀h:0<a0.size,((a0[0]'h).toNat:Int)=2:=fun h=>(Qcv a0 0 h).trans hk
 have hq1:(0<(a0.size:Int))=True:=eq_true (by omega);have hq2:(0<a0.size)=True:=eq_true hz;have hq3:(1≤(a0.size:Int))=True:=eq_true (by omega);have hq4:decide (0<a0.size)=true:=decide_eq_true hz;have hq5:decide (1≤(a0.size:Int))=true:=decide_eq_true (by omega);have hq6:(a0.toList == ([]:List UInt8))=false:=beq_eq_false_iff_ne.2 (fun e=>by have:=(CodecP.size_nil_iff a0).1 e;omega);have hq8:a0.toList≠([]:List UInt8):=fun e=>by have:=(CodecP.size_nil_iff a0).1 e;omega
 have he3:e3=0:=hE;subst he3;clear hg ht hv he hk hz
 go_enter Tryz.func136,Tryz.ntmps136
 go_wp2_with (first
  |(go_at_call 189;refine(Qav.calls v1 v2 v3 e1 e2 0 _ HE.out).mono ?_;rintro ee w7 ⟨rfl,hb7⟩;have S7:=QA (T6.out.kept hb7);obtain⟨⟨a,b,c⟩,f70,f71,f72⟩:=S7.out.gc;have T7:=QA (S7.out.set e1 e2 0);obtain⟨⟨d,g,j⟩,_⟩:=T7.out.gc;obtain⟨⟨l,m,n,o⟩,p,r,s⟩:=T7.out.xc;obtain⟨⟨t,u,v,x⟩,y,z,A,B⟩:=T7.out.rc;obtain⟨WX,hWX,k1,k2,bX⟩:=T7.out.fin q t4 v4;have KX:=QA (And.intro k1 (And.intro k2 bX));rw[hWX]at KX;obtain⟨z0,z1,z2,z3⟩:=box4 KX.out.1;obtain⟨p0,p1,p2,p3⟩:=box4 KX.out.2.1;have o0:=Qdw KX.out.1 0;have o1:=Qdw KX.out.1 1;have o2:=Qdw KX.out.1 2;have o3:=Qdw KX.out.1 3;clear hWX k1 k2 bX;clear hb7)
  |(go_at_call 188;have gate:=T5.out;clear gate;refine(Qbc.calls k t1 t2 t3 0 1048576 v1 v2 v3 v4 _ HV.out).mono ?_;rintro ee w6 ⟨rfl,hb6⟩;have S6:=QA (T5.out.kept hb6);obtain⟨⟨D,E,G⟩,f60,f61,f62⟩:=S6.out.gc;have T6:=QA (S6.out.set v1 v2 v3);obtain⟨⟨I,J,K⟩,_⟩:=T6.out.gc;clear hb6)
  |(go_at_call 188;refine(Qbc.calls k g1 g2 g3 1 4096 t1 t2 t3 t4 _ HT.out).mono ?_;rintro ee w5 ⟨rfl,hb5⟩;have S5:=QA (S4.out.kept hb5);obtain⟨⟨L,M,O⟩,f50,f51,f52⟩:=S5.out.gc;have T5:=QA (S5.out.set t1 t2 t3);obtain⟨⟨P,T,U⟩,_⟩:=T5.out.gc;obtain⟨⟨W,X,Y,Z⟩,_⟩:=T5.out.xc;clear hb5)
  |(go_at_call 187;refine(Qbb.calls k (a0.extract 1 a0.size) 0 0 g1 g2 g3 q _ HG.out).mono ?_;rintro ee w3 ⟨rfl,hb3⟩;have S4:=QA (Qoy (w:=w) false g1 g2 g3 hb3);obtain⟨⟨aa,ab,ac⟩,f40,f41,f42⟩:=S4.out.gc;clear hb3))
 refine bodyPost_ret (Qek rfl _ _ w.heap.size 39 #[.bool false,.int .u64 q,.string t4,.string v4] (0,0) _ rfl (Qds (Qds (Qds (Qds KX.out.1 0 _) 1 _) 2 _) 3 _) hu39 rfl qq_7) rfl ?_;exact⟨rfl,Qjo (Qjo (Qjo (Qjo KX.out.2.2 (Nat.le_refl _)) (Nat.le_refl _)) (Nat.le_refl _)) (Nat.le_refl _)⟩
theorem r7_2_1(k:Nat)(a0:ByteArray)(w:World)(hz:0<a0.size)(hk:bt a0 0=2)(g1:ByteArray)(g2 g3 q:Int)(hg:Qbb.f k (a0.extract 1 a0.size) 0 0=some (g1,g2,g3,q))(t1:ByteArray)(t2 t3:Int)(t4:ByteArray)(ht:Qbc.f k g1 g2 g3 1 4096=some (t1,t2,t3,t4))(v1:ByteArray)(v2 v3:Int)(v4:ByteArray)(hv:Qbc.f k t1 t2 t3 0 1048576=some (v1,v2,v3,v4))(e1:ByteArray)(e2 e3:Int)(he:Qav.f v1 v2 v3=some (e1,e2,e3))(hE:e3≠0) :
  Calls Tryz.prog 136 #[.string a0] w fun e w'=>e=.returned (.tuple #[.agg #[.bool false,.int .u64 0,.string (⟨#[]⟩:ByteArray),.string (⟨#[]⟩:ByteArray)],.int .i64 e3])∧Below w.heap.size w w':=by
 have hu39:=Tryz.underlying39;have hu257:=Tryz.underlying257;have HG:=QA hg;have HT:=QA ht;have HV:=QA hv;have HE:=QA he;have hx:∀h:0<a0.size,((a0[0]'h).toNat:Int)=2:=fun h=>(Qcv a0 0 h).trans hk
 have hq1:(0<(a0.size:Int))=True:=eq_true (by omega);have hq2:(0<a0.size)=True:=eq_true hz;have hq3:(1≤(a0.size:Int))=True:=eq_true (by omega);have hq4:decide (0<a0.size)=true:=decide_eq_true hz;have hq5:decide (1≤(a0.size:Int))=true:=decide_eq_true (by omega);have hq6:(a0.toList == ([]:List UInt8))=false:=beq_eq_false_iff_ne.2 (fun e=>by have:=(CodecP.size_nil_iff a0).1 e;omega);have hq8:a0.toList≠([]:List UInt8):=fun e=>by have:=(CodecP.size_nil_iff a0).1 e;omega
 have he3:(e3 != 0)=true:=bne_iff_ne.2 hE
 skip
 clear hg ht hv he hk hz
 go_enter Tryz.func136,Tryz.ntmps136
 go_wp2_with (first
  |(go_at_call 189;refine(Qav.calls v1 v2 v3 e1 e2 e3 _ HE.out).mono ?_;rintro ee w7 ⟨rfl,hb7⟩;have S7:=QA (T6.out.kept hb7);obtain⟨⟨s,t,u⟩,f70,f71,f72⟩:=S7.out.gc;have T7:=QA (S7.out.set e1 e2 e3);obtain⟨⟨a,b,c⟩,_⟩:=T7.out.gc;obtain⟨⟨v,x,y,z⟩,A,B,D⟩:=T7.out.xc;obtain⟨⟨d,g,j,l⟩,m,n,o,r⟩:=T7.out.rc;clear hb7)
  |(go_at_call 188;have gate:=T5.out;clear gate;refine(Qbc.calls k t1 t2 t3 0 1048576 v1 v2 v3 v4 _ HV.out).mono ?_;rintro ee w6 ⟨rfl,hb6⟩;have S6:=QA (T5.out.kept hb6);obtain⟨⟨E,G,I⟩,f60,f61,f62⟩:=S6.out.gc;have T6:=QA (S6.out.set v1 v2 v3);obtain⟨⟨J,K,L⟩,_⟩:=T6.out.gc;clear hb6)
  |(go_at_call 188;refine(Qbc.calls k g1 g2 g3 1 4096 t1 t2 t3 t4 _ HT.out).mono ?_;rintro ee w5 ⟨rfl,hb5⟩;have S5:=QA (S4.out.kept hb5);obtain⟨⟨M,O,P⟩,f50,f51,f52⟩:=S5.out.gc;have T5:=QA (S5.out.set t1 t2 t3);obtain⟨⟨T,U,W⟩,_⟩:=T5.out.gc;obtain⟨⟨X,Y,Z,aa⟩,_⟩:=T5.out.xc;clear hb5)
  |(go_at_call 187;refine(Qbb.calls k (a0.extract 1 a0.size) 0 0 g1 g2 g3 q _ HG.out).mono ?_;rintro ee w3 ⟨rfl,hb3⟩;have S4:=QA (Qoy (w:=w) false g1 g2 g3 hb3);obtain⟨⟨ab,ac,ad⟩,f40,f41,f42⟩:=S4.out.gc;clear hb3))
 obtain⟨W8,hW8⟩:∃W8,W8=((w7.setCell ⟨w3.heap.size,0,none⟩ (.string e1)).setCell ⟨w3.heap.size,1,none⟩ (.int .i64 e2)).setCell ⟨w3.heap.size,2,none⟩ (.int .i64 e3):=⟨_,rfl⟩;clear a b c v x y z A B D d g j l m n o r;rw[← hW8]at T7 ⊢;clear hW8 s t u f70 f71 f72 S7;obtain⟨⟨a,b,c⟩,_⟩:=T7.out.gc;obtain⟨⟨d,g,j,l⟩,m,n,o,r⟩:=T7.out.rc;have ng:w3.heap.size≠w.heap.size:=by have:=T7.out.2.2.2.2.2;omega
 have zz:((((W8.setCell ⟨w.heap.size,0,none⟩ (.bool false)).setCell ⟨w.heap.size,1,none⟩ (.int .u64 0)).setCell ⟨w.heap.size,2,none⟩ (.string (⟨#[]⟩:ByteArray))).setCell ⟨w.heap.size,3,none⟩ (.string (⟨#[]⟩:ByteArray))).cell? ⟨w3.heap.size,2,none⟩=some (.int .i64 e3) :=
  (Qdv (Qdt (Qdt (Qdt (Qdt T7.out.2.2.1 (p:=⟨w.heap.size,0,none⟩) ng (.bool false)) (p:=⟨w.heap.size,1,none⟩) ng (.int .u64 0)) (p:=⟨w.heap.size,2,none⟩) ng (.string (⟨#[]⟩:ByteArray))) (p:=⟨w.heap.size,3,none⟩) ng (.string (⟨#[]⟩:ByteArray))) 2).trans rfl
 go_region
 go_wp2_with fail
 refine bodyPost_ret (Qek rfl _ _ w.heap.size 39 #[.bool false,.int .u64 0,.string (⟨#[]⟩:ByteArray),.string (⟨#[]⟩:ByteArray)] (0,0) _ rfl (Qds (Qds (Qds (Qds T7.out.1 0 _) 1 _) 2 _) 3 _) hu39 rfl qq_7) rfl ?_;exact⟨rfl,Qcx (Qjo (Qjo (Qjo (Qjo T7.out.2.2.2.1 (Nat.le_refl _)) (Nat.le_refl _)) (Nat.le_refl _)) (Nat.le_refl _))⟩
theorem r7_3_0(k:Nat)(a0:ByteArray)(w:World)(hz:0<a0.size)(hk:bt a0 0=3)(g1:ByteArray)(g2 g3 q:Int)(hg:Qbb.f k (a0.extract 1 a0.size) 0 0=some (g1,g2,g3,q))(t1:ByteArray)(t2 t3:Int)(t4:ByteArray)(ht:Qbc.f k g1 g2 g3 1 4096=some (t1,t2,t3,t4))(e1:ByteArray)(e2 e3:Int)(he:Qav.f t1 t2 t3=some (e1,e2,e3))(hE:e3=0) :
  Calls Tryz.prog 136 #[.string a0] w fun e w'=>e=.returned (.tuple #[.agg #[.bool true,.int .u64 q,.string t4,.string (⟨#[]⟩:ByteArray)],.int .i64 0])∧Below w.heap.size w w':=by
 have hu39:=Tryz.underlying39;have hu257:=Tryz.underlying257;have HG:=QA hg;have HT:=QA ht;have HV:=True.intro;have HE:=QA he;have hx:∀h:0<a0.size,((a0[0]'h).toNat:Int)=3:=fun h=>(Qcv a0 0 h).trans hk
 have hq1:(0<(a0.size:Int))=True:=eq_true (by omega);have hq2:(0<a0.size)=True:=eq_true hz;have hq3:(1≤(a0.size:Int))=True:=eq_true (by omega);have hq4:decide (0<a0.size)=true:=decide_eq_true hz;have hq5:decide (1≤(a0.size:Int))=true:=decide_eq_true (by omega);have hq6:(a0.toList == ([]:List UInt8))=false:=beq_eq_false_iff_ne.2 (fun e=>by have:=(CodecP.size_nil_iff a0).1 e;omega);have hq8:a0.toList≠([]:List UInt8):=fun e=>by have:=(CodecP.size_nil_iff a0).1 e;omega
 have he3:e3=0:=hE;subst he3;clear hg ht he hk hz
 go_enter Tryz.func136,Tryz.ntmps136
 go_wp2_with (first
  |(go_at_call 189;refine(Qav.calls t1 t2 t3 e1 e2 0 _ HE.out).mono ?_;rintro ee w7 ⟨rfl,hb7⟩;have S7:=QA (T5.out.kept hb7);obtain⟨⟨a,b,c⟩,f70,f71,f72⟩:=S7.out.gc;have T7:=QA (S7.out.set e1 e2 0);obtain⟨⟨d,g,j⟩,_⟩:=T7.out.gc;obtain⟨⟨l,m,n,o⟩,p,r,s⟩:=T7.out.xc;obtain⟨⟨t,u,v,x⟩,y,z,A,B⟩:=T7.out.rc;obtain⟨WX,hWX,k1,k2,bX⟩:=T7.out.fin q t4 (⟨#[]⟩:ByteArray);have KX:=QA (And.intro k1 (And.intro k2 bX));rw[hWX]at KX;obtain⟨z0,z1,z2,z3⟩:=box4 KX.out.1;obtain⟨p0,p1,p2,p3⟩:=box4 KX.out.2.1;have o0:=Qdw KX.out.1 0;have o1:=Qdw KX.out.1 1;have o2:=Qdw KX.out.1 2;have o3:=Qdw KX.out.1 3;clear hWX k1 k2 bX;clear hb7)
  |(go_at_call 188;refine(Qbc.calls k g1 g2 g3 1 4096 t1 t2 t3 t4 _ HT.out).mono ?_;rintro ee w5 ⟨rfl,hb5⟩;have S5:=QA (S4.out.kept hb5);obtain⟨⟨D,E,G⟩,f50,f51,f52⟩:=S5.out.gc;have T5:=QA (S5.out.set t1 t2 t3);obtain⟨⟨I,J,K⟩,_⟩:=T5.out.gc;obtain⟨⟨L,M,O,P⟩,_⟩:=T5.out.xc;clear hb5)
  |(go_at_call 187;refine(Qbb.calls k (a0.extract 1 a0.size) 0 0 g1 g2 g3 q _ HG.out).mono ?_;rintro ee w3 ⟨rfl,hb3⟩;have S4:=QA (Qoy (w:=w) true g1 g2 g3 hb3);obtain⟨⟨T,U,W⟩,f40,f41,f42⟩:=S4.out.gc;clear hb3))
 refine bodyPost_ret (Qek rfl _ _ w.heap.size 39 #[.bool true,.int .u64 q,.string t4,.string (⟨#[]⟩:ByteArray)] (0,0) _ rfl (Qds (Qds (Qds (Qds KX.out.1 0 _) 1 _) 2 _) 3 _) hu39 rfl qq_7) rfl ?_;exact⟨rfl,Qjo (Qjo (Qjo (Qjo KX.out.2.2 (Nat.le_refl _)) (Nat.le_refl _)) (Nat.le_refl _)) (Nat.le_refl _)⟩
theorem r7_3_1(k:Nat)(a0:ByteArray)(w:World)(hz:0<a0.size)(hk:bt a0 0=3)(g1:ByteArray)(g2 g3 q:Int)(hg:Qbb.f k (a0.extract 1 a0.size) 0 0=some (g1,g2,g3,q))(t1:ByteArray)(t2 t3:Int)(t4:ByteArray)(ht:Qbc.f k g1 g2 g3 1 4096=some (t1,t2,t3,t4))(e1:ByteArray)(e2 e3:Int)(he:Qav.f t1 t2 t3=some (e1,e2,e3))(hE:e3≠0) :
  Calls Tryz.prog 136 #[.string a0] w fun e w'=>e=.returned (.tuple #[.agg #[.bool false,.int .u64 0,.string (⟨#[]⟩:ByteArray),.string (⟨#[]⟩:ByteArray)],.int .i64 e3])∧Below w.heap.size w w':=by
 have hu39:=Tryz.underlying39;have hu257:=Tryz.underlying257;have HG:=QA hg;have HT:=QA ht;have HV:=True.intro;have HE:=QA he;have hx:∀h:0<a0.size,((a0[0]'h).toNat:Int)=3:=fun h=>(Qcv a0 0 h).trans hk
 have hq1:(0<(a0.size:Int))=True:=eq_true (by omega);have hq2:(0<a0.size)=True:=eq_true hz;have hq3:(1≤(a0.size:Int))=True:=eq_true (by omega);have hq4:decide (0<a0.size)=true:=decide_eq_true hz;have hq5:decide (1≤(a0.size:Int))=true:=decide_eq_true (by omega);have hq6:(a0.toList == ([]:List UInt8))=false:=beq_eq_false_iff_ne.2 (fun e=>by have:=(CodecP.size_nil_iff a0).1 e;omega);have hq8:a0.toList≠([]:List UInt8):=fun e=>by have:=(CodecP.size_nil_iff a0).1 e;omega
 have he3:(e3 != 0)=true:=bne_iff_ne.2 hE
 skip
 clear hg ht he hk hz
 go_enter Tryz.func136,Tryz.ntmps136
 go_wp2_with (first
  |(go_at_call 189;refine(Qav.calls t1 t2 t3 e1 e2 e3 _ HE.out).mono ?_;rintro ee w7 ⟨rfl,hb7⟩;have S7:=QA (T5.out.kept hb7);obtain⟨⟨s,t,u⟩,f70,f71,f72⟩:=S7.out.gc;have T7:=QA (S7.out.set e1 e2 e3);obtain⟨⟨a,b,c⟩,_⟩:=T7.out.gc;obtain⟨⟨v,x,y,z⟩,A,B,D⟩:=T7.out.xc;obtain⟨⟨d,g,j,l⟩,m,n,o,r⟩:=T7.out.rc;clear hb7)
  |(go_at_call 188;refine(Qbc.calls k g1 g2 g3 1 4096 t1 t2 t3 t4 _ HT.out).mono ?_;rintro ee w5 ⟨rfl,hb5⟩;have S5:=QA (S4.out.kept hb5);obtain⟨⟨E,G,I⟩,f50,f51,f52⟩:=S5.out.gc;have T5:=QA (S5.out.set t1 t2 t3);obtain⟨⟨J,K,L⟩,_⟩:=T5.out.gc;obtain⟨⟨M,O,P,T⟩,_⟩:=T5.out.xc;clear hb5)
  |(go_at_call 187;refine(Qbb.calls k (a0.extract 1 a0.size) 0 0 g1 g2 g3 q _ HG.out).mono ?_;rintro ee w3 ⟨rfl,hb3⟩;have S4:=QA (Qoy (w:=w) true g1 g2 g3 hb3);obtain⟨⟨U,W,X⟩,f40,f41,f42⟩:=S4.out.gc;clear hb3))
 obtain⟨W8,hW8⟩:∃W8,W8=((w7.setCell ⟨w3.heap.size,0,none⟩ (.string e1)).setCell ⟨w3.heap.size,1,none⟩ (.int .i64 e2)).setCell ⟨w3.heap.size,2,none⟩ (.int .i64 e3):=⟨_,rfl⟩;clear a b c v x y z A B D d g j l m n o r;rw[← hW8]at T7 ⊢;clear hW8 s t u f70 f71 f72 S7;obtain⟨⟨a,b,c⟩,_⟩:=T7.out.gc;obtain⟨⟨d,g,j,l⟩,m,n,o,r⟩:=T7.out.rc;have ng:w3.heap.size≠w.heap.size:=by have:=T7.out.2.2.2.2.2;omega
 have zz:((((W8.setCell ⟨w.heap.size,0,none⟩ (.bool false)).setCell ⟨w.heap.size,1,none⟩ (.int .u64 0)).setCell ⟨w.heap.size,2,none⟩ (.string (⟨#[]⟩:ByteArray))).setCell ⟨w.heap.size,3,none⟩ (.string (⟨#[]⟩:ByteArray))).cell? ⟨w3.heap.size,2,none⟩=some (.int .i64 e3) :=
  (Qdv (Qdt (Qdt (Qdt (Qdt T7.out.2.2.1 (p:=⟨w.heap.size,0,none⟩) ng (.bool false)) (p:=⟨w.heap.size,1,none⟩) ng (.int .u64 0)) (p:=⟨w.heap.size,2,none⟩) ng (.string (⟨#[]⟩:ByteArray))) (p:=⟨w.heap.size,3,none⟩) ng (.string (⟨#[]⟩:ByteArray))) 2).trans rfl
 go_region
 go_wp2_with fail
 refine bodyPost_ret (Qek rfl _ _ w.heap.size 39 #[.bool false,.int .u64 0,.string (⟨#[]⟩:ByteArray),.string (⟨#[]⟩:ByteArray)] (0,0) _ rfl (Qds (Qds (Qds (Qds T7.out.1 0 _) 1 _) 2 _) 3 _) hu39 rfl qq_7) rfl ?_;exact⟨rfl,Qcx (Qjo (Qjo (Qjo (Qjo T7.out.2.2.2.1 (Nat.le_refl _)) (Nat.le_refl _)) (Nat.le_refl _)) (Nat.le_refl _))⟩
theorem r7_none(a0:ByteArray)(w:World)(hz:a0.size=0) :
  Calls Tryz.prog 136 #[.string a0] w fun e w'=>e=.returned (.tuple #[.agg #[.bool false,.int .u64 0,.string (⟨#[]⟩:ByteArray),.string (⟨#[]⟩:ByteArray)],.int .i64 2])∧Below w.heap.size w w':=by
 have hu39:=Tryz.underlying39;have k1:=Qej w (.cells #[.bool false,.int .u64 0,.string (⟨#[]⟩:ByteArray),.string (⟨#[]⟩:ByteArray)] 39);have hb:Below w.heap.size w (w.alloc (.cells #[.bool false,.int .u64 0,.string (⟨#[]⟩:ByteArray),.string (⟨#[]⟩:ByteArray)] 39)):=Qcw (Below.refl _ _) _;have hq6:(a0.toList == ([]:List UInt8))=true:=beq_iff_eq.2 ((CodecP.size_nil_iff a0).2 hz);have hq8:a0.toList=([]:List UInt8):=(CodecP.size_nil_iff a0).2 hz
 go_enter Tryz.func136,Tryz.ntmps136
 go_wp2_with fail
 refine bodyPost_ret (Qek rfl _ _ w.heap.size 39 #[.bool false,.int .u64 0,.string (⟨#[]⟩:ByteArray),.string (⟨#[]⟩:ByteArray)] (0,0) _ rfl ?_ hu39 rfl qq_7) rfl ?_
 ·first|exact k1|exact Qds (Qds (Qds (Qds k1 0 _) 1 _) 2 _) 3 _
 ·exact⟨rfl,by first|exact hb|exact Qjo (Qjo (Qjo (Qjo hb (Nat.le_refl _)) (Nat.le_refl _)) (Nat.le_refl _)) (Nat.le_refl _)⟩
theorem r7_kind(a0:ByteArray)(w:World)(hz:0<a0.size)(y:Int)(hy:bt a0 0=y)(h2:y≠2)(h3:y≠3) :
  Calls Tryz.prog 136 #[.string a0] w fun e w'=>e=.returned (.tuple #[.agg #[.bool false,.int .u64 0,.string (⟨#[]⟩:ByteArray),.string (⟨#[]⟩:ByteArray)],.int .i64 4])∧Below w.heap.size w w':=by
 have hu39:=Tryz.underlying39;have k1:=Qej w (.cells #[.bool false,.int .u64 0,.string (⟨#[]⟩:ByteArray),.string (⟨#[]⟩:ByteArray)] 39);have hb:Below w.heap.size w (w.alloc (.cells #[.bool false,.int .u64 0,.string (⟨#[]⟩:ByteArray),.string (⟨#[]⟩:ByteArray)] 39)):=Qcw (Below.refl _ _) _;have hx:∀h:0<a0.size,((a0[0]'h).toNat:Int)=y:=fun h=>(Qcv a0 0 h).trans hy
 have hq1:(0<(a0.size:Int))=True:=eq_true (by omega);have hq2:(0<a0.size)=True:=eq_true hz;have hq4:decide (0<a0.size)=true:=decide_eq_true hz;have hq6:(a0.toList == ([]:List UInt8))=false:=beq_eq_false_iff_ne.2 (fun e=>by have:=(CodecP.size_nil_iff a0).1 e;omega);have hq8:a0.toList≠([]:List UInt8):=fun e=>by have:=(CodecP.size_nil_iff a0).1 e;omega
 have a:(y != 2)=true:=bne_iff_ne.2 h2;have b:(y != 3)=true:=bne_iff_ne.2 h3;clear hy
 go_enter Tryz.func136,Tryz.ntmps136
 go_wp2_with fail
 refine bodyPost_ret (Qek rfl _ _ w.heap.size 39 #[.bool false,.int .u64 0,.string (⟨#[]⟩:ByteArray),.string (⟨#[]⟩:ByteArray)] (0,0) _ rfl ?_ hu39 rfl qq_7) rfl ?_
 ·first|exact k1|exact Qds (Qds (Qds (Qds k1 0 _) 1 _) 2 _) 3 _
 ·exact⟨rfl,by first|exact hb|exact Qjo (Qjo (Qjo (Qjo hb (Nat.le_refl _)) (Nat.le_refl _)) (Nat.le_refl _)) (Nat.le_refl _)⟩
theorem Qbn.calls(k:Nat)(a0:ByteArray)(r1:Bool)(r2:Int)(r3 r4:ByteArray)(r5:Int)(w:World)(h:Qbn.f k a0=some (r1,r2,r3,r4,r5)) :
  Calls Tryz.prog 136 #[.string a0] w fun e w'=>e=.returned (.tuple #[.agg #[.bool r1,.int .u64 r2,.string r3,.string r4],.int .i64 r5])∧Below w.heap.size w w':=by
 unfold Qbn.f at h
 by_cases hz:a0.size=0
 ·rw[if_pos hz]at h;simp only[Option.some.injEq,Prod.mk.injEq]at h;obtain⟨rfl,rfl,rfl,rfl,rfl⟩:=h;exact r7_none a0 w hz
 ·rw [if_neg hz]at h
  by_cases hk:bt a0 0≠2∧bt a0 0≠3
  ·rw[if_pos hk]at h;simp only[Option.some.injEq,Prod.mk.injEq]at h;obtain⟨rfl,rfl,rfl,rfl,rfl⟩:=h;exact r7_kind a0 w (by omega) _ rfl hk.1 hk.2
  ·rw[if_neg hk]at h;obtain⟨⟨g1,g2,g3,q⟩,hg,h⟩:=Option.bind_eq_some_iff.mp h;obtain⟨⟨t1,t2,t3,t4⟩,ht,h⟩:=Option.bind_eq_some_iff.mp h;dsimp only at ht h
   by_cases h3:bt a0 0=3
   ·rw[if_pos h3]at h;obtain⟨⟨e1,e2,e3⟩,he,h⟩:=Option.bind_eq_some_iff.mp h;dsimp only at h
    by_cases hE:e3=0
    ·rw[if_pos hE]at h;simp only[Option.some.injEq,Prod.mk.injEq]at h;obtain⟨rfl,rfl,rfl,rfl,rfl⟩:=h;exact r7_3_0 k a0 w (by omega) h3 g1 g2 g3 _ hg t1 t2 t3 _ ht e1 e2 e3 he hE
    ·rw[if_neg hE]at h;simp only[Option.some.injEq,Prod.mk.injEq]at h;obtain⟨rfl,rfl,rfl,rfl,rfl⟩:=h;exact r7_3_1 k a0 w (by omega) h3 g1 g2 g3 _ hg t1 t2 t3 _ ht e1 e2 _ he hE
   ·rw[if_neg h3]at h;obtain⟨⟨v1,v2,v3,v4⟩,hv,h⟩:=Option.bind_eq_some_iff.mp h;obtain⟨⟨e1,e2,e3⟩,he,h⟩:=Option.bind_eq_some_iff.mp h;dsimp only at he h;have h2:bt a0 0=2:=by omega
    by_cases hE:e3=0
    ·rw[if_pos hE]at h;simp only[Option.some.injEq,Prod.mk.injEq]at h;obtain⟨rfl,rfl,rfl,rfl,rfl⟩:=h;exact r7_2_0 k a0 w (by omega) h2 g1 g2 g3 _ hg t1 t2 t3 _ ht v1 v2 v3 _ hv e1 e2 e3 he hE
    ·rw[if_neg hE]at h;simp only[Option.some.injEq,Prod.mk.injEq]at h;obtain⟨rfl,rfl,rfl,rfl,rfl⟩:=h;exact r7_2_1 k a0 w (by omega) h2 g1 g2 g3 _ hg t1 t2 t3 _ ht v1 v2 v3 _ hv e1 e2 _ he hE
theorem Qqh(b g:Nat)(bs:List Int)(i x:Int)(hx:x=YtnnofopfbeklbaaGreatW.PrintWords.rd bs i)(hb:CodecP.Bytes bs)(hi:0≤i)(hl:bs.length≤140737488355328)(hs:i<(bs.length:Int))(hbg:b≤g)(w:World)(hbw:b≤w.heap.size)(hI:IsCur w b g bs i) :
  Calls Tryz.prog 174 #[.pointer (some ⟨g,0,none⟩)] w fun e w'=>e=.returned (.int .u8 x)∧IsCur w' b g bs (i+1)∧Bw b g w w':=by
 obtain⟨j,rfl⟩:=Int.eq_ofNat_of_zero_le hi;have hj:j<bs.length:=by omega
 have hr:=CodecP.rd_range hb hj;obtain⟨k,y,h1,h2⟩:=CodecP.byte_key (YtnnofopfbeklbaaGreatW.PrintWords.rd bs (j:Int)) hr;have h:=Qpn k b g bs [YtnnofopfbeklbaaGreatW.PrintWords.rd bs (j:Int)] j y (by
  rw[CodecP.rd_get hj,show(j:Int).toNat=j from rfl,List.drop_eq_getElem_cons hj];rfl) hi hl (by omega) hbg h1 w hbw hI
 rw[h2,← hx]at h;exact h
def Qqi(bs:List Int):Nat→Int→Int→Int→Except (Int × Int) (Int × Int)
 | 0,_,i,x=>.ok (x,i)
 | f+1,j,i,x =>
  if i<(bs.length:Int)then
   if j=9∧1<YtnnofopfbeklbaaGreatW.PrintWords.rd bs i then .error (3,i+1)
   else if 128≤YtnnofopfbeklbaaGreatW.PrintWords.rd bs i then Qqi bs f (j+1) (i+1) (Go.bits .or .u64 x (shl .u64 (IntKind.u64.wrap (Go.bits .andNot .u8 (YtnnofopfbeklbaaGreatW.PrintWords.rd bs i) 128)) (7*j)))
   else if YtnnofopfbeklbaaGreatW.PrintWords.rd bs i=0∧0<j then .error (4,i+1)
   else .ok (Go.bits .or .u64 x (shl .u64 (IntKind.u64.wrap (Go.bits .andNot .u8 (YtnnofopfbeklbaaGreatW.PrintWords.rd bs i) 128)) (7*j)),i+1)
  else .error (2,i)
def Ends(b g:Nat)(bs:List Int)(w:World)(r:Except (Int × Int) (Value × Int))(e:Ending)(w':World):Prop :=
 match r with
 | .ok (v,i)=>e=.returned v∧IsCur w' b g bs i∧Bw b g w w'
 | .error (er,i)=>Qpl b g bs i er w e w'
theorem Qqj (b g:Nat) (bs:List Int) (i:Int) (hb:CodecP.Bytes bs) (hi:0≤i∧i≤(bs.length:Int)) (hl:bs.length≤140737488355328) (hbg:b≤g) (w:World) (hbw:b≤w.heap.size) (hI:IsCur w b g bs i) (R:Except (Int × Int) (Value × Int)) (hR:(Qqi bs 10 0 i 0).map (fun p=>(Value.int .u64 p.1,p.2))=R) :
  Calls Tryz.prog 176 #[.pointer (some ⟨g,0,none⟩)] w (Ends b g bs w R):=by
 have HI:=QA hI;have HR:=QA hR;have HBY:=QA hb;have HW:=QA hbw;clear hI hR hb hbw
 go_enter Tryz.func176,Tryz.ntmps176
 go_wp2
 go_loopw [3,6] (fun v3 v6 wr=>∃(x j i2:Int) (f:Nat),v3=.int .u64 x∧v6=.int .i64 j∧Aside0 (0≤j∧j+(f:Int)=10)∧Aside0 (0≤i2∧i2≤(bs.length:Int))∧Aside0 ((Qqi bs f j i2 x).map (fun p=>(Value.int .u64 p.1,p.2))=R)∧Aside0 (IsCur wr b g bs i2)∧Aside0 (Bw b g w wr))
  (fun _ v6 _=>10-(intOf v6).toNat)
 case atStart=>exact⟨0,0,i,10,rfl,rfl,⟨by omega⟩,⟨hi⟩,HR,HI,⟨Bw.refl _ _ _⟩⟩
 case round =>
  obtain⟨x,j,i2,f,rfl,rfl,HJ,HI2,HV,HIr,HBr⟩:=hrel;have hbr:b≤wr.heap.size:=Nat.le_trans HW.out HBr.out.size
  cases f with
  | zero =>
   have hj:j=10:=by have:=HJ.out;omega
   subst hj;have hv:=HV.out;simp only[Qqi,Except.map]at hv;subst hv;go_wp2;go_ret
   exact⟨rfl,HIr.out,HBr.out⟩
  | succ f =>
   have hv:=HV.out;clear HV;have hj1:decide (j<10)=true:=decide_eq_true (by have:=HJ.out;omega);simp only[Qqi]at hv
   by_cases hlt:i2<(bs.length:Int)
   ·rw [if_pos hlt]at hv;obtain⟨y,hy⟩:∃y,y=YtnnofopfbeklbaaGreatW.PrintWords.rd bs i2:=⟨_,rfl⟩;rw[← hy]at hv;have HY:=QA hy;have HLT:=QA hlt;have hw7:IntKind.i64.wrap (7*j)=7*j:=IntWalk.i64_in _ (by have:=HJ.out;omega);have hwj:IntKind.i64.wrap (j+1)=j+1:=IntWalk.i64_in _ (by have:=HJ.out;omega);obtain⟨s7,hs7⟩:∃s7:Int,7*j=s7:=⟨_,rfl⟩;have hw7':IntKind.i64.wrap (7*j)=s7:=hw7.trans hs7;have hs70:0≤s7:=by have:=HJ.out;omega
    rw[hs7]at hv;obtain⟨z,hz⟩:∃z:Int,Go.bits .andNot .u8 y 128=z:=⟨_,rfl⟩;rw[hz]at hv;obtain⟨j8,hj8⟩:∃j8:Int,(shl .u64 (IntKind.u64.wrap z) s7)=j8:=⟨_,rfl⟩;rw[hj8]at hv;have hj8_:(IntKind.u64.wrap ((IntKind.u64.wrap z)*2^min s7.toNat 64))=j8:=hj8;have hj8z:s7≤64→(IntKind.u64.wrap ((IntKind.u64.wrap z)*2^s7.toNat))=j8:=Qil hj8;have HS7:=QA hs7;clear hy hlt hw7 hs7 hj8;have hi20:=HI2.out.1
    by_cases h9:j=9∧1<y
    ·rw[if_pos h9]at hv;simp only[Except.map]at hv;subst hv;have m:(j == 9)=true:=by rw[h9.1];rfl
     have n:decide (1<y)=true:=decide_eq_true h9.2;clear h9
     go_wp2_with (first
      |(go_at_call 174;refine(Qqh b g bs i2 y HY.out HBY.out HI2.out.1 hl HLT.out hbg _ hbr HIr.out).mono ?_;rintro ee w1 ⟨rfl,hI1,hB1⟩)
      |(go_at_call 175;refine(Qpe b g bs (i2+1) 3 (by decide) _ hI1).mono ?_;rintro ee w2 ⟨rfl,rfl⟩))
     exact⟨rfl,rfl,hI1,HBr.out.trans hB1⟩
    ·rw [if_neg h9]at hv
     by_cases e9:j=9
     ·have m:(j == 9)=true:=by rw[e9];rfl
      have n:decide (1<y)=false:=decide_eq_false (fun h=>h9 ⟨e9,h⟩);clear h9 e9
      by_cases a:128≤y
      ·rw[if_pos a]at hv;have k:decide (128≤y)=true:=decide_eq_true a;have HV:=QA hv;clear hv a
       go_wp2_with (go_at_call 174;refine(Qqh b g bs i2 y HY.out HBY.out HI2.out.1 hl HLT.out hbg _ hbr HIr.out).mono ?_;rintro ee w1 ⟨rfl,hI1,hB1⟩)
       go_roundw
       case rel=>exact⟨_,j+1,i2+1,f,rfl,rfl,⟨by have:=HJ.out;omega⟩,⟨by have:=HI2.out;have:=HLT.out;omega⟩,HV,⟨hI1⟩,⟨HBr.out.trans hB1⟩⟩
       case measure=>have:=HJ.out;simp[intOf];omega
      ·rw[if_neg a]at hv;have k:decide (128≤y)=false:=decide_eq_false a;clear a
       by_cases c:y=0∧0<j
       ·rw[if_pos c]at hv;simp only[Except.map]at hv;subst hv;have d:(y == 0)=true:=by rw[c.1];rfl
        have l:decide (0<j)=true:=decide_eq_true c.2;clear c
        go_wp2_with (first
         |(go_at_call 174;refine(Qqh b g bs i2 y HY.out HBY.out HI2.out.1 hl HLT.out hbg _ hbr HIr.out).mono ?_;rintro ee w1 ⟨rfl,hI1,hB1⟩)
         |(go_at_call 175;refine(Qpe b g bs (i2+1) 4 (by decide) _ hI1).mono ?_;rintro ee w2 ⟨rfl,rfl⟩))
        exact⟨rfl,rfl,hI1,HBr.out.trans hB1⟩
       ·rw[if_neg c]at hv;simp only[Except.map]at hv;subst hv
        by_cases hyz:y=0
        ·have d:(y == 0)=true:=by rw[hyz];rfl
         have l:decide (0<j)=false:=decide_eq_false (fun h=>c ⟨hyz,h⟩);clear c hyz
         go_wp2_with (go_at_call 174;refine(Qqh b g bs i2 y HY.out HBY.out HI2.out.1 hl HLT.out hbg _ hbr HIr.out).mono ?_;rintro ee w1 ⟨rfl,hI1,hB1⟩)
         go_ret
         exact⟨rfl,hI1,HBr.out.trans hB1⟩
        ·have d:(y == 0)=false:=beq_eq_false_iff_ne.2 hyz;clear c hyz
         go_wp2_with (go_at_call 174;refine(Qqh b g bs i2 y HY.out HBY.out HI2.out.1 hl HLT.out hbg _ hbr HIr.out).mono ?_;rintro ee w1 ⟨rfl,hI1,hB1⟩)
         go_ret
         exact⟨rfl,hI1,HBr.out.trans hB1⟩
     ·have m:(j == 9)=false:=beq_eq_false_iff_ne.2 e9;clear h9 e9
      by_cases a:128≤y
      ·rw[if_pos a]at hv;have k:decide (128≤y)=true:=decide_eq_true a;have HV:=QA hv;clear hv a
       go_wp2_with (go_at_call 174;refine(Qqh b g bs i2 y HY.out HBY.out HI2.out.1 hl HLT.out hbg _ hbr HIr.out).mono ?_;rintro ee w1 ⟨rfl,hI1,hB1⟩)
       go_roundw
       case rel=>exact⟨_,j+1,i2+1,f,rfl,rfl,⟨by have:=HJ.out;omega⟩,⟨by have:=HI2.out;have:=HLT.out;omega⟩,HV,⟨hI1⟩,⟨HBr.out.trans hB1⟩⟩
       case measure=>have:=HJ.out;simp[intOf];omega
      ·rw[if_neg a]at hv;have k:decide (128≤y)=false:=decide_eq_false a;clear a
       by_cases c:y=0∧0<j
       ·rw[if_pos c]at hv;simp only[Except.map]at hv;subst hv;have d:(y == 0)=true:=by rw[c.1];rfl
        have l:decide (0<j)=true:=decide_eq_true c.2;clear c
        go_wp2_with (first
         |(go_at_call 174;refine(Qqh b g bs i2 y HY.out HBY.out HI2.out.1 hl HLT.out hbg _ hbr HIr.out).mono ?_;rintro ee w1 ⟨rfl,hI1,hB1⟩)
         |(go_at_call 175;refine(Qpe b g bs (i2+1) 4 (by decide) _ hI1).mono ?_;rintro ee w2 ⟨rfl,rfl⟩))
        exact⟨rfl,rfl,hI1,HBr.out.trans hB1⟩
       ·rw[if_neg c]at hv;simp only[Except.map]at hv;subst hv
        by_cases hyz:y=0
        ·have d:(y == 0)=true:=by rw[hyz];rfl
         have l:decide (0<j)=false:=decide_eq_false (fun h=>c ⟨hyz,h⟩);clear c hyz
         go_wp2_with (go_at_call 174;refine(Qqh b g bs i2 y HY.out HBY.out HI2.out.1 hl HLT.out hbg _ hbr HIr.out).mono ?_;rintro ee w1 ⟨rfl,hI1,hB1⟩)
         go_ret
         exact⟨rfl,hI1,HBr.out.trans hB1⟩
        ·have d:(y == 0)=false:=beq_eq_false_iff_ne.2 hyz;clear c hyz
         go_wp2_with (go_at_call 174;refine(Qqh b g bs i2 y HY.out HBY.out HI2.out.1 hl HLT.out hbg _ hbr HIr.out).mono ?_;rintro ee w1 ⟨rfl,hI1,hB1⟩)
         go_ret
         exact⟨rfl,hI1,HBr.out.trans hB1⟩
   ·rw[if_neg hlt]at hv;simp only[Except.map]at hv;subst hv
    go_wp2_with (go_at_call 174;refine(Qpo b g bs i2 HI2.out hl (by omega) _ hbr HIr.out).mono ?_;rintro ee w1 ⟨rfl,hI1,hB1⟩)
    exact⟨rfl,rfl,hI1,HBr.out.trans hB1⟩
theorem Qva{a b:List Int}(ha:CodecP.Bytes a)(hb:CodecP.Bytes b):(strOfNums a).toList=(strOfNums b).toList↔a=b:=by
 constructor
 ·intro h;have h2:strOfNums a=strOfNums b:=by
   rw[Lib.toList_data,Lib.toList_data]at h;have h3:=Array.toList_inj.1 h;generalize strOfNums a=x at h3 ⊢;generalize strOfNums b=y at h3 ⊢
   cases x
   cases y
   congr
  have:=congrArg bytesOf h2
  rwa [CodecP.bytesOf_nums ha,CodecP.bytesOf_nums hb]at this
 ·intro h;rw[h]
end Go.Proofs.YtnnofopfbeklbaaGreat.C
end
section
namespace Go.Proofs.YtnnofopfbeklbaaGreat.C
open Go.RowKit Go.Proofs.YtnnofopfbeklbaaGreatW.PrintWords Go.Proofs.YtnnofopfbeklbaaGreatW.PrintLast Go.Proofs.YtnnofopfbeklbaaGreatW.PrintMore
attribute [local go_sem] Qib Qic Qid Qie Qif Qig Qih Qii
def Qbo.f(k:Nat)(a0:ByteArray):Option (Bool × Int × ByteArray × ByteArray × Int):=(Qbp.f k a0).bind fun bt689=>(if bt689.2=0 then((Qbn.f k bt689.1).bind fun bt691=>(some (bt691.1,bt691.2.1,bt691.2.2.1,bt691.2.2.2.1,bt691.2.2.2.2)))else(some (false,0,(⟨#[]⟩:ByteArray),(⟨#[]⟩:ByteArray),bt689.2)))
theorem Qbo.calls(k:Nat)(a0:ByteArray)(r1:Bool)(r2:Int)(r3:ByteArray)(r4:ByteArray)(r5:Int)(w:World)(h:Qbo.f k a0=some (r1,r2,r3,r4,r5)) :
  Calls Tryz.prog 84 #[.string a0] w fun e w'=>e=.returned (.tuple #[.agg #[.bool r1,.int .u64 r2,.string r3,.string r4],.int .i64 r5])∧Below w.heap.size w w':=by
 have hu39:=Tryz.underlying39;have HB:=QA (Below.refl w.heap.size w);have H:((Qbp.f k a0).bind fun bt689=>(if bt689.2=0 then((Qbn.f k bt689.1).bind fun bt691=>(some (bt691.1,bt691.2.1,bt691.2.2.1,bt691.2.2.2.1,bt691.2.2.2.2)))else(some (false,0,(⟨#[]⟩:ByteArray),(⟨#[]⟩:ByteArray),bt689.2))))=some (r1,r2,r3,r4,r5):=h;clear h;replace H:=Option.bind_eq_some_iff.mp H;obtain⟨⟨d,c⟩,s,H⟩:=H;replace H:(if c=0 then((Qbn.f k d).bind fun bt691=>(some (bt691.1,bt691.2.1,bt691.2.2.1,bt691.2.2.2.1,bt691.2.2.2.2)))else(some (false,0,(⟨#[]⟩:ByteArray),(⟨#[]⟩:ByteArray),c)))=some (r1,r2,r3,r4,r5):=H;have A2:=QA s;clear s
 by_cases c3:c=0
 ·rw[if_pos c3]at H;have u:(c == 0)=true:=beq_iff_eq.mpr c3;have v:(c != 0)=false:=bne_eq_false_iff_eq.mpr c3;clear c3;replace H:=Option.bind_eq_some_iff.mp H;obtain⟨⟨j,l,m,n,p⟩,t,H⟩:=H;replace H:(some (j,l,m,n,p))=some (r1,r2,r3,r4,r5):=H;have A4:=QA t;clear t;simp only[Option.some.injEq,Prod.mk.injEq]at H;obtain⟨rfl,rfl,rfl,rfl,rfl⟩:=H
  go_enter Tryz.func84,Tryz.ntmps84
  go_wp2_with (first |((with_reducible refine Qft (N:=2) rfl ?_);refine qq_e 2 #[.bool false,.int .u64 0,.string (⟨#[]⟩:ByteArray),.string (⟨#[]⟩:ByteArray)] 39 ?_;intro b hg w5 hbox hb;have n_:=qn4 (Qfj qq_b hb) (hbox) (qq_s hg:w.heap.size≤b) (qq_s hg:w.heap.size≤b);clear HB;obtain⟨HB,a,q,r⟩:=n_;clear hb hbox hg) |((with_reducible refine Qij (f:=135) rfl ?_);refine Qgm (some 8) rfl rfl Tryz.func135 qq_7 rfl #[.string a0] rfl qq_1 ?_;(with_reducible refine(Qbp.calls k a0 d c _ A2.out).mono ?_);rintro e w6 ⟨rfl,hb⟩;refine⟨_,rfl,?_⟩;have n_:=qn2 (Qei (g:=b) (o:=.cells #[.bool false,.int .u64 0,.string (⟨#[]⟩:ByteArray),.string (⟨#[]⟩:ByteArray)] 39 (0,0)) qq_0 hb) (Qfj qq_b hb);clear a HB;obtain⟨a,HB⟩:=n_;(try clear hb);(try clear hb2);(try clear hk);(try clear hi)) |((with_reducible refine Qij (f:=136) rfl ?_);refine Qgm (some 16) rfl rfl Tryz.func136 qq_7 rfl #[.string d] rfl qq_1 ?_;(with_reducible refine(Qbn.calls k d j l m n p _ A4.out).mono ?_);rintro e w7 ⟨rfl,hb⟩;refine⟨_,rfl,?_⟩;have n_:=qn2 (Qei (g:=b) (o:=.cells #[.bool false,.int .u64 0,.string (⟨#[]⟩:ByteArray),.string (⟨#[]⟩:ByteArray)] 39 (0,0)) qq_0 hb) (Qfj qq_b hb);clear a HB;obtain⟨a,HB⟩:=n_;(try clear hb);(try clear hb2);(try clear hk);(try clear hi);obtain⟨B,D,E,G⟩:=qc4 a.out;have J:=Qdw a.out))
  refine bodyPost_ret (Qek rfl _ _ b 39 #[.bool j,.int .u64 l,.string m,.string n] (0,0) _ rfl qq_x Tryz.underlying39 rfl qq_7) rfl ?_;exact⟨qq_2,qq_b⟩
 ·rw[if_neg c3]at H;have u:(c == 0)=false:=beq_eq_false_iff_ne.mpr c3;have v:(c != 0)=true:=bne_iff_ne.mpr c3;simp only[Option.some.injEq,Prod.mk.injEq]at H;obtain⟨rfl,rfl,rfl,rfl,rfl⟩:=H
  go_enter Tryz.func84,Tryz.ntmps84
  go_wp2_with (first |((with_reducible refine Qft (N:=2) rfl ?_);refine qq_e 2 #[.bool false,.int .u64 0,.string (⟨#[]⟩:ByteArray),.string (⟨#[]⟩:ByteArray)] 39 ?_;intro b hg w9 hbox hb;have n_:=qn4 (Qfj qq_b hb) (hbox) (qq_s hg:w.heap.size≤b) (qq_s hg:w.heap.size≤b);clear HB;obtain⟨HB,a,q,r⟩:=n_;clear hb hbox hg) |((with_reducible refine Qij (f:=135) rfl ?_);refine Qgm (some 8) rfl rfl Tryz.func135 qq_7 rfl #[.string a0] rfl qq_1 ?_;(with_reducible refine(Qbp.calls k a0 d c _ A2.out).mono ?_);rintro e K ⟨rfl,hb⟩;refine⟨_,rfl,?_⟩;have n_:=qn2 (Qei (g:=b) (o:=.cells #[.bool false,.int .u64 0,.string (⟨#[]⟩:ByteArray),.string (⟨#[]⟩:ByteArray)] 39 (0,0)) qq_0 hb) (Qfj qq_b hb);clear a HB;obtain⟨a,HB⟩:=n_;(try clear hb);(try clear hb2);(try clear hk);(try clear hi);obtain⟨x,y,z,A⟩:=qc4 a.out;have I:=Qdw a.out))
  refine bodyPost_ret (Qek rfl _ _ b 39 #[.bool false,.int .u64 0,.string (⟨#[]⟩:ByteArray),.string (⟨#[]⟩:ByteArray)] (0,0) _ rfl qq_x Tryz.underlying39 rfl qq_7) rfl ?_;exact⟨qq_2,qq_b⟩
def Qbt.l0:Nat→Int→ByteArray→List (S160)→List (S164)→Int→Int→Option ((List (S160)))
 | 0,_,_,_,_,_,_=>none
 | k+1,x0,x1,x5,x13,x14,x15=>if x15<x14 then(if 0≤x15 then(if x15<(x13.length:Int)then(if 0≤(wrap64 ((wrap64 ((wrap64 ((Qjk x13 x15).f0))*(mx 1 x0)))+((Qjk x13 x15).f1)))then(if(wrap64 ((wrap64 ((wrap64 ((Qjk x13 x15).f0))*(mx 1 x0)))+((Qjk x13 x15).f1)))≤(wrap64 ((wrap64 ((wrap64 ((wrap64 ((wrap64 ((Qjk x13 x15).f0))*(mx 1 x0)))+((Qjk x13 x15).f1)))+((Qjk x13 x15).f2)))-((Qjk x13 x15).f1)))then(if(wrap64 ((wrap64 ((wrap64 ((wrap64 ((wrap64 ((Qjk x13 x15).f0))*(mx 1 x0)))+((Qjk x13 x15).f1)))+((Qjk x13 x15).f2)))-((Qjk x13 x15).f1)))≤(x1.size:Int)then((Qbo.f k (x1.extract ((wrap64 ((wrap64 ((wrap64 ((Qjk x13 x15).f0))*(mx 1 x0)))+((Qjk x13 x15).f1))):Int).toNat ((wrap64 ((wrap64 ((wrap64 ((wrap64 ((wrap64 ((Qjk x13 x15).f0))*(mx 1 x0)))+((Qjk x13 x15).f1)))+((Qjk x13 x15).f2)))-((Qjk x13 x15).f1))):Int).toNat)).bind fun bt879=>(if bt879.2.2.2.2=0 then(if x5.length<1954687338268 then(Qbt.l0 k x0 x1 (x5++[(⟨(⟨bt879.1,bt879.2.1,bt879.2.2.1,bt879.2.2.2.1⟩:S39),(Qjk x13 x15).f0,(Qjk x13 x15).f1,wrap64 ((wrap64 (((Qjk x13 x15).f2)-((Qjk x13 x15).f1)))+1)⟩:S160)]) x13 x14 (wrap64 (x15+1)))else(none))else(Qbt.l0 k x0 x1 x5 x13 x14 (wrap64 (x15+1)))))else(none))else(none))else(none))else(none))else(none))else(some x5)
def Qbt.f(k:Nat)(a0:Int)(a1:ByteArray):Option ((List (S160))):=(Qbs.f k a0 a1).bind fun t874=>(Qbt.l0 k a0 a1 ([]:List (S160)) t874 (t874.length:Int) 0)
theorem Qbt.calls (k:Nat) (a0:Int) (a1:ByteArray) (r:List (S160)) (w:World) (h:Qbt.f k a0 a1=some r) :
  Calls Tryz.prog 50 #[.int .i64 a0,.string a1] w fun e w'=>∃al:Value,e=.returned (al)∧Kd.R k160 160 w' w.heap.size (fun _=>True) al r∧Below w.heap.size w w':=by
 have hu164:=Tryz.underlying164;have hu39:=Tryz.underlying39;have hu160:=Tryz.underlying160;have HB:=QA (Below.refl w.heap.size w);have H:((Qbs.f k a0 a1).bind fun c=>(Qbt.l0 k a0 a1 ([]:List (S160)) c (c.length:Int) 0))=some r:=h;clear h;obtain⟨c,am,H⟩:=Option.bind_eq_some_iff.mp H;have A3:=QA am;clear am;have H':=QA H;clear H
 go_enter Tryz.func50,Tryz.ntmps50
 go_wp2_with (first |((with_reducible refine Qij (f:=92) rfl ?_);refine Qgm (some 13) rfl rfl Tryz.func92 qq_7 rfl #[.int .i64 a0,.string a1] rfl qq_1 ?_;(with_reducible refine(Qbs.calls k a0 a1 c _ A3.out).mono ?_);rintro e w4 ⟨bj,rfl,an,hb⟩;refine⟨_,rfl,?_⟩;have n_:=qn2 (Kd.R_lower an (Qfi qq_b)) (Qfj qq_b hb);clear HB;obtain⟨M,HB⟩:=n_;(try clear hb);(try clear hb2);(try clear hk);(try clear hi);(try clear an);obtain⟨Ao5,co5,eo5⟩:=Kd.R_slice M.out;subst eo5))
 go_loopg [5,15] k (fun kq v5 aM w'=>∃(q:List (S160)) (a:Int),aM=.int .i64 a∧Aside0 (Qbt.l0 kq a0 a1 q c (c.length:Int) a=some r)∧Aside0 (kq≤k)∧Aside0 (Kd.R k160 160 w' w.heap.size (fun _=>True) v5 q)∧Aside0 (Kd.R k164 164 w' w.heap.size (fun _=>True) (.slice Ao5 c.length co5) c)∧Aside0 (Below w.heap.size w w'))
 case atStart=>exact⟨(([]:List (S160))),(0),qq_4,H',⟨Nat.le_refl _⟩,⟨by first|exact Kd.R_nil _ _ _ _ _|exact Kd.N_nil _ _ _ _ _|exact Kd.V_nil _ _ _ _ _|exact Kd.Q_nil _ _ _ _ _|exact Kd.S_nil _ _ _ _ _⟩,⟨by(with_reducible repeat(first|apply Kd.R_alloc|apply Kd.R_drewN|apply Kd.R_drew));exact M.out⟩,⟨qq_b⟩⟩
 case round =>
  clear H';obtain⟨q,a,rfl,HA,HK1,HO_5,HO_13,HB⟩:=hrel
  cases gk with
  | zero=>exact absurd HA.out (by simp[Qbt.l0])
  | succ k1 =>
   have H:=HA.out;clear HA;simp only[Qbt.l0]at H
   by_cases c6:a<(c.length:Int)
   ·rw [if_pos c6]at H;have ap:=decide_eq_true c6;clear c6
    by_cases c7:0≤a
    ·rw [if_pos c7]at H;have bk:=decide_eq_true c7;clear c7
     by_cases c8:a<(c.length:Int)
     ·rw [if_pos c8]at H;have bl:=decide_eq_true c8;clear c8;obtain⟨x,J⟩:∃j_:Int,(mx 1 a0)=j_:=⟨_,rfl⟩;replace H:(if 0≤(wrap64 ((wrap64 ((wrap64 ((Qjk c a).f0))*(x)))+((Qjk c a).f1)))then(if(wrap64 ((wrap64 ((wrap64 ((Qjk c a).f0))*(x)))+((Qjk c a).f1)))≤(wrap64 ((wrap64 ((wrap64 ((wrap64 ((wrap64 ((Qjk c a).f0))*(x)))+((Qjk c a).f1)))+((Qjk c a).f2)))-((Qjk c a).f1)))then(if(wrap64 ((wrap64 ((wrap64 ((wrap64 ((wrap64 ((Qjk c a).f0))*(x)))+((Qjk c a).f1)))+((Qjk c a).f2)))-((Qjk c a).f1)))≤(a1.size:Int)then((Qbo.f k1 (a1.extract ((wrap64 ((wrap64 ((wrap64 ((Qjk c a).f0))*(x)))+((Qjk c a).f1))):Int).toNat ((wrap64 ((wrap64 ((wrap64 ((wrap64 ((wrap64 ((Qjk c a).f0))*(x)))+((Qjk c a).f1)))+((Qjk c a).f2)))-((Qjk c a).f1))):Int).toNat)).bind fun bt879=>(if bt879.2.2.2.2=0 then(if q.length<1954687338268 then(Qbt.l0 k1 a0 a1 (q++[(⟨(⟨bt879.1,bt879.2.1,bt879.2.2.1,bt879.2.2.2.1⟩:S39),(Qjk c a).f0,(Qjk c a).f1,wrap64 ((wrap64 (((Qjk c a).f2)-((Qjk c a).f1)))+1)⟩:S160)]) c (c.length:Int) (wrap64 (a+1)))else(none))else(Qbt.l0 k1 a0 a1 q c (c.length:Int) (wrap64 (a+1)))))else(none))else(none))else(none))=some r:=by first |(rw[J]at H;exact H) |(simp only[J]at H ⊢;exact H)
      (try(have aQ:1≤x:=by(rw[← J];unfold mx;(repeat' split)<;>omega)))
      (try(have aR:0≤x:=by omega))
      have aT:(if 1<a0 then a0 else 1)=x:=J;obtain⟨m,E⟩:∃j_:Int,(wrap64 ((wrap64 ((wrap64 ((Qjk c a).f0))*(x)))+((Qjk c a).f1)))=j_:=⟨_,rfl⟩;replace H:(if 0≤(m)then(if(m)≤(wrap64 ((wrap64 ((m)+((Qjk c a).f2)))-((Qjk c a).f1)))then(if(wrap64 ((wrap64 ((m)+((Qjk c a).f2)))-((Qjk c a).f1)))≤(a1.size:Int)then((Qbo.f k1 (a1.extract ((m):Int).toNat ((wrap64 ((wrap64 ((m)+((Qjk c a).f2)))-((Qjk c a).f1))):Int).toNat)).bind fun bt879=>(if bt879.2.2.2.2=0 then(if q.length<1954687338268 then(Qbt.l0 k1 a0 a1 (q++[(⟨(⟨bt879.1,bt879.2.1,bt879.2.2.1,bt879.2.2.2.1⟩:S39),(Qjk c a).f0,(Qjk c a).f1,wrap64 ((wrap64 (((Qjk c a).f2)-((Qjk c a).f1)))+1)⟩:S160)]) c (c.length:Int) (wrap64 (a+1)))else(none))else(Qbt.l0 k1 a0 a1 q c (c.length:Int) (wrap64 (a+1)))))else(none))else(none))else(none))=some r:=by first |(rw[E]at H;exact H) |(simp only[E]at H ⊢;exact H)
      have aN:(IntKind.i64.wrap ((wrap64 ((wrap64 ((Qjk c a).f0))*(x)))+((Qjk c a).f1)))=m:=(Qgo _).trans E
      by_cases K:0≤(m)
      ·rw [if_pos K]at H;have aU:=eq_true K;have aV:=decide_eq_true K;clear K
       by_cases O:(m)≤(wrap64 ((wrap64 ((m)+((Qjk c a).f2)))-((Qjk c a).f1)))
       ·rw [if_pos O]at H;have aW:=eq_true O;have aX:=decide_eq_true O
        by_cases P:(wrap64 ((wrap64 ((m)+((Qjk c a).f2)))-((Qjk c a).f1)))≤(a1.size:Int)
        ·rw[if_pos P]at H;have aY:=eq_true P;have aZ:=decide_eq_true P;replace H:=Option.bind_eq_some_iff.mp H;obtain⟨⟨s,t,u,v,y⟩,Y,H⟩:=H;replace H:(if y=0 then(if q.length<1954687338268 then(Qbt.l0 k1 a0 a1 (q++[(⟨(⟨s,t,u,v⟩:S39),(Qjk c a).f0,(Qjk c a).f1,wrap64 ((wrap64 (((Qjk c a).f2)-((Qjk c a).f1)))+1)⟩:S160)]) c (c.length:Int) (wrap64 (a+1)))else(none))else(Qbt.l0 k1 a0 a1 q c (c.length:Int) (wrap64 (a+1))))=some r:=H;have ao:=QA Y;clear Y
         by_cases I:y=0
         ·rw[if_pos I]at H;have ab:(y == 0)=true:=beq_iff_eq.mpr I;have ac:(y != 0)=false:=bne_eq_false_iff_eq.mpr I;clear I
          by_cases T:q.length<1954687338268
          ·rw[if_pos T]at H;have ad:=QA T;clear T;obtain⟨Z,G⟩:∃y_:List (S160),y_=(q++[(⟨(⟨s,t,u,v⟩:S39),(Qjk c a).f0,(Qjk c a).f1,wrap64 ((wrap64 (((Qjk c a).f2)-((Qjk c a).f1)))+1)⟩:S160)]):=⟨_,rfl⟩;replace H:(Qbt.l0 k1 a0 a1 Z c (c.length:Int) (wrap64 (a+1)))=some r:=by first |(rw[G];with_reducible exact H) |(have aa:=(Option.bind_some _ _).symm.trans H;rw[G];with_reducible exact aa) |(have aa:=(Option.bind_some _ _).symm.trans H;with_reducible exact aa)|with_reducible exact H |(rw[G];exact H)|exact H
           have ae:=QA G;clear G;have H':=QA H;clear H;have B:0≤(a:Int):=of_decide_eq_true qq_3;have D:a<(c.length:Int):=of_decide_eq_true qq_3;obtain⟨af,L,U,W,X⟩:=Qjl (Kd.R_reads' HO_13.out).2.2 a B D
           cases L
           replace B:=eq_true B;replace D:=eq_true D
           go_wp2_with (first |((with_reducible refine Qft (N:=7) rfl ?_);refine qq_e 7 #[.int .u64 0,.int .i64 0,.int .i64 0] 164 ?_;intro d hg bo hbox hb;have n_:=qn6 (Kd.R_below qq_11 hb) (Kd.R_below (Kd.R_elderB qq_24 d (Nat.le_of_eq hg.symm)) hb) (Qfj qq_b hb) (hbox) (qq_s hg:w.heap.size≤d) (qq_s hg:w.heap.size≤d);clear HO_5 HO_13 HB;obtain⟨HO_5,HO_13,HB,l,ag,ah⟩:=n_;clear hb hbox hg;obtain⟨aq,ar,au⟩:=qc3 l.out;have ba:=Qdw l.out) |((with_reducible refine Qij (f:=84) rfl ?_);refine Qgm (some 39) rfl rfl Tryz.func84 qq_7 rfl #[.string (a1.extract ((m):Int).toNat ((wrap64 ((wrap64 ((m)+((Qjk c a).f2)))-((Qjk c a).f1))):Int).toNat)] rfl (by(try simp only[List.map_toArray,List.map_cons,List.map_nil]);first|done |(simp only[E];rfl)|rfl |(simp only[List.length_drop,List.length_take];rfl)) ?_;(with_reducible refine(Qbo.calls k1 (a1.extract ((m):Int).toNat ((wrap64 ((wrap64 ((m)+((Qjk c a).f2)))-((Qjk c a).f1))):Int).toNat) s t u v y _ ao.out).mono ?_);rintro e bp ⟨rfl,hb⟩;refine⟨_,rfl,?_⟩;have n_:=qn4 (Kd.R_below (by(with_reducible repeat(first|apply Kd.R_alloc|apply Kd.R_drewN|apply Kd.R_drew));exact(Kd.R_mono (Kd.R_far (p:=⟨d,2,none⟩) (Kd.R_far (p:=⟨d,1,none⟩) (Kd.R_far (p:=⟨d,0,none⟩) (Kd.R_types HO_5.out l.out (by decide)) (fun _ hk=>hk.2) (.int .u64 ((Qjk c a).f0))) (fun _ hk=>hk.2) (.int .i64 ((Qjk c a).f1))) (fun _ hk=>hk.2) (.int .i64 ((Qjk c a).f2))) (fun _ h_=>h_.1))) hb) (Kd.R_below (by(with_reducible repeat(first|apply Kd.R_alloc|apply Kd.R_drewN|apply Kd.R_drew));exact(Kd.R_mono (Kd.R_far (p:=⟨d,2,none⟩) (Kd.R_far (p:=⟨d,1,none⟩) (Kd.R_far (p:=⟨d,0,none⟩) (Kd.R_mono HO_13.out (fun k_ hk=>(⟨hk,hk.2⟩:_∧k_≠d))) (fun _ hk=>hk.2) (.int .u64 ((Qjk c a).f0))) (fun _ hk=>hk.2) (.int .i64 ((Qjk c a).f1))) (fun _ hk=>hk.2) (.int .i64 ((Qjk c a).f2))) (fun _ h_=>h_.1))) hb) (Qei (g:=d) (o:=.cells #[.int .u64 ((Qjk c a).f0),.int .i64 ((Qjk c a).f1),.int .i64 ((Qjk c a).f2)] 164 (0,0)) qq_x hb) (Qfj qq_b hb);clear HO_5 HO_13 l HB;obtain⟨HO_5,HO_13,l,HB⟩:=n_;(try clear hb);(try clear hb2);(try clear hk);(try clear hi)) |((with_reducible refine Qft (N:=9) rfl ?_);refine qq_e 9 #[.bool false,.int .u64 0,.string (⟨#[]⟩:ByteArray),.string (⟨#[]⟩:ByteArray)] 39 ?_;intro j hg bq hbox hb;have n_:=qn9 (Kd.R_below qq_11 hb) (Kd.R_below qq_24 hb) (Qei (g:=d) (o:=.cells #[.int .u64 ((Qjk c a).f0),.int .i64 ((Qjk c a).f1),.int .i64 ((Qjk c a).f2)] 164 (0,0)) qq_0 hb) (Qfj qq_b hb) (hbox) (qq_s hg:w.heap.size≤j) (qq_s hg:w.heap.size≤j) ((by rw[hg];exact Nat.ne_of_lt (Qdu (g:=d) (o:=.cells #[.int .u64 ((Qjk c a).f0),.int .i64 ((Qjk c a).f1),.int .i64 ((Qjk c a).f2)] 164 (0,0)) qq_0):d≠j)) ((by rw[hg];exact Nat.ne_of_gt (Qdu (g:=d) (o:=.cells #[.int .u64 ((Qjk c a).f0),.int .i64 ((Qjk c a).f1),.int .i64 ((Qjk c a).f2)] 164 (0,0)) qq_0):j≠d));clear HO_5 HO_13 l HB;obtain⟨HO_5,HO_13,l,HB,n,ai,aj,z,A⟩:=n_;clear hb hbox hg;have bb:=A.out;have bc:=z.out;obtain⟨av,aw,ax,ay⟩:=qc4 n.out;have bd:=Qdw n.out;obtain⟨az,aA,aC⟩:=qc3 l.out;have be:=Qdw l.out) |((with_reducible refine Qik (b:=.append) (xs:=#[.tmp 44,.tmp 57]) rfl ?_);at_builtin;refine Kd.R_append k160 (w0:=w) w.heap.size rfl (.tmp 44) (.tmp 57) 100 160 (.agg #[(.bool false),(.int .u64 0),(.string ⟨#[]⟩),(.string ⟨#[]⟩),(.int .u64 0),(.int .i64 0),(.int .i64 0)]) 72 rfl Tryz.underlying100 info160 rfl (by decide) (by omega) u5 q (⟨(⟨s,t,u,v⟩:S39),(Qjk c a).f0,(Qjk c a).f1,wrap64 ((wrap64 (((Qjk c a).f2)-((Qjk c a).f1)))+1)⟩:S160) [.bool s,.int .u64 t,.string u,.string v,.int .u64 ((Qjk c a).f0),.int .i64 ((Qjk c a).f1),.int .i64 (wrap64 ((wrap64 (((Qjk c a).f2)-((Qjk c a).f1)))+1))] (fun _=>True) (fun _=>False) rfl qq_18 ?aP (fun _ hk=>hk.elim) ?aF ?aO ?aB ?aS ?aL ?_;(case aP=>exact Qjf _ _ _ (⟨(⟨s,t,u,v⟩:S39),(Qjk c a).f0,(Qjk c a).f1,wrap64 ((wrap64 (((Qjk c a).f2)-((Qjk c a).f1)))+1)⟩:S160));(case aB=>exact qq_b);(case aF=>exact(fun _ _=>trivial));(case aO=>exact(by(with_reducible repeat(first|apply Kd.R_alloc|apply Kd.R_drewN|apply Kd.R_drew));exact Kd.R_mono (Kd.R_far (p:=⟨j,3,none⟩) (Kd.R_far (p:=⟨j,2,none⟩) (Kd.R_far (p:=⟨j,1,none⟩) (Kd.R_far (p:=⟨j,0,none⟩) (Kd.R_types HO_5.out n.out (by decide)) (fun _ hk=>hk.2) (.bool s)) (fun _ hk=>hk.2) (.int .u64 t)) (fun _ hk=>hk.2) (.string u)) (fun _ hk=>hk.2) (.string v)) (fun _ hk=>trivial)));(case aS=>exact(Qfi qq_b));(case aL=>have:=ad.out;omega);intro bn br ho hb hg hat;rw[← ae.out]at ho;have n_:=qn5 (Kd.R_over' (by(with_reducible repeat(first|apply Kd.R_alloc|apply Kd.R_drewN|apply Kd.R_drew));exact(Kd.R_mono (Kd.R_far (p:=⟨j,3,none⟩) (Kd.R_far (p:=⟨j,2,none⟩) (Kd.R_far (p:=⟨j,1,none⟩) (Kd.R_far (p:=⟨j,0,none⟩) (Kd.R_types HO_13.out n.out (by decide)) (fun _ hk=>hk.2) (.bool s)) (fun _ hk=>hk.2) (.int .u64 t)) (fun _ hk=>hk.2) (.string u)) (fun _ hk=>hk.2) (.string v)) (fun _ h_=>h_.1))) (Kd.R_typed (by(with_reducible repeat(first|apply Kd.R_alloc|apply Kd.R_drewN|apply Kd.R_drew));exact(Kd.R_mono (Kd.R_far (p:=⟨j,3,none⟩) (Kd.R_far (p:=⟨j,2,none⟩) (Kd.R_far (p:=⟨j,1,none⟩) (Kd.R_far (p:=⟨j,0,none⟩) (Kd.R_types HO_5.out n.out (by decide)) (fun _ hk=>hk.2) (.bool s)) (fun _ hk=>hk.2) (.int .u64 t)) (fun _ hk=>hk.2) (.string u)) (fun _ hk=>hk.2) (.string v)) (fun _ h_=>h_.1)))) (by decide) hg) (Qdx (g:=d) (o:=.cells #[.int .u64 ((Qjk c a).f0),.int .i64 ((Qjk c a).f1),.int .i64 ((Qjk c a).f2)] 164 (0,0)) qq_9 hg (Kd.R_ne HO_5.out l.out (by decide))) (Qdx (g:=j) (o:=.cells #[.bool s,.int .u64 t,.string u,.string v] 39 (0,0)) qq_x hg (Kd.R_ne HO_5.out n.out (by decide))) (hb) (ho);clear HO_13 l n HB HO_5;obtain⟨HO_13,l,n,HB,ak⟩:=n_;clear ho hb hg hat))
           go_roundg k1
           case measure=>have:=HK1.out;omega
           case rel=>exact⟨(Z),(wrap64 (a+1)),qq_4,H',⟨by have:=HK1.out;omega⟩,⟨by(with_reducible repeat(first|apply Kd.R_alloc|apply Kd.R_drewN|apply Kd.R_drew));exact ak.out⟩,⟨by(with_reducible repeat(first|apply Kd.R_alloc|apply Kd.R_drewN|apply Kd.R_drew));exact Kd.R_mono HO_13.out (fun _ hk=>trivial)⟩,⟨qq_b⟩⟩
          ·rw[if_neg T]at H;exact absurd H (by simp)
         ·rw[if_neg I]at H;have ab:(y == 0)=false:=beq_eq_false_iff_ne.mpr I;have ac:(y != 0)=true:=bne_iff_ne.mpr I;have H':=QA H;clear H;have B:0≤(a:Int):=of_decide_eq_true qq_3;have D:a<(c.length:Int):=of_decide_eq_true qq_3;obtain⟨af,L,U,W,X⟩:=Qjl (Kd.R_reads' HO_13.out).2.2 a B D
          cases L
          replace B:=eq_true B;replace D:=eq_true D
          go_wp2_with (first |((with_reducible refine Qft (N:=7) rfl ?_);refine qq_e 7 #[.int .u64 0,.int .i64 0,.int .i64 0] 164 ?_;intro d hg bs hbox hb;have n_:=qn6 (Kd.R_below qq_11 hb) (Kd.R_below (Kd.R_elderB qq_24 d (Nat.le_of_eq hg.symm)) hb) (Qfj qq_b hb) (hbox) (qq_s hg:w.heap.size≤d) (qq_s hg:w.heap.size≤d);clear HO_5 HO_13 HB;obtain⟨HO_5,HO_13,HB,l,ag,ah⟩:=n_;clear hb hbox hg;obtain⟨aD,aE,aG⟩:=qc3 l.out;have bf:=Qdw l.out) |((with_reducible refine Qij (f:=84) rfl ?_);refine Qgm (some 39) rfl rfl Tryz.func84 qq_7 rfl #[.string (a1.extract ((m):Int).toNat ((wrap64 ((wrap64 ((m)+((Qjk c a).f2)))-((Qjk c a).f1))):Int).toNat)] rfl (by(try simp only[List.map_toArray,List.map_cons,List.map_nil]);first|done |(simp only[E];rfl)|rfl |(simp only[List.length_drop,List.length_take];rfl)) ?_;(with_reducible refine(Qbo.calls k1 (a1.extract ((m):Int).toNat ((wrap64 ((wrap64 ((m)+((Qjk c a).f2)))-((Qjk c a).f1))):Int).toNat) s t u v y _ ao.out).mono ?_);rintro e bu ⟨rfl,hb⟩;refine⟨_,rfl,?_⟩;have n_:=qn4 (Kd.R_below (by(with_reducible repeat(first|apply Kd.R_alloc|apply Kd.R_drewN|apply Kd.R_drew));exact(Kd.R_mono (Kd.R_far (p:=⟨d,2,none⟩) (Kd.R_far (p:=⟨d,1,none⟩) (Kd.R_far (p:=⟨d,0,none⟩) (Kd.R_types HO_5.out l.out (by decide)) (fun _ hk=>hk.2) (.int .u64 ((Qjk c a).f0))) (fun _ hk=>hk.2) (.int .i64 ((Qjk c a).f1))) (fun _ hk=>hk.2) (.int .i64 ((Qjk c a).f2))) (fun _ h_=>h_.1))) hb) (Kd.R_below (by(with_reducible repeat(first|apply Kd.R_alloc|apply Kd.R_drewN|apply Kd.R_drew));exact(Kd.R_mono (Kd.R_far (p:=⟨d,2,none⟩) (Kd.R_far (p:=⟨d,1,none⟩) (Kd.R_far (p:=⟨d,0,none⟩) (Kd.R_mono HO_13.out (fun k_ hk=>(⟨hk,hk.2⟩:_∧k_≠d))) (fun _ hk=>hk.2) (.int .u64 ((Qjk c a).f0))) (fun _ hk=>hk.2) (.int .i64 ((Qjk c a).f1))) (fun _ hk=>hk.2) (.int .i64 ((Qjk c a).f2))) (fun _ h_=>h_.1))) hb) (Qei (g:=d) (o:=.cells #[.int .u64 ((Qjk c a).f0),.int .i64 ((Qjk c a).f1),.int .i64 ((Qjk c a).f2)] 164 (0,0)) qq_x hb) (Qfj qq_b hb);clear HO_5 HO_13 l HB;obtain⟨HO_5,HO_13,l,HB⟩:=n_;(try clear hb);(try clear hb2);(try clear hk);(try clear hi)) |((with_reducible refine Qft (N:=9) rfl ?_);refine qq_e 9 #[.bool false,.int .u64 0,.string (⟨#[]⟩:ByteArray),.string (⟨#[]⟩:ByteArray)] 39 ?_;intro j hg bv hbox hb;have n_:=qn9 (Kd.R_below qq_11 hb) (Kd.R_below qq_24 hb) (Qei (g:=d) (o:=.cells #[.int .u64 ((Qjk c a).f0),.int .i64 ((Qjk c a).f1),.int .i64 ((Qjk c a).f2)] 164 (0,0)) qq_0 hb) (Qfj qq_b hb) (hbox) (qq_s hg:w.heap.size≤j) (qq_s hg:w.heap.size≤j) ((by rw[hg];exact Nat.ne_of_lt (Qdu (g:=d) (o:=.cells #[.int .u64 ((Qjk c a).f0),.int .i64 ((Qjk c a).f1),.int .i64 ((Qjk c a).f2)] 164 (0,0)) qq_0):d≠j)) ((by rw[hg];exact Nat.ne_of_gt (Qdu (g:=d) (o:=.cells #[.int .u64 ((Qjk c a).f0),.int .i64 ((Qjk c a).f1),.int .i64 ((Qjk c a).f2)] 164 (0,0)) qq_0):j≠d));clear HO_5 HO_13 l HB;obtain⟨HO_5,HO_13,l,HB,n,ai,aj,z,A⟩:=n_;clear hb hbox hg;have bg:=A.out;have bh:=z.out;obtain⟨aH,aI,aJ,aK⟩:=qc4 n.out;have bi:=Qdw n.out))
          go_roundg k1
          case measure=>have:=HK1.out;omega
          case rel=>exact⟨(q),(wrap64 (a+1)),qq_4,H',⟨by have:=HK1.out;omega⟩,⟨by(with_reducible repeat(first|apply Kd.R_alloc|apply Kd.R_drewN|apply Kd.R_drew));exact Kd.R_mono (Kd.R_far (p:=⟨j,3,none⟩) (Kd.R_far (p:=⟨j,2,none⟩) (Kd.R_far (p:=⟨j,1,none⟩) (Kd.R_far (p:=⟨j,0,none⟩) (Kd.R_types HO_5.out n.out (by decide)) (fun _ hk=>hk.2) (.bool s)) (fun _ hk=>hk.2) (.int .u64 t)) (fun _ hk=>hk.2) (.string u)) (fun _ hk=>hk.2) (.string v)) (fun _ hk=>trivial)⟩,⟨by(with_reducible repeat(first|apply Kd.R_alloc|apply Kd.R_drewN|apply Kd.R_drew));exact Kd.R_mono (Kd.R_far (p:=⟨j,3,none⟩) (Kd.R_far (p:=⟨j,2,none⟩) (Kd.R_far (p:=⟨j,1,none⟩) (Kd.R_far (p:=⟨j,0,none⟩) (Kd.R_types HO_13.out n.out (by decide)) (fun _ hk=>hk.2) (.bool s)) (fun _ hk=>hk.2) (.int .u64 t)) (fun _ hk=>hk.2) (.string u)) (fun _ hk=>hk.2) (.string v)) (fun _ hk=>trivial)⟩,⟨qq_b⟩⟩
        ·rw[if_neg P]at H;exact absurd H (by simp)
       ·rw[if_neg O]at H;exact absurd H (by simp)
      ·rw[if_neg K]at H;exact absurd H (by simp)
     ·rw[if_neg c8]at H;exact absurd H (by simp)
    ·rw[if_neg c7]at H;exact absurd H (by simp)
   ·rw[if_neg c6]at H;have ap:=decide_eq_false c6;clear c6;obtain rfl:=Option.some.inj H;go_wp2;go_ret
    exact⟨_,by first|rfl |(simp[Qio,Qip]<;>rfl) |(simp[*,Qio,Qip]<;>rfl),by(with_reducible repeat(first|apply Kd.R_alloc|apply Kd.R_drewN|apply Kd.R_drew));exact HO_5.out,qq_b⟩
def Qam.l0:Nat→List Int→List Int→List Int→Option (List Int × Int)
 | 0,_,_,_=>none
 | k+1,x0,x4,x5=>if(x5.length:Int) > 0 then(if 0<(x5.length:Int)then(if(wrap64 (rd x5 0)) > (x5.length:Int)then(some (([]:List Int),2))else(if 1≤(wrap64 (rd x5 0))then(if(wrap64 (rd x5 0))≤(x5.length:Int)then((some ((x5.take ((wrap64 (rd x5 0)):Int).toNat).drop 1:List Int)).bind fun y570=>(if x4.length+y570.length<140737488355328 then((some (x4++y570:List Int)).bind fun y575=>(if 0≤(wrap64 (rd x5 0))then((some (x5.drop ((wrap64 (rd x5 0)):Int).toNat:List Int)).bind fun y578=>(if(wrap64 (rd x5 0))≤254 then(if(y578.length:Int) > 0 then(if y575.length<140737488355328 then(Qam.l0 k x0 (y575++[0]) y578)else(none))else(Qam.l0 k x0 y575 y578))else(Qam.l0 k x0 y575 y578)))else(none)))else(none)))else(none))else(none)))else(none))else((Qal.f x4).bind fun t586=>((Qad.f t586 x0).bind fun t589=>(if t589=true then(some (x4,0))else(some (([]:List Int),4)))))
def Qam.f(k:Nat)(l0:List Int):Option (List Int × Int):=(Qae.f l0 0).bind fun t568=>(if t568≥0 then(some (([]:List Int),4))else(if(l0.length:Int)=0 then(some (([]:List Int),2))else(Qam.l0 k l0 ([]:List Int) l0)))
theorem Qam.calls (k:Nat) (P0_:Nat→Prop) (A0:Option Addr) (c0:Nat) (l0:List Int) (r1:List Int) (r2:Int) (w:World) (hs0:Kd.V (Kd.int .u8) 5 w w.heap.size (fun k_=>P0_ k_) (.slice A0 l0.length c0) l0) (h:Qam.f k l0=some (r1,r2)) :
  Calls Tryz.prog 170 #[.slice A0 l0.length c0] w fun e w'=>∃aK:Value,e=.returned (.tuple #[aK,.int .i64 r2])∧Kd.R (Kd.int .u8) 5 w' w.heap.size (fun k_=>(w.heap.size≤k_)) aK r1∧Below w.heap.size w w':=by
 have O:=QA (show Kd.V (Kd.int .u8) 5 w w.heap.size (fun k_=>(P0_ k_∨w.heap.size≤k_)) (.slice A0 l0.length c0) l0 from Kd.V_mono hs0 (fun k_ hk=>.inl hk));have HB:=QA (Below.refl w.heap.size w);have H:((Qae.f l0 0).bind fun z=>(if z≥0 then(some (([]:List Int),4))else(if(l0.length:Int)=0 then(some (([]:List Int),2))else(Qam.l0 k l0 ([]:List Int) l0))))=some (r1,r2):=h;clear h;obtain⟨z,aM,H⟩:=Option.bind_eq_some_iff.mp H;have A2:=QA aM;clear aM
 by_cases c3:z≥0
 ·rw[if_pos c3]at H;have al:decide (0≤z)=true:=decide_eq_true c3;clear c3;simp only[Option.some.injEq,Prod.mk.injEq]at H;obtain⟨rfl,rfl⟩:=H
  go_enter Tryz.func170,Tryz.ntmps170
  go_wp2_with (first |((with_reducible refine Qij (f:=80) rfl ?_);refine Qgm (some 8) rfl rfl Tryz.func80 qq_7 rfl #[.slice A0 l0.length c0,.int .u8 0] rfl qq_1 ?_;(with_reducible refine(Qae.calls _ _ l0 0 z _ ?side1 ?side2 A2.out).mono ?_);(case side1=>repeat(first|exact(Kd.V_reads' O.out).2.2 |(with_reducible refine Kd.C_alloc ?_ _) |(with_reducible refine Kd.C_drewN ?_ _) |(with_reducible refine Kd.C_drew ?_)));(case side2=>exact(Kd.V_reads' O.out).2.1);rintro e w' ⟨rfl,⟨nd,rfl⟩⟩;refine⟨_,rfl,?_⟩))
  go_ret2
  exact⟨_,by first|rfl |(simp[Qio,Qip]<;>rfl) |(simp[*,Qio,Qip]<;>rfl),by first|exact Kd.R_nil _ _ _ _ _|exact Kd.N_nil _ _ _ _ _|exact Kd.V_nil _ _ _ _ _|exact Kd.Q_nil _ _ _ _ _|exact Kd.S_nil _ _ _ _ _,qq_b⟩
 ·rw [if_neg c3]at H;have al:decide (0≤z)=false:=decide_eq_false c3;clear c3
  by_cases c4:(l0.length:Int)=0
  ·rw[if_pos c4]at H;have am:((l0.length:Int) == 0)=true:=beq_iff_eq.mpr c4;have an:((l0.length:Int) != 0)=false:=bne_eq_false_iff_eq.mpr c4;clear c4;simp only[Option.some.injEq,Prod.mk.injEq]at H;obtain⟨rfl,rfl⟩:=H
   go_enter Tryz.func170,Tryz.ntmps170
   go_wp2_with (first |((with_reducible refine Qij (f:=80) rfl ?_);refine Qgm (some 8) rfl rfl Tryz.func80 qq_7 rfl #[.slice A0 l0.length c0,.int .u8 0] rfl qq_1 ?_;(with_reducible refine(Qae.calls _ _ l0 0 z _ ?side1 ?side2 A2.out).mono ?_);(case side1=>repeat(first|exact(Kd.V_reads' O.out).2.2 |(with_reducible refine Kd.C_alloc ?_ _) |(with_reducible refine Kd.C_drewN ?_ _) |(with_reducible refine Kd.C_drew ?_)));(case side2=>exact(Kd.V_reads' O.out).2.1);rintro e w' ⟨rfl,⟨nd,rfl⟩⟩;refine⟨_,rfl,?_⟩))
   go_ret2
   exact⟨_,by first|rfl |(simp[Qio,Qip]<;>rfl) |(simp[*,Qio,Qip]<;>rfl),by first|exact Kd.R_nil _ _ _ _ _|exact Kd.N_nil _ _ _ _ _|exact Kd.V_nil _ _ _ _ _|exact Kd.Q_nil _ _ _ _ _|exact Kd.S_nil _ _ _ _ _,qq_b⟩
  ·rw [if_neg c4]at H;have am:((l0.length:Int) == 0)=false:=beq_eq_false_iff_ne.mpr c4;have an:((l0.length:Int) != 0)=true:=bne_iff_ne.mpr c4;have bf:¬(l0=[]):=fun h_=>c4 (by rw[h_];rfl)
   have H':=QA H;clear H
   go_enter Tryz.func170,Tryz.ntmps170
   go_wp2_with (first |((with_reducible refine Qij (f:=80) rfl ?_);refine Qgm (some 8) rfl rfl Tryz.func80 qq_7 rfl #[.slice A0 l0.length c0,.int .u8 0] rfl qq_1 ?_;(with_reducible refine(Qae.calls _ _ l0 0 z _ ?side1 ?side2 A2.out).mono ?_);(case side1=>repeat(first|exact(Kd.V_reads' O.out).2.2 |(with_reducible refine Kd.C_alloc ?_ _) |(with_reducible refine Kd.C_drewN ?_ _) |(with_reducible refine Kd.C_drew ?_)));(case side2=>exact(Kd.V_reads' O.out).2.1);rintro e w' ⟨rfl,⟨nd,rfl⟩⟩;refine⟨_,rfl,?_⟩))
   go_loopg [4,5] k (fun kq v4 v5 w'=>∃(s:List Int) (a:List Int),Aside0 (Qam.l0 kq l0 s a=some (r1,r2))∧Aside0 (kq≤k)∧Aside0 (Kd.V (Kd.int .u8) 5 w' w.heap.size (fun k_=>(P0_ k_∨w.heap.size≤k_)∧some k_≠(v4:Value).ownBlock) (.slice A0 l0.length c0) l0)∧Aside0 (Kd.R (Kd.int .u8) 5 w' w.heap.size (fun k_=>(w.heap.size≤k_)) v4 s)∧Aside0 (Kd.V (Kd.int .u8) 5 w' w.heap.size (fun k_=>(P0_ k_∨w.heap.size≤k_)∧some k_≠(v4:Value).ownBlock) v5 a)∧Aside0 (Below w.heap.size w w'))
   case atStart=>exact⟨(([]:List Int)),(l0),H',⟨Nat.le_refl _⟩,⟨by(with_reducible repeat(first|apply Kd.V_alloc|apply Kd.V_drewN|apply Kd.V_drew));exact Kd.V_mono O.out (fun _ hk=>⟨hk,(by simp[Value.ownBlock])⟩)⟩,⟨by first|exact Kd.R_nil _ _ _ _ _|exact Kd.N_nil _ _ _ _ _|exact Kd.V_nil _ _ _ _ _|exact Kd.Q_nil _ _ _ _ _|exact Kd.S_nil _ _ _ _ _⟩,⟨by(with_reducible repeat(first|apply Kd.V_alloc|apply Kd.V_drewN|apply Kd.V_drew));exact Kd.V_mono O.out (fun _ hk=>⟨hk,(by simp[Value.ownBlock])⟩)⟩,⟨qq_b⟩⟩
   case round =>
    clear H'
    try clear c3
    try clear al
    try clear c4
    try clear am
    try clear an
    try clear bf
    obtain⟨s,a,HA,HK1,HO_0,p,HO_5,HB⟩:=hrel
    cases gk with
    | zero=>exact absurd HA.out (by simp[Qam.l0])
    | succ k1 =>
     have H:=HA.out;clear HA;simp only[Qam.l0]at H
     by_cases c5:(a.length:Int) > 0
     ·rw [if_pos c5]at H;have bg:decide (0<(a.length:Int))=true:=decide_eq_true c5;have bh:decide (0<a.length)=true:=decide_eq_true (by omega);clear c5
      by_cases c6:0<(a.length:Int)
      ·rw [if_pos c6]at H;have bv:=decide_eq_true c6;have bw:decide (0<a.length)=true:=decide_eq_true (by omega);clear c6
       by_cases c7:(wrap64 (rd a 0)) > (a.length:Int)
       ·rw[if_pos c7]at H;have ao:decide ((a.length:Int)<(wrap64 (rd a 0)))=true:=decide_eq_true c7;clear c7;simp only[Option.some.injEq,Prod.mk.injEq]at H;obtain⟨rfl,rfl⟩:=H;obtain⟨Ao8,co8,eo8⟩:=Kd.V_slice HO_5.out;subst eo8;have q:0≤(0:Int):=(by omega);have r:0<(a.length:Int):=of_decide_eq_true qq_3;obtain⟨j,E,o⟩:=Kd.at_int (Kd.V_reads' HO_5.out).2.2 0 q r
        cases E
        have qi569:(0<a.length)=True:=eq_true (by omega)
        (try rw[show((0:Int)).toNat=0 from rfl]at o)
        (try rw[Addr.add_zero']at o)
        replace q:=eq_true q;replace r:=eq_true r;go_wp2
        go_ret2
        exact⟨_,by first|rfl |(simp[Qio,Qip]<;>rfl) |(simp[*,Qio,Qip]<;>rfl),by first|exact Kd.R_nil _ _ _ _ _|exact Kd.N_nil _ _ _ _ _|exact Kd.V_nil _ _ _ _ _|exact Kd.Q_nil _ _ _ _ _|exact Kd.S_nil _ _ _ _ _,qq_b⟩
       ·rw [if_neg c7]at H;have ao:decide ((a.length:Int)<(wrap64 (rd a 0)))=false:=decide_eq_false c7;clear c7
        by_cases c9:1≤(wrap64 (rd a 0))
        ·rw [if_pos c9]at H;have bi:=eq_true c9;have bj:=decide_eq_true c9;clear c9
         by_cases c10:(wrap64 (rd a 0))≤(a.length:Int)
         ·rw [if_pos c10]at H;have aA:=eq_true c10;have aC:=decide_eq_true c10;clear c10;obtain⟨l,G⟩:∃y_:List Int,y_=((a.take ((wrap64 (rd a 0)):Int).toNat).drop 1):=⟨_,rfl⟩;replace H:(if s.length+l.length<140737488355328 then((some (s++l:List Int)).bind fun n=>(if 0≤(wrap64 (rd a 0))then((some (a.drop ((wrap64 (rd a 0)):Int).toNat:List Int)).bind fun g=>(if(wrap64 (rd a 0))≤254 then(if(g.length:Int) > 0 then(if n.length<140737488355328 then(Qam.l0 k1 l0 (n++[0]) g)else(none))else(Qam.l0 k1 l0 n g))else(Qam.l0 k1 l0 n g)))else(none)))else(none))=some (r1,r2):=by first |(rw[G];with_reducible exact H) |(have u:=(Option.bind_some _ _).symm.trans H;rw[G];with_reducible exact u) |(have u:=(Option.bind_some _ _).symm.trans H;with_reducible exact u)|with_reducible exact H |(rw[G];exact H)|exact H
          have v:=QA G;clear G
          by_cases ag:s.length+l.length<140737488355328
          ·rw [if_pos ag]at H;have ac:=QA ag;clear ag;obtain⟨n,I⟩:∃y_:List Int,y_=(s++l):=⟨_,rfl⟩;replace H:(if 0≤(wrap64 (rd a 0))then((some (a.drop ((wrap64 (rd a 0)):Int).toNat:List Int)).bind fun g=>(if(wrap64 (rd a 0))≤254 then(if(g.length:Int) > 0 then(if n.length<140737488355328 then(Qam.l0 k1 l0 (n++[0]) g)else(none))else(Qam.l0 k1 l0 n g))else(Qam.l0 k1 l0 n g)))else(none))=some (r1,r2):=by first |(rw[I];with_reducible exact H) |(have u:=(Option.bind_some _ _).symm.trans H;rw[I];with_reducible exact u) |(have u:=(Option.bind_some _ _).symm.trans H;with_reducible exact u)|with_reducible exact H |(rw[I];exact H)|exact H
           have ad:=QA I;clear I;obtain⟨d,t⟩:∃j_:Int,(wrap64 (rd a 0))=j_:=⟨_,rfl⟩;replace H:(if 0≤(d)then((some (a.drop ((d):Int).toNat:List Int)).bind fun g=>(if(d)≤254 then(if(g.length:Int) > 0 then(if n.length<140737488355328 then(Qam.l0 k1 l0 (n++[0]) g)else(none))else(Qam.l0 k1 l0 n g))else(Qam.l0 k1 l0 n g)))else(none))=some (r1,r2):=by first |(rw[t]at H;exact H) |(simp only[t]at H ⊢;exact H)
           (try rw[t]at ao)
           (try rw[t]at bi)
           (try rw[t]at bj)
           (try rw[t]at aA)
           (try rw[t]at aC)
           (try rw[t]at v)
           (try rw[t]at v)
           have bq:(IntKind.i64.wrap (rd a 0))=d:=(Qgo _).trans t
           by_cases ae:0≤(d)
           ·rw [if_pos ae]at H;have br:=eq_true ae;have bs:=decide_eq_true ae;clear ae;have bu:=eq_true (of_decide_eq_true qq_3:(d)≤(a.length:Int));obtain⟨g,J⟩:∃y_:List Int,y_=(a.drop ((d):Int).toNat):=⟨_,rfl⟩;replace H:(if(d)≤254 then(if(g.length:Int) > 0 then(if n.length<140737488355328 then(Qam.l0 k1 l0 (n++[0]) g)else(none))else(Qam.l0 k1 l0 n g))else(Qam.l0 k1 l0 n g))=some (r1,r2):=by first |(rw[J];with_reducible exact H) |(have u:=(Option.bind_some _ _).symm.trans H;rw[J];with_reducible exact u) |(have u:=(Option.bind_some _ _).symm.trans H;with_reducible exact u)|with_reducible exact H |(rw[J];exact H)|exact H
            have B:=QA J;clear J
            by_cases aa:(d)≤254
            ·rw[if_pos aa]at H;have aD:=decide_eq_true aa;clear aa
             by_cases ab:(g.length:Int) > 0
             ·rw[if_pos ab]at H;have aE:decide (0<(g.length:Int))=true:=decide_eq_true ab;have aG:decide (0<g.length)=true:=decide_eq_true (by omega);clear ab
              by_cases ah:n.length<140737488355328
              ·rw[if_pos ah]at H;have aH:=QA ah;clear ah;obtain⟨ap,K⟩:∃y_:List Int,y_=(n++[0]):=⟨_,rfl⟩;replace H:(Qam.l0 k1 l0 ap g)=some (r1,r2):=by first |(rw[K];with_reducible exact H) |(have u:=(Option.bind_some _ _).symm.trans H;rw[K];with_reducible exact u) |(have u:=(Option.bind_some _ _).symm.trans H;with_reducible exact u)|with_reducible exact H |(rw[K];exact H)|exact H
               have aI:=QA K;clear K;have H':=QA H;clear H;obtain⟨Ao18,co18,eo18⟩:=Kd.V_slice HO_5.out;subst eo18;have q:0≤(0:Int):=(by omega);have r:0<(a.length:Int):=of_decide_eq_true qq_3;obtain⟨j,E,o⟩:=Kd.at_int (Kd.V_reads' HO_5.out).2.2 0 q r
               cases E
               have qi569:(0<a.length)=True:=eq_true (by omega)
               (try rw[show((0:Int)).toNat=0 from rfl]at o)
               (try rw[Addr.add_zero']at o)
               replace q:=eq_true q;replace r:=eq_true r;have aq:((d):Int)≤((a.length:Int):Int):=of_decide_eq_true qq_3;obtain⟨bx,hi019,_,hsz19,_⟩:=info_parts Qiq;have hroom19:a.length≤co18:=(Kd.V_reads' HO_5.out).2.1;have hC19:Kd.F (Kd.int .u8) _ _ (some j) a.length a:=(Kd.V_at (base:=w.heap.size) HO_5.out).2.2;have ql19:(1:Int)≤((d):Int):=of_decide_eq_true qq_3;have hcut19:=Qfg (P:=Tryz.prog) 52 5 .i64 .i64 Tryz.underlying52 hi019 1 hsz19 (some j) a.length co18 1 (d) (by omega) ql19 aq hroom19;have hr19:=Kd.F_mid (lo:=(1:Int).toNat) (hi:=((d):Int).toNat) (c:=co18) hC19 (by omega) (by omega) hroom19;obtain⟨aN,hA19⟩:∃A1,A1=(if co18=(1:Int).toNat then(some j)else((some j):Option Addr).map (·.add ((1:Int).toNat*1))):=⟨_,rfl⟩;obtain⟨aQ,hc19⟩:∃c1,c1=co18-(1:Int).toNat:=⟨_,rfl⟩;have T:l.length=((d):Int).toNat-(1:Int).toNat:=(by rw[v.out,List.length_drop,List.length_take]<;>omega);rw[show((a).take ((d):Int).toNat).drop (1:Int).toNat=l from v.out.symm]at hr19;replace hr19:Kd.F (Kd.int .u8) _ _ aN l.length l:=(by rw[hA19];exact hr19);rw[← T,← hA19,← hc19]at hcut19;have HO574:=QA (show Kd.V (Kd.int .u8) 5 _ w.heap.size _ (.slice aN l.length aQ) l from Kd.V_mk (by rw[T,hc19];exact Nat.sub_le_sub_right (Nat.le_trans (by omega) hroom19) _) hr19);have ai:=QA (show l.length≤aQ from by rw[T,hc19];exact Nat.sub_le_sub_right (Nat.le_trans (by omega) hroom19) _);clear hr19 hC19 hroom19 hi019 hsz19 hc19;have KY19:=QA T;have KA19:=QA hA19;clear T hA19;replace aq:=eq_true aq
               go_wp2_with (first |((with_reducible refine Qik (b:=.append) (xs:=#[.tmp 25,.tmp 28]) rfl ?_);(try(refine Qia (by rfl) ?_;dsimp only));at_builtin;refine Kd.R_append_rows (Kd.int .u8) (w0:=w) w.heap.size rfl (.tmp 25) (.tmp 28) 52 5 (.int .u8 0) 1 rfl Tryz.underlying52 Qiq rfl (by decide) (by omega) u4 s l _ _ _ (fun k_=>(w.heap.size≤k_)) (fun _=>False) rfl rfl ?aO ?aR (fun _ _ h=>h) (fun _ h=>h.elim) ?aF ?aB ?aS ?aL ?_;(case aR=>repeat(first|exact(Kd.V_reads' HO574.out).2.2 |(with_reducible refine Kd.C_alloc ?_ _) |(with_reducible refine Kd.C_drewN ?_ _) |(with_reducible refine Kd.C_drew ?_)));(case aB=>exact qq_b);(case aF=>exact(fun k_ hk=>(Nat.le_trans (Qfi qq_b) hk)));(case aO=>exact(by(with_reducible repeat(first|apply Kd.R_alloc|apply Kd.R_drewN|apply Kd.R_drew));exact p.out));(case aS=>exact(Qfi qq_b));(case aL=>have:=ac.out;omega);intro af bF ho hb hg hat;rw[← ad.out]at ho;have n_:=qn5 (Kd.V_afterv (ok:=(fun k_=>(P0_ k_∨w.heap.size≤k_))) qq_15 hg hat) (Kd.V_afterv (ok:=(fun k_=>(P0_ k_∨w.heap.size≤k_))) qq_14 hg hat) (Kd.V_afterv (ok:=(fun k_=>(P0_ k_∨w.heap.size≤k_))) qq_23 hg hat) (hb) (ho);clear HO_0 HO_5 HO574 HB p;obtain⟨HO_0,HO_5,HO574,HB,D⟩:=n_;clear ho hb hg hat;have ar:((d):Int)≤((a.length:Int):Int):=of_decide_eq_true qq_3;obtain⟨bz,hi021,_,hsz21,_⟩:=info_parts Qiq;have hroom21:a.length≤co18:=(Kd.V_reads' HO_5.out).2.1;have hC21:Kd.F (Kd.int .u8) _ _ (some j) a.length a:=(Kd.V_at (base:=w.heap.size) HO_5.out).2.2;have bk:(0:Int)≤((d):Int):=of_decide_eq_true qq_3;have hcut21:=Qev (P:=Tryz.prog) 52 5 .i64 Tryz.underlying52 hi021 1 hsz21 (some j) a.length co18 (d) bk ar;have hr21:=Kd.F_cut (m:=((d):Int).toNat) (c:=co18) hC21 (by omega) hroom21;obtain⟨aT,hA21⟩:∃A1,A1=(if co18=((d):Int).toNat then(some j)else((some j):Option Addr).map (·.add (((d):Int).toNat*1))):=⟨_,rfl⟩;obtain⟨aU,hc21⟩:∃c1,c1=co18-((d):Int).toNat:=⟨_,rfl⟩;have U:g.length=a.length-((d):Int).toNat:=(by rw[B.out,List.length_drop]<;>omega);rw[show(a).drop ((d):Int).toNat=g from B.out.symm]at hr21;replace hr21:Kd.F (Kd.int .u8) _ _ aT g.length g:=(by rw[hA21];exact hr21);rw[← U,← hA21,← hc21]at hcut21;have x:=QA (show Kd.V (Kd.int .u8) 5 _ w.heap.size _ (.slice aT g.length aU) g from Kd.V_mk (by rw[U,hc21];exact Nat.sub_le_sub_right hroom21 _) hr21);have aj:=QA (show g.length≤aU from by rw[U,hc21];exact Nat.sub_le_sub_right hroom21 _);clear hr21 hC21 hroom21 hi021 hsz21 hc21;have KY21:=QA U;have KA21:=QA hA21;clear U hA21;replace ar:=eq_true ar) |((with_reducible refine Qik (b:=.append) (xs:=#[.tmp 40,.tmp 41]) rfl ?_);(try(refine Qia (by rfl) ?_;dsimp only));at_builtin;refine Kd.R_append (Kd.int .u8) (w0:=w) w.heap.size rfl (.tmp 40) (.tmp 41) 52 5 (.int .u8 0) 1 rfl Tryz.underlying52 Qiq rfl (by decide) (by omega) af n 0 [.int .u8 0] (fun k_=>(w.heap.size≤k_)) (fun _=>False) rfl rfl ?aP (fun _ hk=>hk.elim) ?aF ?aO ?aB ?aS ?aL ?_;(case aP=>exact rfl);(case aB=>exact qq_b);(case aF=>exact(fun k_ hk=>(Nat.le_trans (Qfi qq_b) hk)));(case aO=>exact(by(with_reducible repeat(first|apply Kd.R_alloc|apply Kd.R_drewN|apply Kd.R_drew));exact D.out));(case aS=>exact(Qfi qq_b));(case aL=>have:=aH.out;omega);intro bA bG ho hb hg hat;rw[← aI.out]at ho;have n_:=qn6 (Kd.V_afterv (ok:=(fun k_=>(P0_ k_∨w.heap.size≤k_))) qq_15 hg hat) (Kd.V_afterv (ok:=(fun k_=>(P0_ k_∨w.heap.size≤k_))) qq_14 hg hat) (Kd.V_afterv (ok:=(fun k_=>(P0_ k_∨w.heap.size≤k_))) qq_23 hg hat) (Kd.V_afterv (ok:=(fun k_=>(P0_ k_∨w.heap.size≤k_))) (by(with_reducible repeat(first|apply Kd.V_alloc|apply Kd.V_drewN|apply Kd.V_drew));exact x.out) hg hat) (hb) (ho);clear HO_0 HO_5 HO574 x HB D;obtain⟨HO_0,HO_5,HO574,x,HB,aJ⟩:=n_;clear ho hb hg hat))
               go_roundg k1
               case measure=>have:=HK1.out;omega
               case rel=>exact⟨(ap),(g),H',⟨by have:=HK1.out;omega⟩,⟨by(with_reducible repeat(first|apply Kd.V_alloc|apply Kd.V_drewN|apply Kd.V_drew));exact HO_0.out⟩,⟨by(with_reducible repeat(first|apply Kd.R_alloc|apply Kd.R_drewN|apply Kd.R_drew));exact aJ.out⟩,⟨by(with_reducible repeat(first|apply Kd.V_alloc|apply Kd.V_drewN|apply Kd.V_drew));exact x.out⟩,⟨qq_b⟩⟩
              ·rw[if_neg ah]at H;exact absurd H (by simp)
             ·rw[if_neg ab]at H;have aE:decide (0<(g.length:Int))=false:=decide_eq_false ab;have aG:decide (0<g.length)=false:=decide_eq_false (by omega);clear ab;have H':=QA H;clear H;obtain⟨Ao23,co23,eo23⟩:=Kd.V_slice HO_5.out;subst eo23;have q:0≤(0:Int):=(by omega);have r:0<(a.length:Int):=of_decide_eq_true qq_3;obtain⟨j,E,o⟩:=Kd.at_int (Kd.V_reads' HO_5.out).2.2 0 q r
              cases E
              have qi569:(0<a.length)=True:=eq_true (by omega)
              (try rw[show((0:Int)).toNat=0 from rfl]at o)
              (try rw[Addr.add_zero']at o)
              replace q:=eq_true q;replace r:=eq_true r;have au:((d):Int)≤((a.length:Int):Int):=of_decide_eq_true qq_3;obtain⟨bB,hi024,_,hsz24,_⟩:=info_parts Qiq;have hroom24:a.length≤co23:=(Kd.V_reads' HO_5.out).2.1;have hC24:Kd.F (Kd.int .u8) _ _ (some j) a.length a:=(Kd.V_at (base:=w.heap.size) HO_5.out).2.2;have ql24:(1:Int)≤((d):Int):=of_decide_eq_true qq_3;have hcut24:=Qfg (P:=Tryz.prog) 52 5 .i64 .i64 Tryz.underlying52 hi024 1 hsz24 (some j) a.length co23 1 (d) (by omega) ql24 au hroom24;have hr24:=Kd.F_mid (lo:=(1:Int).toNat) (hi:=((d):Int).toNat) (c:=co23) hC24 (by omega) (by omega) hroom24;obtain⟨aV,hA24⟩:∃A1,A1=(if co23=(1:Int).toNat then(some j)else((some j):Option Addr).map (·.add ((1:Int).toNat*1))):=⟨_,rfl⟩;obtain⟨aW,hc24⟩:∃c1,c1=co23-(1:Int).toNat:=⟨_,rfl⟩;have W:l.length=((d):Int).toNat-(1:Int).toNat:=(by rw[v.out,List.length_drop,List.length_take]<;>omega);rw[show((a).take ((d):Int).toNat).drop (1:Int).toNat=l from v.out.symm]at hr24;replace hr24:Kd.F (Kd.int .u8) _ _ aV l.length l:=(by rw[hA24];exact hr24);rw[← W,← hA24,← hc24]at hcut24;have HO574:=QA (show Kd.V (Kd.int .u8) 5 _ w.heap.size _ (.slice aV l.length aW) l from Kd.V_mk (by rw[W,hc24];exact Nat.sub_le_sub_right (Nat.le_trans (by omega) hroom24) _) hr24);have ai:=QA (show l.length≤aW from by rw[W,hc24];exact Nat.sub_le_sub_right (Nat.le_trans (by omega) hroom24) _);clear hr24 hC24 hroom24 hi024 hsz24 hc24;have KY24:=QA W;have KA24:=QA hA24;clear W hA24;replace au:=eq_true au
              go_wp2_with (first |((with_reducible refine Qik (b:=.append) (xs:=#[.tmp 25,.tmp 28]) rfl ?_);(try(refine Qia (by rfl) ?_;dsimp only));at_builtin;refine Kd.R_append_rows (Kd.int .u8) (w0:=w) w.heap.size rfl (.tmp 25) (.tmp 28) 52 5 (.int .u8 0) 1 rfl Tryz.underlying52 Qiq rfl (by decide) (by omega) u4 s l _ _ _ (fun k_=>(w.heap.size≤k_)) (fun _=>False) rfl rfl ?aO ?aR (fun _ _ h=>h) (fun _ h=>h.elim) ?aF ?aB ?aS ?aL ?_;(case aR=>repeat(first|exact(Kd.V_reads' HO574.out).2.2 |(with_reducible refine Kd.C_alloc ?_ _) |(with_reducible refine Kd.C_drewN ?_ _) |(with_reducible refine Kd.C_drew ?_)));(case aB=>exact qq_b);(case aF=>exact(fun k_ hk=>(Nat.le_trans (Qfi qq_b) hk)));(case aO=>exact qq_8);(case aS=>exact(Qfi qq_b));(case aL=>have:=ac.out;omega);intro af bH ho hb hg hat;rw[← ad.out]at ho;have n_:=qn5 (Kd.V_afterv (ok:=(fun k_=>(P0_ k_∨w.heap.size≤k_))) qq_15 hg hat) (Kd.V_afterv (ok:=(fun k_=>(P0_ k_∨w.heap.size≤k_))) qq_14 hg hat) (Kd.V_afterv (ok:=(fun k_=>(P0_ k_∨w.heap.size≤k_))) qq_23 hg hat) (hb) (ho);clear HO_0 HO_5 HO574 HB p;obtain⟨HO_0,HO_5,HO574,HB,D⟩:=n_;clear ho hb hg hat;have av:((d):Int)≤((a.length:Int):Int):=of_decide_eq_true qq_3;obtain⟨bC,hi026,_,hsz26,_⟩:=info_parts Qiq;have hroom26:a.length≤co23:=(Kd.V_reads' HO_5.out).2.1;have hC26:Kd.F (Kd.int .u8) _ _ (some j) a.length a:=(Kd.V_at (base:=w.heap.size) HO_5.out).2.2;have bl:(0:Int)≤((d):Int):=of_decide_eq_true qq_3;have hcut26:=Qev (P:=Tryz.prog) 52 5 .i64 Tryz.underlying52 hi026 1 hsz26 (some j) a.length co23 (d) bl av;have hr26:=Kd.F_cut (m:=((d):Int).toNat) (c:=co23) hC26 (by omega) hroom26;obtain⟨aX,hA26⟩:∃A1,A1=(if co23=((d):Int).toNat then(some j)else((some j):Option Addr).map (·.add (((d):Int).toNat*1))):=⟨_,rfl⟩;obtain⟨aY,hc26⟩:∃c1,c1=co23-((d):Int).toNat:=⟨_,rfl⟩;have X:g.length=a.length-((d):Int).toNat:=(by rw[B.out,List.length_drop]<;>omega);rw[show(a).drop ((d):Int).toNat=g from B.out.symm]at hr26;replace hr26:Kd.F (Kd.int .u8) _ _ aX g.length g:=(by rw[hA26];exact hr26);rw[← X,← hA26,← hc26]at hcut26;have x:=QA (show Kd.V (Kd.int .u8) 5 _ w.heap.size _ (.slice aX g.length aY) g from Kd.V_mk (by rw[X,hc26];exact Nat.sub_le_sub_right hroom26 _) hr26);have aj:=QA (show g.length≤aY from by rw[X,hc26];exact Nat.sub_le_sub_right hroom26 _);clear hr26 hC26 hroom26 hi026 hsz26 hc26;have KY26:=QA X;have KA26:=QA hA26;clear X hA26;replace av:=eq_true av))
              go_roundg k1
              case measure=>have:=HK1.out;omega
              case rel=>exact⟨(n),(g),H',⟨by have:=HK1.out;omega⟩,⟨by(with_reducible repeat(first|apply Kd.V_alloc|apply Kd.V_drewN|apply Kd.V_drew));exact HO_0.out⟩,⟨by(with_reducible repeat(first|apply Kd.R_alloc|apply Kd.R_drewN|apply Kd.R_drew));exact D.out⟩,⟨by(with_reducible repeat(first|apply Kd.V_alloc|apply Kd.V_drewN|apply Kd.V_drew));exact x.out⟩,⟨qq_b⟩⟩
            ·rw[if_neg aa]at H;have aD:=decide_eq_false aa;clear aa;have H':=QA H;clear H;obtain⟨Ao27,co27,eo27⟩:=Kd.V_slice HO_5.out;subst eo27;have q:0≤(0:Int):=(by omega);have r:0<(a.length:Int):=of_decide_eq_true qq_3;obtain⟨j,E,o⟩:=Kd.at_int (Kd.V_reads' HO_5.out).2.2 0 q r
             cases E
             have qi569:(0<a.length)=True:=eq_true (by omega)
             (try rw[show((0:Int)).toNat=0 from rfl]at o)
             (try rw[Addr.add_zero']at o)
             replace q:=eq_true q;replace r:=eq_true r;have aw:((d):Int)≤((a.length:Int):Int):=of_decide_eq_true qq_3;obtain⟨bD,hi028,_,hsz28,_⟩:=info_parts Qiq;have hroom28:a.length≤co27:=(Kd.V_reads' HO_5.out).2.1;have hC28:Kd.F (Kd.int .u8) _ _ (some j) a.length a:=(Kd.V_at (base:=w.heap.size) HO_5.out).2.2;have ql28:(1:Int)≤((d):Int):=of_decide_eq_true qq_3;have hcut28:=Qfg (P:=Tryz.prog) 52 5 .i64 .i64 Tryz.underlying52 hi028 1 hsz28 (some j) a.length co27 1 (d) (by omega) ql28 aw hroom28;have hr28:=Kd.F_mid (lo:=(1:Int).toNat) (hi:=((d):Int).toNat) (c:=co27) hC28 (by omega) (by omega) hroom28;obtain⟨aZ,hA28⟩:∃A1,A1=(if co27=(1:Int).toNat then(some j)else((some j):Option Addr).map (·.add ((1:Int).toNat*1))):=⟨_,rfl⟩;obtain⟨ba,hc28⟩:∃c1,c1=co27-(1:Int).toNat:=⟨_,rfl⟩;have Y:l.length=((d):Int).toNat-(1:Int).toNat:=(by rw[v.out,List.length_drop,List.length_take]<;>omega);rw[show((a).take ((d):Int).toNat).drop (1:Int).toNat=l from v.out.symm]at hr28;replace hr28:Kd.F (Kd.int .u8) _ _ aZ l.length l:=(by rw[hA28];exact hr28);rw[← Y,← hA28,← hc28]at hcut28;have HO574:=QA (show Kd.V (Kd.int .u8) 5 _ w.heap.size _ (.slice aZ l.length ba) l from Kd.V_mk (by rw[Y,hc28];exact Nat.sub_le_sub_right (Nat.le_trans (by omega) hroom28) _) hr28);have ai:=QA (show l.length≤ba from by rw[Y,hc28];exact Nat.sub_le_sub_right (Nat.le_trans (by omega) hroom28) _);clear hr28 hC28 hroom28 hi028 hsz28 hc28;have KY28:=QA Y;have KA28:=QA hA28;clear Y hA28;replace aw:=eq_true aw
             go_wp2_with (first |((with_reducible refine Qik (b:=.append) (xs:=#[.tmp 25,.tmp 28]) rfl ?_);(try(refine Qia (by rfl) ?_;dsimp only));at_builtin;refine Kd.R_append_rows (Kd.int .u8) (w0:=w) w.heap.size rfl (.tmp 25) (.tmp 28) 52 5 (.int .u8 0) 1 rfl Tryz.underlying52 Qiq rfl (by decide) (by omega) u4 s l _ _ _ (fun k_=>(w.heap.size≤k_)) (fun _=>False) rfl rfl ?aO ?aR (fun _ _ h=>h) (fun _ h=>h.elim) ?aF ?aB ?aS ?aL ?_;(case aR=>repeat(first|exact(Kd.V_reads' HO574.out).2.2 |(with_reducible refine Kd.C_alloc ?_ _) |(with_reducible refine Kd.C_drewN ?_ _) |(with_reducible refine Kd.C_drew ?_)));(case aB=>exact qq_b);(case aF=>exact(fun k_ hk=>(Nat.le_trans (Qfi qq_b) hk)));(case aO=>exact qq_8);(case aS=>exact(Qfi qq_b));(case aL=>have:=ac.out;omega);intro af bI ho hb hg hat;rw[← ad.out]at ho;have n_:=qn5 (Kd.V_afterv (ok:=(fun k_=>(P0_ k_∨w.heap.size≤k_))) qq_15 hg hat) (Kd.V_afterv (ok:=(fun k_=>(P0_ k_∨w.heap.size≤k_))) qq_14 hg hat) (Kd.V_afterv (ok:=(fun k_=>(P0_ k_∨w.heap.size≤k_))) qq_23 hg hat) (hb) (ho);clear HO_0 HO_5 HO574 HB p;obtain⟨HO_0,HO_5,HO574,HB,D⟩:=n_;clear ho hb hg hat;have ax:((d):Int)≤((a.length:Int):Int):=of_decide_eq_true qq_3;obtain⟨bE,hi030,_,hsz30,_⟩:=info_parts Qiq;have hroom30:a.length≤co27:=(Kd.V_reads' HO_5.out).2.1;have hC30:Kd.F (Kd.int .u8) _ _ (some j) a.length a:=(Kd.V_at (base:=w.heap.size) HO_5.out).2.2;have bn:(0:Int)≤((d):Int):=of_decide_eq_true qq_3;have hcut30:=Qev (P:=Tryz.prog) 52 5 .i64 Tryz.underlying52 hi030 1 hsz30 (some j) a.length co27 (d) bn ax;have hr30:=Kd.F_cut (m:=((d):Int).toNat) (c:=co27) hC30 (by omega) hroom30;obtain⟨bb,hA30⟩:∃A1,A1=(if co27=((d):Int).toNat then(some j)else((some j):Option Addr).map (·.add (((d):Int).toNat*1))):=⟨_,rfl⟩;obtain⟨bc,hc30⟩:∃c1,c1=co27-((d):Int).toNat:=⟨_,rfl⟩;have Z:g.length=a.length-((d):Int).toNat:=(by rw[B.out,List.length_drop]<;>omega);rw[show(a).drop ((d):Int).toNat=g from B.out.symm]at hr30;replace hr30:Kd.F (Kd.int .u8) _ _ bb g.length g:=(by rw[hA30];exact hr30);rw[← Z,← hA30,← hc30]at hcut30;have x:=QA (show Kd.V (Kd.int .u8) 5 _ w.heap.size _ (.slice bb g.length bc) g from Kd.V_mk (by rw[Z,hc30];exact Nat.sub_le_sub_right hroom30 _) hr30);have aj:=QA (show g.length≤bc from by rw[Z,hc30];exact Nat.sub_le_sub_right hroom30 _);clear hr30 hC30 hroom30 hi030 hsz30 hc30;have KY30:=QA Z;have KA30:=QA hA30;clear Z hA30;replace ax:=eq_true ax))
             go_roundg k1
             case measure=>have:=HK1.out;omega
             case rel=>exact⟨(n),(g),H',⟨by have:=HK1.out;omega⟩,⟨by(with_reducible repeat(first|apply Kd.V_alloc|apply Kd.V_drewN|apply Kd.V_drew));exact HO_0.out⟩,⟨by(with_reducible repeat(first|apply Kd.R_alloc|apply Kd.R_drewN|apply Kd.R_drew));exact D.out⟩,⟨by(with_reducible repeat(first|apply Kd.V_alloc|apply Kd.V_drewN|apply Kd.V_drew));exact x.out⟩,⟨qq_b⟩⟩
           ·rw[if_neg ae]at H;exact absurd H (by simp)
          ·rw[if_neg ag]at H;exact absurd H (by simp)
         ·rw[if_neg c10]at H;exact absurd H (by simp)
        ·rw[if_neg c9]at H;exact absurd H (by simp)
      ·rw[if_neg c6]at H;exact absurd H (by simp)
     ·rw[if_neg c5]at H;have bg:decide (0<(a.length:Int))=false:=decide_eq_false c5;have bh:decide (0<a.length)=false:=decide_eq_false (by omega);clear c5;obtain⟨L,ay,H⟩:=Option.bind_eq_some_iff.mp H;have bd:=QA ay;clear ay;obtain⟨bo,az,H⟩:=Option.bind_eq_some_iff.mp H;have be:=QA az;clear az
      by_cases ak:bo=true
      ·subst ak;rw[if_pos rfl]at H;simp only[Option.some.injEq,Prod.mk.injEq]at H;obtain⟨rfl,rfl⟩:=H;obtain⟨Ao34,co34,eo34⟩:=Kd.V_slice HO_5.out;subst eo34;obtain⟨Ao35,co35,eo35⟩:=Kd.R_slice p.out;subst eo35
       go_wp2_with (first |((with_reducible refine Qij (f:=152) rfl ?_);refine Qgm (some 44) rfl rfl Tryz.func152 qq_7 rfl #[.slice Ao35 s.length co35] rfl qq_1 ?_;(with_reducible refine(Qal.calls _ _ s L _ ?side1 ?side2 bd.out).mono ?_);(case side1=>repeat(first|exact(Kd.R_reads' p.out).2.2 |(with_reducible refine Kd.C_alloc ?_ _) |(with_reducible refine Kd.C_drewN ?_ _) |(with_reducible refine Kd.C_drew ?_)));(case side2=>exact(Kd.R_reads' p.out).2.1);rintro e bJ ⟨bp,rfl,A,hb⟩;refine⟨_,rfl,?_⟩;have n_:=qn5 (Kd.V_elder' qq_15 (Kd.R_base A) hb) (Kd.R_elder' qq_8 (Kd.R_base A) hb) (Kd.V_elder' qq_14 (Kd.R_base A) hb) (Kd.R_lower (Kd.R_new' (Kd.R_newM (M:=fun k_=>(w.heap.size≤k_)) A (Qfi qq_b) (fun k_ h_=>h_)) (Kd.R_lt qq_8)) (Qfi qq_b)) (Qfj qq_b hb);clear HO_0 p HO_5 HB;obtain⟨HO_0,p,HO_5,y,HB⟩:=n_;(try clear hb);(try clear hb2);(try clear hk);(try clear hi);(try clear A);obtain⟨Ao37,co37,eo37⟩:=Kd.R_slice y.out;subst eo37) |((with_reducible refine Qij (f:=126) rfl ?_);refine Qgm (some 46) rfl rfl Tryz.func126 qq_7 rfl #[.slice Ao37 L.length co37,.slice A0 l0.length c0] rfl qq_1 ?_;(with_reducible refine(Qad.calls _ _ L _ _ l0 true _ ?side1 ?side2 ?side3 ?side4 be.out).mono ?_);(case side1=>repeat(first|exact(Kd.R_reads' y.out).2.2 |(with_reducible refine Kd.C_alloc ?_ _) |(with_reducible refine Kd.C_drewN ?_ _) |(with_reducible refine Kd.C_drew ?_)));(case side2=>exact(Kd.R_reads' y.out).2.1);(case side3=>repeat(first|exact(Kd.V_reads' HO_0.out).2.2 |(with_reducible refine Kd.C_alloc ?_ _) |(with_reducible refine Kd.C_drewN ?_ _) |(with_reducible refine Kd.C_drew ?_)));(case side4=>exact(Kd.V_reads' HO_0.out).2.1);rintro e w' ⟨rfl,⟨nd,rfl⟩⟩;refine⟨_,rfl,?_⟩))
       go_ret2
       exact⟨_,by first|rfl |(simp[Qio,Qip]<;>rfl) |(simp[*,Qio,Qip]<;>rfl),by(with_reducible repeat(first|apply Kd.R_alloc|apply Kd.R_drewN|apply Kd.R_drew));exact Kd.R_mono p.out (fun _ hk=>hk.1),qq_b⟩
      ·replace ak:=Bool.eq_false_iff.mpr ak;subst ak;rw[if_neg (show ¬(false=true)by decide)]at H;simp only[Option.some.injEq,Prod.mk.injEq]at H;obtain⟨rfl,rfl⟩:=H;obtain⟨Ao38,co38,eo38⟩:=Kd.V_slice HO_5.out;subst eo38;obtain⟨Ao39,co39,eo39⟩:=Kd.R_slice p.out;subst eo39
       go_wp2_with (first |((with_reducible refine Qij (f:=152) rfl ?_);refine Qgm (some 44) rfl rfl Tryz.func152 qq_7 rfl #[.slice Ao39 s.length co39] rfl qq_1 ?_;(with_reducible refine(Qal.calls _ _ s L _ ?side1 ?side2 bd.out).mono ?_);(case side1=>repeat(first|exact(Kd.R_reads' p.out).2.2 |(with_reducible refine Kd.C_alloc ?_ _) |(with_reducible refine Kd.C_drewN ?_ _) |(with_reducible refine Kd.C_drew ?_)));(case side2=>exact(Kd.R_reads' p.out).2.1);rintro e bK ⟨bp,rfl,A,hb⟩;refine⟨_,rfl,?_⟩;have n_:=qn5 (Kd.V_elder' qq_15 (Kd.R_base A) hb) (Kd.R_elder' qq_8 (Kd.R_base A) hb) (Kd.V_elder' qq_14 (Kd.R_base A) hb) (Kd.R_lower (Kd.R_new' (Kd.R_newM (M:=fun k_=>(w.heap.size≤k_)) A (Qfi qq_b) (fun k_ h_=>h_)) (Kd.R_lt qq_8)) (Qfi qq_b)) (Qfj qq_b hb);clear HO_0 p HO_5 HB;obtain⟨HO_0,p,HO_5,y,HB⟩:=n_;(try clear hb);(try clear hb2);(try clear hk);(try clear hi);(try clear A);obtain⟨Ao41,co41,eo41⟩:=Kd.R_slice y.out;subst eo41) |((with_reducible refine Qij (f:=126) rfl ?_);refine Qgm (some 46) rfl rfl Tryz.func126 qq_7 rfl #[.slice Ao41 L.length co41,.slice A0 l0.length c0] rfl qq_1 ?_;(with_reducible refine(Qad.calls _ _ L _ _ l0 false _ ?side1 ?side2 ?side3 ?side4 be.out).mono ?_);(case side1=>repeat(first|exact(Kd.R_reads' y.out).2.2 |(with_reducible refine Kd.C_alloc ?_ _) |(with_reducible refine Kd.C_drewN ?_ _) |(with_reducible refine Kd.C_drew ?_)));(case side2=>exact(Kd.R_reads' y.out).2.1);(case side3=>repeat(first|exact(Kd.V_reads' HO_0.out).2.2 |(with_reducible refine Kd.C_alloc ?_ _) |(with_reducible refine Kd.C_drewN ?_ _) |(with_reducible refine Kd.C_drew ?_)));(case side4=>exact(Kd.V_reads' HO_0.out).2.1);rintro e w' ⟨rfl,⟨nd,rfl⟩⟩;refine⟨_,rfl,?_⟩))
       go_ret2
       exact⟨_,by first|rfl |(simp[Qio,Qip]<;>rfl) |(simp[*,Qio,Qip]<;>rfl),by first|exact Kd.R_nil _ _ _ _ _|exact Kd.N_nil _ _ _ _ _|exact Kd.V_nil _ _ _ _ _|exact Kd.Q_nil _ _ _ _ _|exact Kd.S_nil _ _ _ _ _,qq_b⟩
def Qcf.f(a0_0:Int)(a0_1:Int)(a1:Int):Option (Int × Int × Int × Int × Int × Int):=(Qby.f a0_0 a0_1 a1).bind fun bt108=>(if bt108.2=0 then(some (a0_0,a0_1,a1,(bt108.1.length:Int),0,0))else(some (0,0,0,0,0,bt108.2)))
theorem Qcf.calls(b:Int)(c:Int)(a1:Int)(r1:Int)(r2:Int)(r3:Int)(r4:Int)(r5:Int)(r6:Int)(w:World)(h:Qcf.f b c a1=some (r1,r2,r3,r4,r5,r6)) :
  Calls Tryz.prog 52 #[.agg #[.int .u8 b,.int .u32 c],.int .u32 a1] w fun e w'=>e=.returned (.tuple #[.agg #[.int .u8 r1,.int .u32 r2,.int .u32 r3,.int .i64 r4,.int .i64 r5],.int .i64 r6])∧Below w.heap.size w w':=by
 have hu27:=Tryz.underlying27;have hu47:=Tryz.underlying47;have HB:=QA (Below.refl w.heap.size w);have H:((Qby.f b c a1).bind fun bt108=>(if bt108.2=0 then(some (b,c,a1,(bt108.1.length:Int),0,0))else(some (0,0,0,0,0,bt108.2))))=some (r1,r2,r3,r4,r5,r6):=h;clear h;replace H:=Option.bind_eq_some_iff.mp H;obtain⟨⟨p,l⟩,x,H⟩:=H;replace H:(if l=0 then(some (b,c,a1,(p.length:Int),0,0))else(some (0,0,0,0,0,l)))=some (r1,r2,r3,r4,r5,r6):=H;have A3:=QA x;clear x
 by_cases c4:l=0
 ·rw[if_pos c4]at H;have y:(l == 0)=true:=beq_iff_eq.mpr c4;have z:(l != 0)=false:=bne_eq_false_iff_eq.mpr c4;clear c4;simp only[Option.some.injEq,Prod.mk.injEq]at H;obtain⟨rfl,rfl,rfl,rfl,rfl,rfl⟩:=H
  go_enter Tryz.func52,Tryz.ntmps52
  go_wp2_with (first |((with_reducible refine Qft (N:=2) rfl ?_);refine qq_e 2 #[.int .u8 b,.int .u32 c] 27 ?_;intro a hg w5 hbox hb;have n_:=qn4 (Qfj qq_b hb) (hbox) (qq_s hg:w.heap.size≤a) (qq_s hg:w.heap.size≤a);clear HB;obtain⟨HB,d,s,t⟩:=n_;clear hb hbox hg) |((with_reducible refine Qft (N:=4) rfl ?_);refine qq_e 4 #[.int .u8 0,.int .u32 0,.int .u32 0,.int .i64 0,.int .i64 0] 47 ?_;intro j hg w6 hbox hb;have n_:=qn7 (Qei (g:=a) (o:=.cells #[.int .u8 b,.int .u32 c] 27 (0,0)) qq_0 hb) (Qfj qq_b hb) (hbox) (qq_s hg:w.heap.size≤j) (qq_s hg:w.heap.size≤j) ((by rw[hg];exact Nat.ne_of_lt (Qdu (g:=a) (o:=.cells #[.int .u8 b,.int .u32 c] 27 (0,0)) qq_0):a≠j)) ((by rw[hg];exact Nat.ne_of_gt (Qdu (g:=a) (o:=.cells #[.int .u8 b,.int .u32 c] 27 (0,0)) qq_0):j≠a));clear d HB;obtain⟨d,HB,k,u,v,m,n⟩:=n_;clear hb hbox hg;have af:=m.out;have ag:=n.out;obtain⟨X,Y⟩:=qc2 d.out;have ah:=Qdw d.out) |((with_reducible refine Qij (f:=53) rfl ?_);refine Qgm (some 11) rfl rfl Tryz.func53 qq_7 rfl #[.agg #[.int .u8 b,.int .u32 c],.int .u32 a1] rfl qq_1 ?_;(with_reducible refine(Qby.calls b c a1 p l _ A3.out).mono ?_);rintro e w9 ⟨A,rfl,q,hb⟩;refine⟨_,rfl,?_⟩;have n_:=qn4 (Kd.R_lower q (Qfi qq_b)) (Qei (g:=a) (o:=.cells #[.int .u8 b,.int .u32 c] 27 (0,0)) qq_0 hb) (Qei (g:=j) (o:=.cells #[.int .u8 0,.int .u32 0,.int .u32 0,.int .i64 0,.int .i64 0] 47 (0,0)) qq_0 hb) (Qfj qq_b hb);clear d k HB;obtain⟨r,d,k,HB⟩:=n_;(try clear hb);(try clear hb2);(try clear hk);(try clear hi);(try clear q);obtain⟨B,D⟩:=qc2 d.out;have Z:=Qdw d.out;obtain⟨Ao11,co11,eo11⟩:=Kd.R_slice r.out;subst eo11;obtain⟨E,G,I,J,K⟩:=qc5 k.out;have aa:=Qdw k.out))
  refine bodyPost_ret (Qek rfl _ _ j 47 #[.int .u8 b,.int .u32 c,.int .u32 a1,.int .i64 (p.length:Int),.int .i64 0] (0,0) _ rfl qq_x Tryz.underlying47 rfl qq_7) rfl ?_;exact⟨qq_2,qq_b⟩
 ·rw[if_neg c4]at H;have y:(l == 0)=false:=beq_eq_false_iff_ne.mpr c4;have z:(l != 0)=true:=bne_iff_ne.mpr c4;simp only[Option.some.injEq,Prod.mk.injEq]at H;obtain⟨rfl,rfl,rfl,rfl,rfl,rfl⟩:=H
  go_enter Tryz.func52,Tryz.ntmps52
  go_wp2_with (first |((with_reducible refine Qft (N:=2) rfl ?_);refine qq_e 2 #[.int .u8 b,.int .u32 c] 27 ?_;intro a hg ai hbox hb;have n_:=qn4 (Qfj qq_b hb) (hbox) (qq_s hg:w.heap.size≤a) (qq_s hg:w.heap.size≤a);clear HB;obtain⟨HB,d,s,t⟩:=n_;clear hb hbox hg) |((with_reducible refine Qft (N:=4) rfl ?_);refine qq_e 4 #[.int .u8 0,.int .u32 0,.int .u32 0,.int .i64 0,.int .i64 0] 47 ?_;intro j hg aj hbox hb;have n_:=qn7 (Qei (g:=a) (o:=.cells #[.int .u8 b,.int .u32 c] 27 (0,0)) qq_0 hb) (Qfj qq_b hb) (hbox) (qq_s hg:w.heap.size≤j) (qq_s hg:w.heap.size≤j) ((by rw[hg];exact Nat.ne_of_lt (Qdu (g:=a) (o:=.cells #[.int .u8 b,.int .u32 c] 27 (0,0)) qq_0):a≠j)) ((by rw[hg];exact Nat.ne_of_gt (Qdu (g:=a) (o:=.cells #[.int .u8 b,.int .u32 c] 27 (0,0)) qq_0):j≠a));clear d HB;obtain⟨d,HB,k,u,v,m,n⟩:=n_;clear hb hbox hg;have ab:=m.out;have ac:=n.out;obtain⟨L,M⟩:=qc2 d.out;have ad:=Qdw d.out) |((with_reducible refine Qij (f:=53) rfl ?_);refine Qgm (some 11) rfl rfl Tryz.func53 qq_7 rfl #[.agg #[.int .u8 b,.int .u32 c],.int .u32 a1] rfl qq_1 ?_;(with_reducible refine(Qby.calls b c a1 p l _ A3.out).mono ?_);rintro e ak ⟨A,rfl,q,hb⟩;refine⟨_,rfl,?_⟩;have n_:=qn4 (Kd.R_lower q (Qfi qq_b)) (Qei (g:=a) (o:=.cells #[.int .u8 b,.int .u32 c] 27 (0,0)) qq_0 hb) (Qei (g:=j) (o:=.cells #[.int .u8 0,.int .u32 0,.int .u32 0,.int .i64 0,.int .i64 0] 47 (0,0)) qq_0 hb) (Qfj qq_b hb);clear d k HB;obtain⟨r,d,k,HB⟩:=n_;(try clear hb);(try clear hb2);(try clear hk);(try clear hi);(try clear q);obtain⟨O,P,T,U,W⟩:=qc5 k.out;have ae:=Qdw k.out))
  refine bodyPost_ret (Qek rfl _ _ j 47 #[.int .u8 0,.int .u32 0,.int .u32 0,.int .i64 0,.int .i64 0] (0,0) _ rfl qq_x Tryz.underlying47 rfl qq_7) rfl ?_;exact⟨qq_2,qq_b⟩
end Go.Proofs.YtnnofopfbeklbaaGreat.C
end
