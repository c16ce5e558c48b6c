/- Texts of this claim's author and of the print of its functions, merged by merge.py. -/
import Derived.Test.YtnnofopfbeklbaaGreatMH02
import Derived.Test.YtnnofopfbeklbaaGreatMH21
import Derived.Test.YtnnofopfbeklbaaGreatMH04
import Derived.Test.YtnnofopfbeklbaaGreatMH06
import Derived.Test.YtnnofopfbeklbaaGreatMH07
import Derived.Test.YtnnofopfbeklbaaGreatMH20
import Derived.Test.YtnnofopfbeklbaaGreatMH11
import Derived.WalkLawsBesides
import Derived.Recover
import Derived.Test.YtnnofopfbeklbaaGreatMH12
import Derived.Test.YtnnofopfbeklbaaGreatMH13
import Derived.Test.YtnnofopfbeklbaaGreatMH10
set_option linter.unusedVariables false
set_option linter.unusedSimpArgs false
set_option maxHeartbeats 8000000
set_option maxRecDepth 100000
section
namespace Go.Proofs.YtnnofopfbeklbaaGreat.C
open Go.RowKit Go.Proofs.YtnnofopfbeklbaaGreatW.PrintWords Go.Proofs.YtnnofopfbeklbaaGreatW.PrintLast Go.Proofs.YtnnofopfbeklbaaGreatW.PrintMore
def Qbl.f(k:Nat)(a0:ByteArray):Option (Bool × Int × ByteArray × ByteArray × Int) :=
 if a0.size=0 then some (false,0,(⟨#[]⟩:ByteArray),(⟨#[]⟩:ByteArray),2)
 else if bt a0 0≠2∧bt a0 0≠3 then some (false,0,(⟨#[]⟩:ByteArray),(⟨#[]⟩:ByteArray),4)
 else(Qaz.f k (a0.extract 1 a0.size) 0 0).bind fun g=>(Qba.f k g.1 g.2.1 g.2.2.1 1 4096).bind fun t =>
  if bt a0 0=3 then(Qat.f t.1 t.2.1 t.2.2.1).bind fun e=>if e.2.2=0 then some (true,g.2.2.2,t.2.2.2,(⟨#[]⟩:ByteArray),0)else some (false,0,(⟨#[]⟩:ByteArray),(⟨#[]⟩:ByteArray),e.2.2)
  else(Qba.f k t.1 t.2.1 t.2.2.1 0 1048576).bind fun v=>(Qat.f v.1 v.2.1 v.2.2.1).bind fun e=>if e.2.2=0 then some (false,g.2.2.2,t.2.2.2,v.2.2.2,0)else some (false,0,(⟨#[]⟩:ByteArray),(⟨#[]⟩:ByteArray),e.2.2)
def R7(w W:World)(xb gb:Nat)(d:Bool)(g1:ByteArray)(g2 g3:Int):Prop :=
 W.heap[w.heap.size]? = some (.cells #[.bool false,.int .u64 0,.string (⟨#[]⟩:ByteArray),.string (⟨#[]⟩:ByteArray)] 39 (0,0))∧W.heap[xb]? = some (.cells #[.bool d,.int .u64 0,.string (⟨#[]⟩:ByteArray),.string (⟨#[]⟩:ByteArray)] 39 (0,0)) ∧
  W.heap[gb]? = some (.cells #[.string g1,.int .i64 g2,.int .i64 g3] 257 (0,0))∧Below w.heap.size w W∧w.heap.size<xb∧w.heap.size<gb
section
variable {w W W':World} {xb gb:Nat} {d:Bool} {g1:ByteArray} {g2 g3:Int}
theorem R7.kept(h:R7 w W xb gb d g1 g2 g3)(hb:Below W.heap.size W W'):R7 w W' xb gb d g1 g2 g3 :=
 ⟨Qeh h.1 hb,Qeh h.2.1 hb,Qeh h.2.2.1 hb,h.2.2.2.1.trans (Qjn hb h.2.2.2.1.size),h.2.2.2.2⟩
theorem R7.set(h:R7 w W xb gb d g1 g2 g3)(x1:ByteArray)(x2 x3:Int):R7 w (((W.setCell ⟨gb,0,none⟩ (.string x1)).setCell ⟨gb,1,none⟩ (.int .i64 x2)).setCell ⟨gb,2,none⟩ (.int .i64 x3)) xb gb d x1 x2 x3:=by
 obtain⟨h1,h2,h3,h4,h5,h6⟩:=h
 have n1:w.heap.size≠gb:=by omega
 have n2:xb≠gb:=Qdv h2 h3 (by decide)
 have hle:w.heap.size≤gb:=by omega
 exact⟨Qdq (Qdq (Qdq h1 (p:=⟨gb,0,none⟩) n1 _) (p:=⟨gb,1,none⟩) n1 _) (p:=⟨gb,2,none⟩) n1 _,Qdq (Qdq (Qdq h2 (p:=⟨gb,0,none⟩) n2 _) (p:=⟨gb,1,none⟩) n2 _) (p:=⟨gb,2,none⟩) n2 _,
  Qdp (Qdp (Qdp h3 0 _) 1 _) 2 _,Qjm (Qjm (Qjm h4 hle) hle) hle,h5,h6⟩
theorem R7.gc(h:R7 w W xb gb d g1 g2 g3):(W.cell? ⟨gb,0,none⟩=some (.string g1)∧W.cell? ⟨gb,1,none⟩=some (.int .i64 g2)∧W.cell? ⟨gb,2,none⟩=some (.int .i64 g3))∧W.frozen? ⟨gb,0,none⟩=false∧W.frozen? ⟨gb,1,none⟩=false∧W.frozen? ⟨gb,2,none⟩=false :=
 ⟨⟨(Qds h.2.2.1 0).trans rfl,(Qds h.2.2.1 1).trans rfl,(Qds h.2.2.1 2).trans rfl⟩,Qdt h.2.2.1 0,Qdt h.2.2.1 1,Qdt h.2.2.1 2⟩
theorem R7.xc(h:R7 w W xb gb d g1 g2 g3):(W.cell? ⟨xb,0,none⟩=some (.bool d)∧W.cell? ⟨xb,1,none⟩=some (.int .u64 0)∧W.cell? ⟨xb,2,none⟩=some (.string (⟨#[]⟩:ByteArray))∧W.cell? ⟨xb,3,none⟩=some (.string (⟨#[]⟩:ByteArray)))∧W.frozen? ⟨xb,1,none⟩=false∧W.frozen? ⟨xb,2,none⟩=false∧W.frozen? ⟨xb,3,none⟩=false :=
 ⟨box4 h.2.1,Qdt h.2.1 1,Qdt h.2.1 2,Qdt h.2.1 3⟩
theorem R7.rc(h:R7 w W xb gb d g1 g2 g3):(W.cell? ⟨w.heap.size,0,none⟩=some (.bool false)∧W.cell? ⟨w.heap.size,1,none⟩=some (.int .u64 0)∧W.cell? ⟨w.heap.size,2,none⟩=some (.string (⟨#[]⟩:ByteArray))∧W.cell? ⟨w.heap.size,3,none⟩=some (.string (⟨#[]⟩:ByteArray)))∧W.frozen? ⟨w.heap.size,0,none⟩=false∧W.frozen? ⟨w.heap.size,1,none⟩=false∧W.frozen? ⟨w.heap.size,2,none⟩=false∧W.frozen? ⟨w.heap.size,3,none⟩=false :=
 ⟨box4 h.1,Qdt h.1 0,Qdt h.1 1,Qdt h.1 2,Qdt h.1 3⟩
theorem R7.fin(h:R7 w W xb gb d g1 g2 g3)(q:Int)(a b:ByteArray):∃WX,WX=(((W.setCell ⟨xb,1,none⟩ (.int .u64 q)).setCell ⟨xb,2,none⟩ (.string a)).setCell ⟨xb,3,none⟩ (.string b))∧WX.heap[w.heap.size]? = some (.cells #[.bool false,.int .u64 0,.string (⟨#[]⟩:ByteArray),.string (⟨#[]⟩:ByteArray)] 39 (0,0)) ∧
  WX.heap[xb]? = some (.cells #[.bool d,.int .u64 q,.string a,.string b] 39 (0,0))∧Below w.heap.size w WX:=by
 obtain⟨h1,h2,h3,h4,h5,h6⟩:=h
 have n1:w.heap.size≠xb:=by omega
 have hle:w.heap.size≤xb:=by omega
 exact⟨_,rfl,Qdq (Qdq (Qdq h1 (p:=⟨xb,1,none⟩) n1 _) (p:=⟨xb,2,none⟩) n1 _) (p:=⟨xb,3,none⟩) n1 _,Qdp (Qdp (Qdp h2 1 _) 2 _) 3 _,Qjm (Qjm (Qjm h4 hle) hle) hle⟩
end
theorem Qoh{w w3:World}(d:Bool)(g1:ByteArray)(g2 g3:Int)(hb:Below ((w.alloc (.cells #[.bool false,.int .u64 0,.string (⟨#[]⟩:ByteArray),.string (⟨#[]⟩:ByteArray)] 39)).alloc (.cells #[.bool d,.int .u64 0,.string (⟨#[]⟩:ByteArray),.string (⟨#[]⟩:ByteArray)] 39)).heap.size ((w.alloc (.cells #[.bool false,.int .u64 0,.string (⟨#[]⟩:ByteArray),.string (⟨#[]⟩:ByteArray)] 39)).alloc (.cells #[.bool d,.int .u64 0,.string (⟨#[]⟩:ByteArray),.string (⟨#[]⟩:ByteArray)] 39)) w3) :
  R7 w (w3.alloc (.cells #[.string g1,.int .i64 g2,.int .i64 g3] 257)) (w.heap.size+1) w3.heap.size d g1 g2 g3:=by
 have k1:=Qee (Qei w (.cells #[.bool false,.int .u64 0,.string (⟨#[]⟩:ByteArray),.string (⟨#[]⟩:ByteArray)] 39)) (.cells #[.bool d,.int .u64 0,.string (⟨#[]⟩:ByteArray),.string (⟨#[]⟩:ByteArray)] 39)
 have k2:=Qei (w.alloc (.cells #[.bool false,.int .u64 0,.string (⟨#[]⟩:ByteArray),.string (⟨#[]⟩:ByteArray)] 39)) (.cells #[.bool d,.int .u64 0,.string (⟨#[]⟩:ByteArray),.string (⟨#[]⟩:ByteArray)] 39)
 rw[World.size_alloc]at k2
 have hs:((w.alloc (.cells #[.bool false,.int .u64 0,.string (⟨#[]⟩:ByteArray),.string (⟨#[]⟩:ByteArray)] 39)).alloc (.cells #[.bool d,.int .u64 0,.string (⟨#[]⟩:ByteArray),.string (⟨#[]⟩:ByteArray)] 39)).heap.size=w.heap.size+2:=by simp[World.size_alloc]
 have b2:Below w.heap.size w ((w.alloc (.cells #[.bool false,.int .u64 0,.string (⟨#[]⟩:ByteArray),.string (⟨#[]⟩:ByteArray)] 39)).alloc (.cells #[.bool d,.int .u64 0,.string (⟨#[]⟩:ByteArray),.string (⟨#[]⟩:ByteArray)] 39)):=Qcu (Qcu (Below.refl _ _) _) _
 have hz:=hb.size
 have b3:=b2.trans (Qjn hb b2.size)
 exact⟨Qee (Qeh k1 hb) _,Qee (Qeh k2 hb) _,Qei w3 _,b3.trans (Qjn (Qcu (Below.refl _ _) _) b3.size),Nat.lt_succ_self _,by omega⟩
theorem r7_2_0(k:Nat)(a0:ByteArray)(w:World)(hz:0<a0.size)(hk:bt a0 0=2)(g1:ByteArray)(g2 g3 q:Int)(hg:Qaz.f k (a0.extract 1 a0.size) 0 0=some (g1,g2,g3,q))(t1:ByteArray)(t2 t3:Int)(t4:ByteArray)(ht:Qba.f k g1 g2 g3 1 4096=some (t1,t2,t3,t4))(v1:ByteArray)(v2 v3:Int)(v4:ByteArray)(hv:Qba.f k t1 t2 t3 0 1048576=some (v1,v2,v3,v4))(e1:ByteArray)(e2 e3:Int)(he:Qat.f v1 v2 v3=some (e1,e2,e3))(hE:e3=0) :
  Calls Tryz.prog 136 #[.string a0] w fun e w'=>e=.returned (.tuple #[.agg #[.bool false,.int .u64 q,.string t4,.string v4],.int .i64 0])∧Below w.heap.size w w':=by
 have hu39:=Tryz.underlying39
 have hu257:=Tryz.underlying257
 have HG:=QA hg
 have HT:=QA ht
 have HV:=QA hv
 have HE:=QA he
 have hx:∀h:0<a0.size,((a0[0]'h).toNat:Int)=2:=fun h=>(Qct a0 0 h).trans hk
 have hq1:(0<(a0.size:Int))=True:=eq_true (by omega)
 have hq2:(0<a0.size)=True:=eq_true hz
 have hq3:(1≤(a0.size:Int))=True:=eq_true (by omega)
 have hq4:decide (0<a0.size)=true:=decide_eq_true hz
 have hq5:decide (1≤(a0.size:Int))=true:=decide_eq_true (by omega)
 have hq6:(a0.toList == ([]:List UInt8))=false:=beq_eq_false_iff_ne.2 (fun e=>by have:=(CodecP.size_nil_iff a0).1 e;omega)
 have hq8:a0.toList≠([]:List UInt8):=fun e=>by have:=(CodecP.size_nil_iff a0).1 e;omega
 have he3:e3=0:=hE
 subst he3
 clear hg ht hv he hk hz
 go_enter Tryz.func136,Tryz.ntmps136
 go_wp2_with (first
  |(go_at_call 189;refine(Qat.calls v1 v2 v3 e1 e2 0 _ HE.out).mono ?_;rintro ee w7 ⟨rfl,hb7⟩;have S7:=QA (T6.out.kept hb7);obtain⟨⟨c70,c71,c72⟩,f70,f71,f72⟩:=S7.out.gc;have T7:=QA (S7.out.set e1 e2 0);obtain⟨⟨d70,d71,d72⟩,_⟩:=T7.out.gc;obtain⟨⟨x70,x71,x72,x73⟩,y71,y72,y73⟩:=T7.out.xc;obtain⟨⟨r70,r71,r72,r73⟩,s70,s71,s72,s73⟩:=T7.out.rc;obtain⟨WX,hWX,k1,k2,bX⟩:=T7.out.fin q t4 v4;have KX:=QA (And.intro k1 (And.intro k2 bX));rw[hWX]at KX;obtain⟨z0,z1,z2,z3⟩:=box4 KX.out.1;obtain⟨p0,p1,p2,p3⟩:=box4 KX.out.2.1;have o0:=Qdt KX.out.1 0;have o1:=Qdt KX.out.1 1;have o2:=Qdt KX.out.1 2;have o3:=Qdt KX.out.1 3;clear hWX k1 k2 bX;clear hb7)
  |(go_at_call 188;have gate:=T5.out;clear gate;refine(Qba.calls k t1 t2 t3 0 1048576 v1 v2 v3 v4 _ HV.out).mono ?_;rintro ee w6 ⟨rfl,hb6⟩;have S6:=QA (T5.out.kept hb6);obtain⟨⟨c60,c61,c62⟩,f60,f61,f62⟩:=S6.out.gc;have T6:=QA (S6.out.set v1 v2 v3);obtain⟨⟨d60,d61,d62⟩,_⟩:=T6.out.gc;clear hb6)
  |(go_at_call 188;refine(Qba.calls k g1 g2 g3 1 4096 t1 t2 t3 t4 _ HT.out).mono ?_;rintro ee w5 ⟨rfl,hb5⟩;have S5:=QA (S4.out.kept hb5);obtain⟨⟨c50,c51,c52⟩,f50,f51,f52⟩:=S5.out.gc;have T5:=QA (S5.out.set t1 t2 t3);obtain⟨⟨d50,d51,d52⟩,_⟩:=T5.out.gc;obtain⟨⟨x50,x51,x52,x53⟩,_⟩:=T5.out.xc;clear hb5)
  |(go_at_call 187;refine(Qaz.calls k (a0.extract 1 a0.size) 0 0 g1 g2 g3 q _ HG.out).mono ?_;rintro ee w3 ⟨rfl,hb3⟩;have S4:=QA (Qoh (w:=w) false g1 g2 g3 hb3);obtain⟨⟨c40,c41,c42⟩,f40,f41,f42⟩:=S4.out.gc;clear hb3))
 refine bodyPost_ret (Qej rfl _ _ w.heap.size 39 #[.bool false,.int .u64 q,.string t4,.string v4] (0,0) _ rfl (Qdp (Qdp (Qdp (Qdp KX.out.1 0 _) 1 _) 2 _) 3 _) hu39 rfl qq_6) rfl ?_
 exact⟨rfl,Qjm (Qjm (Qjm (Qjm KX.out.2.2 (Nat.le_refl _)) (Nat.le_refl _)) (Nat.le_refl _)) (Nat.le_refl _)⟩
theorem r7_2_1(k:Nat)(a0:ByteArray)(w:World)(hz:0<a0.size)(hk:bt a0 0=2)(g1:ByteArray)(g2 g3 q:Int)(hg:Qaz.f k (a0.extract 1 a0.size) 0 0=some (g1,g2,g3,q))(t1:ByteArray)(t2 t3:Int)(t4:ByteArray)(ht:Qba.f k g1 g2 g3 1 4096=some (t1,t2,t3,t4))(v1:ByteArray)(v2 v3:Int)(v4:ByteArray)(hv:Qba.f k t1 t2 t3 0 1048576=some (v1,v2,v3,v4))(e1:ByteArray)(e2 e3:Int)(he:Qat.f v1 v2 v3=some (e1,e2,e3))(hE:e3≠0) :
  Calls Tryz.prog 136 #[.string a0] w fun e w'=>e=.returned (.tuple #[.agg #[.bool false,.int .u64 0,.string (⟨#[]⟩:ByteArray),.string (⟨#[]⟩:ByteArray)],.int .i64 e3])∧Below w.heap.size w w':=by
 have hu39:=Tryz.underlying39
 have hu257:=Tryz.underlying257
 have HG:=QA hg
 have HT:=QA ht
 have HV:=QA hv
 have HE:=QA he
 have hx:∀h:0<a0.size,((a0[0]'h).toNat:Int)=2:=fun h=>(Qct a0 0 h).trans hk
 have hq1:(0<(a0.size:Int))=True:=eq_true (by omega)
 have hq2:(0<a0.size)=True:=eq_true hz
 have hq3:(1≤(a0.size:Int))=True:=eq_true (by omega)
 have hq4:decide (0<a0.size)=true:=decide_eq_true hz
 have hq5:decide (1≤(a0.size:Int))=true:=decide_eq_true (by omega)
 have hq6:(a0.toList == ([]:List UInt8))=false:=beq_eq_false_iff_ne.2 (fun e=>by have:=(CodecP.size_nil_iff a0).1 e;omega)
 have hq8:a0.toList≠([]:List UInt8):=fun e=>by have:=(CodecP.size_nil_iff a0).1 e;omega
 have he3:(e3 != 0)=true:=bne_iff_ne.2 hE
 skip
 clear hg ht hv he hk hz
 go_enter Tryz.func136,Tryz.ntmps136
 go_wp2_with (first
  |(go_at_call 189;refine(Qat.calls v1 v2 v3 e1 e2 e3 _ HE.out).mono ?_;rintro ee w7 ⟨rfl,hb7⟩;have S7:=QA (T6.out.kept hb7);obtain⟨⟨c70,c71,c72⟩,f70,f71,f72⟩:=S7.out.gc;have T7:=QA (S7.out.set e1 e2 e3);obtain⟨⟨d70,d71,d72⟩,_⟩:=T7.out.gc;obtain⟨⟨x70,x71,x72,x73⟩,y71,y72,y73⟩:=T7.out.xc;obtain⟨⟨r70,r71,r72,r73⟩,s70,s71,s72,s73⟩:=T7.out.rc;clear hb7)
  |(go_at_call 188;have gate:=T5.out;clear gate;refine(Qba.calls k t1 t2 t3 0 1048576 v1 v2 v3 v4 _ HV.out).mono ?_;rintro ee w6 ⟨rfl,hb6⟩;have S6:=QA (T5.out.kept hb6);obtain⟨⟨c60,c61,c62⟩,f60,f61,f62⟩:=S6.out.gc;have T6:=QA (S6.out.set v1 v2 v3);obtain⟨⟨d60,d61,d62⟩,_⟩:=T6.out.gc;clear hb6)
  |(go_at_call 188;refine(Qba.calls k g1 g2 g3 1 4096 t1 t2 t3 t4 _ HT.out).mono ?_;rintro ee w5 ⟨rfl,hb5⟩;have S5:=QA (S4.out.kept hb5);obtain⟨⟨c50,c51,c52⟩,f50,f51,f52⟩:=S5.out.gc;have T5:=QA (S5.out.set t1 t2 t3);obtain⟨⟨d50,d51,d52⟩,_⟩:=T5.out.gc;obtain⟨⟨x50,x51,x52,x53⟩,_⟩:=T5.out.xc;clear hb5)
  |(go_at_call 187;refine(Qaz.calls k (a0.extract 1 a0.size) 0 0 g1 g2 g3 q _ HG.out).mono ?_;rintro ee w3 ⟨rfl,hb3⟩;have S4:=QA (Qoh (w:=w) false g1 g2 g3 hb3);obtain⟨⟨c40,c41,c42⟩,f40,f41,f42⟩:=S4.out.gc;clear hb3))
 obtain⟨W8,hW8⟩:∃W8,W8=((w7.setCell ⟨w3.heap.size,0,none⟩ (.string e1)).setCell ⟨w3.heap.size,1,none⟩ (.int .i64 e2)).setCell ⟨w3.heap.size,2,none⟩ (.int .i64 e3):=⟨_,rfl⟩
 clear d70 d71 d72 x70 x71 x72 x73 y71 y72 y73 r70 r71 r72 r73 s70 s71 s72 s73
 rw[← hW8]at T7 ⊢
 clear hW8 c70 c71 c72 f70 f71 f72 S7
 obtain⟨⟨d70,d71,d72⟩,_⟩:=T7.out.gc
 obtain⟨⟨r70,r71,r72,r73⟩,s70,s71,s72,s73⟩:=T7.out.rc
 have ng:w3.heap.size≠w.heap.size:=by have:=T7.out.2.2.2.2.2;omega
 have zz:((((W8.setCell ⟨w.heap.size,0,none⟩ (.bool false)).setCell ⟨w.heap.size,1,none⟩ (.int .u64 0)).setCell ⟨w.heap.size,2,none⟩ (.string (⟨#[]⟩:ByteArray))).setCell ⟨w.heap.size,3,none⟩ (.string (⟨#[]⟩:ByteArray))).cell? ⟨w3.heap.size,2,none⟩=some (.int .i64 e3) :=
  (Qds (Qdq (Qdq (Qdq (Qdq T7.out.2.2.1 (p:=⟨w.heap.size,0,none⟩) ng (.bool false)) (p:=⟨w.heap.size,1,none⟩) ng (.int .u64 0)) (p:=⟨w.heap.size,2,none⟩) ng (.string (⟨#[]⟩:ByteArray))) (p:=⟨w.heap.size,3,none⟩) ng (.string (⟨#[]⟩:ByteArray))) 2).trans rfl
 go_region
 go_wp2_with fail
 refine bodyPost_ret (Qej rfl _ _ w.heap.size 39 #[.bool false,.int .u64 0,.string (⟨#[]⟩:ByteArray),.string (⟨#[]⟩:ByteArray)] (0,0) _ rfl (Qdp (Qdp (Qdp (Qdp T7.out.1 0 _) 1 _) 2 _) 3 _) hu39 rfl qq_6) rfl ?_
 exact⟨rfl,Qcv (Qjm (Qjm (Qjm (Qjm T7.out.2.2.2.1 (Nat.le_refl _)) (Nat.le_refl _)) (Nat.le_refl _)) (Nat.le_refl _))⟩
theorem r7_3_0(k:Nat)(a0:ByteArray)(w:World)(hz:0<a0.size)(hk:bt a0 0=3)(g1:ByteArray)(g2 g3 q:Int)(hg:Qaz.f k (a0.extract 1 a0.size) 0 0=some (g1,g2,g3,q))(t1:ByteArray)(t2 t3:Int)(t4:ByteArray)(ht:Qba.f k g1 g2 g3 1 4096=some (t1,t2,t3,t4))(e1:ByteArray)(e2 e3:Int)(he:Qat.f t1 t2 t3=some (e1,e2,e3))(hE:e3=0) :
  Calls Tryz.prog 136 #[.string a0] w fun e w'=>e=.returned (.tuple #[.agg #[.bool true,.int .u64 q,.string t4,.string (⟨#[]⟩:ByteArray)],.int .i64 0])∧Below w.heap.size w w':=by
 have hu39:=Tryz.underlying39
 have hu257:=Tryz.underlying257
 have HG:=QA hg
 have HT:=QA ht
 have HV:=True.intro
 have HE:=QA he
 have hx:∀h:0<a0.size,((a0[0]'h).toNat:Int)=3:=fun h=>(Qct a0 0 h).trans hk
 have hq1:(0<(a0.size:Int))=True:=eq_true (by omega)
 have hq2:(0<a0.size)=True:=eq_true hz
 have hq3:(1≤(a0.size:Int))=True:=eq_true (by omega)
 have hq4:decide (0<a0.size)=true:=decide_eq_true hz
 have hq5:decide (1≤(a0.size:Int))=true:=decide_eq_true (by omega)
 have hq6:(a0.toList == ([]:List UInt8))=false:=beq_eq_false_iff_ne.2 (fun e=>by have:=(CodecP.size_nil_iff a0).1 e;omega)
 have hq8:a0.toList≠([]:List UInt8):=fun e=>by have:=(CodecP.size_nil_iff a0).1 e;omega
 have he3:e3=0:=hE
 subst he3
 clear hg ht he hk hz
 go_enter Tryz.func136,Tryz.ntmps136
 go_wp2_with (first
  |(go_at_call 189;refine(Qat.calls t1 t2 t3 e1 e2 0 _ HE.out).mono ?_;rintro ee w7 ⟨rfl,hb7⟩;have S7:=QA (T5.out.kept hb7);obtain⟨⟨c70,c71,c72⟩,f70,f71,f72⟩:=S7.out.gc;have T7:=QA (S7.out.set e1 e2 0);obtain⟨⟨d70,d71,d72⟩,_⟩:=T7.out.gc;obtain⟨⟨x70,x71,x72,x73⟩,y71,y72,y73⟩:=T7.out.xc;obtain⟨⟨r70,r71,r72,r73⟩,s70,s71,s72,s73⟩:=T7.out.rc;obtain⟨WX,hWX,k1,k2,bX⟩:=T7.out.fin q t4 (⟨#[]⟩:ByteArray);have KX:=QA (And.intro k1 (And.intro k2 bX));rw[hWX]at KX;obtain⟨z0,z1,z2,z3⟩:=box4 KX.out.1;obtain⟨p0,p1,p2,p3⟩:=box4 KX.out.2.1;have o0:=Qdt KX.out.1 0;have o1:=Qdt KX.out.1 1;have o2:=Qdt KX.out.1 2;have o3:=Qdt KX.out.1 3;clear hWX k1 k2 bX;clear hb7)
  |(go_at_call 188;refine(Qba.calls k g1 g2 g3 1 4096 t1 t2 t3 t4 _ HT.out).mono ?_;rintro ee w5 ⟨rfl,hb5⟩;have S5:=QA (S4.out.kept hb5);obtain⟨⟨c50,c51,c52⟩,f50,f51,f52⟩:=S5.out.gc;have T5:=QA (S5.out.set t1 t2 t3);obtain⟨⟨d50,d51,d52⟩,_⟩:=T5.out.gc;obtain⟨⟨x50,x51,x52,x53⟩,_⟩:=T5.out.xc;clear hb5)
  |(go_at_call 187;refine(Qaz.calls k (a0.extract 1 a0.size) 0 0 g1 g2 g3 q _ HG.out).mono ?_;rintro ee w3 ⟨rfl,hb3⟩;have S4:=QA (Qoh (w:=w) true g1 g2 g3 hb3);obtain⟨⟨c40,c41,c42⟩,f40,f41,f42⟩:=S4.out.gc;clear hb3))
 refine bodyPost_ret (Qej rfl _ _ w.heap.size 39 #[.bool true,.int .u64 q,.string t4,.string (⟨#[]⟩:ByteArray)] (0,0) _ rfl (Qdp (Qdp (Qdp (Qdp KX.out.1 0 _) 1 _) 2 _) 3 _) hu39 rfl qq_6) rfl ?_
 exact⟨rfl,Qjm (Qjm (Qjm (Qjm KX.out.2.2 (Nat.le_refl _)) (Nat.le_refl _)) (Nat.le_refl _)) (Nat.le_refl _)⟩
theorem r7_3_1(k:Nat)(a0:ByteArray)(w:World)(hz:0<a0.size)(hk:bt a0 0=3)(g1:ByteArray)(g2 g3 q:Int)(hg:Qaz.f k (a0.extract 1 a0.size) 0 0=some (g1,g2,g3,q))(t1:ByteArray)(t2 t3:Int)(t4:ByteArray)(ht:Qba.f k g1 g2 g3 1 4096=some (t1,t2,t3,t4))(e1:ByteArray)(e2 e3:Int)(he:Qat.f t1 t2 t3=some (e1,e2,e3))(hE:e3≠0) :
  Calls Tryz.prog 136 #[.string a0] w fun e w'=>e=.returned (.tuple #[.agg #[.bool false,.int .u64 0,.string (⟨#[]⟩:ByteArray),.string (⟨#[]⟩:ByteArray)],.int .i64 e3])∧Below w.heap.size w w':=by
 have hu39:=Tryz.underlying39
 have hu257:=Tryz.underlying257
 have HG:=QA hg
 have HT:=QA ht
 have HV:=True.intro
 have HE:=QA he
 have hx:∀h:0<a0.size,((a0[0]'h).toNat:Int)=3:=fun h=>(Qct a0 0 h).trans hk
 have hq1:(0<(a0.size:Int))=True:=eq_true (by omega)
 have hq2:(0<a0.size)=True:=eq_true hz
 have hq3:(1≤(a0.size:Int))=True:=eq_true (by omega)
 have hq4:decide (0<a0.size)=true:=decide_eq_true hz
 have hq5:decide (1≤(a0.size:Int))=true:=decide_eq_true (by omega)
 have hq6:(a0.toList == ([]:List UInt8))=false:=beq_eq_false_iff_ne.2 (fun e=>by have:=(CodecP.size_nil_iff a0).1 e;omega)
 have hq8:a0.toList≠([]:List UInt8):=fun e=>by have:=(CodecP.size_nil_iff a0).1 e;omega
 have he3:(e3 != 0)=true:=bne_iff_ne.2 hE
 skip
 clear hg ht he hk hz
 go_enter Tryz.func136,Tryz.ntmps136
 go_wp2_with (first
  |(go_at_call 189;refine(Qat.calls t1 t2 t3 e1 e2 e3 _ HE.out).mono ?_;rintro ee w7 ⟨rfl,hb7⟩;have S7:=QA (T5.out.kept hb7);obtain⟨⟨c70,c71,c72⟩,f70,f71,f72⟩:=S7.out.gc;have T7:=QA (S7.out.set e1 e2 e3);obtain⟨⟨d70,d71,d72⟩,_⟩:=T7.out.gc;obtain⟨⟨x70,x71,x72,x73⟩,y71,y72,y73⟩:=T7.out.xc;obtain⟨⟨r70,r71,r72,r73⟩,s70,s71,s72,s73⟩:=T7.out.rc;clear hb7)
  |(go_at_call 188;refine(Qba.calls k g1 g2 g3 1 4096 t1 t2 t3 t4 _ HT.out).mono ?_;rintro ee w5 ⟨rfl,hb5⟩;have S5:=QA (S4.out.kept hb5);obtain⟨⟨c50,c51,c52⟩,f50,f51,f52⟩:=S5.out.gc;have T5:=QA (S5.out.set t1 t2 t3);obtain⟨⟨d50,d51,d52⟩,_⟩:=T5.out.gc;obtain⟨⟨x50,x51,x52,x53⟩,_⟩:=T5.out.xc;clear hb5)
  |(go_at_call 187;refine(Qaz.calls k (a0.extract 1 a0.size) 0 0 g1 g2 g3 q _ HG.out).mono ?_;rintro ee w3 ⟨rfl,hb3⟩;have S4:=QA (Qoh (w:=w) true g1 g2 g3 hb3);obtain⟨⟨c40,c41,c42⟩,f40,f41,f42⟩:=S4.out.gc;clear hb3))
 obtain⟨W8,hW8⟩:∃W8,W8=((w7.setCell ⟨w3.heap.size,0,none⟩ (.string e1)).setCell ⟨w3.heap.size,1,none⟩ (.int .i64 e2)).setCell ⟨w3.heap.size,2,none⟩ (.int .i64 e3):=⟨_,rfl⟩
 clear d70 d71 d72 x70 x71 x72 x73 y71 y72 y73 r70 r71 r72 r73 s70 s71 s72 s73
 rw[← hW8]at T7 ⊢
 clear hW8 c70 c71 c72 f70 f71 f72 S7
 obtain⟨⟨d70,d71,d72⟩,_⟩:=T7.out.gc
 obtain⟨⟨r70,r71,r72,r73⟩,s70,s71,s72,s73⟩:=T7.out.rc
 have ng:w3.heap.size≠w.heap.size:=by have:=T7.out.2.2.2.2.2;omega
 have zz:((((W8.setCell ⟨w.heap.size,0,none⟩ (.bool false)).setCell ⟨w.heap.size,1,none⟩ (.int .u64 0)).setCell ⟨w.heap.size,2,none⟩ (.string (⟨#[]⟩:ByteArray))).setCell ⟨w.heap.size,3,none⟩ (.string (⟨#[]⟩:ByteArray))).cell? ⟨w3.heap.size,2,none⟩=some (.int .i64 e3) :=
  (Qds (Qdq (Qdq (Qdq (Qdq T7.out.2.2.1 (p:=⟨w.heap.size,0,none⟩) ng (.bool false)) (p:=⟨w.heap.size,1,none⟩) ng (.int .u64 0)) (p:=⟨w.heap.size,2,none⟩) ng (.string (⟨#[]⟩:ByteArray))) (p:=⟨w.heap.size,3,none⟩) ng (.string (⟨#[]⟩:ByteArray))) 2).trans rfl
 go_region
 go_wp2_with fail
 refine bodyPost_ret (Qej rfl _ _ w.heap.size 39 #[.bool false,.int .u64 0,.string (⟨#[]⟩:ByteArray),.string (⟨#[]⟩:ByteArray)] (0,0) _ rfl (Qdp (Qdp (Qdp (Qdp T7.out.1 0 _) 1 _) 2 _) 3 _) hu39 rfl qq_6) rfl ?_
 exact⟨rfl,Qcv (Qjm (Qjm (Qjm (Qjm T7.out.2.2.2.1 (Nat.le_refl _)) (Nat.le_refl _)) (Nat.le_refl _)) (Nat.le_refl _))⟩
theorem r7_none(a0:ByteArray)(w:World)(hz:a0.size=0) :
  Calls Tryz.prog 136 #[.string a0] w fun e w'=>e=.returned (.tuple #[.agg #[.bool false,.int .u64 0,.string (⟨#[]⟩:ByteArray),.string (⟨#[]⟩:ByteArray)],.int .i64 2])∧Below w.heap.size w w':=by
 have hu39:=Tryz.underlying39
 have k1:=Qei w (.cells #[.bool false,.int .u64 0,.string (⟨#[]⟩:ByteArray),.string (⟨#[]⟩:ByteArray)] 39)
 have hb:Below w.heap.size w (w.alloc (.cells #[.bool false,.int .u64 0,.string (⟨#[]⟩:ByteArray),.string (⟨#[]⟩:ByteArray)] 39)):=Qcu (Below.refl _ _) _
 have hq6:(a0.toList == ([]:List UInt8))=true:=beq_iff_eq.2 ((CodecP.size_nil_iff a0).2 hz)
 have hq8:a0.toList=([]:List UInt8):=(CodecP.size_nil_iff a0).2 hz
 go_enter Tryz.func136,Tryz.ntmps136
 go_wp2_with fail
 refine bodyPost_ret (Qej rfl _ _ w.heap.size 39 #[.bool false,.int .u64 0,.string (⟨#[]⟩:ByteArray),.string (⟨#[]⟩:ByteArray)] (0,0) _ rfl ?_ hu39 rfl qq_6) rfl ?_
 ·first|exact k1|exact Qdp (Qdp (Qdp (Qdp k1 0 _) 1 _) 2 _) 3 _
 ·exact⟨rfl,by first|exact hb|exact Qjm (Qjm (Qjm (Qjm hb (Nat.le_refl _)) (Nat.le_refl _)) (Nat.le_refl _)) (Nat.le_refl _)⟩
theorem r7_kind(a0:ByteArray)(w:World)(hz:0<a0.size)(y:Int)(hy:bt a0 0=y)(h2:y≠2)(h3:y≠3) :
  Calls Tryz.prog 136 #[.string a0] w fun e w'=>e=.returned (.tuple #[.agg #[.bool false,.int .u64 0,.string (⟨#[]⟩:ByteArray),.string (⟨#[]⟩:ByteArray)],.int .i64 4])∧Below w.heap.size w w':=by
 have hu39:=Tryz.underlying39
 have k1:=Qei w (.cells #[.bool false,.int .u64 0,.string (⟨#[]⟩:ByteArray),.string (⟨#[]⟩:ByteArray)] 39)
 have hb:Below w.heap.size w (w.alloc (.cells #[.bool false,.int .u64 0,.string (⟨#[]⟩:ByteArray),.string (⟨#[]⟩:ByteArray)] 39)):=Qcu (Below.refl _ _) _
 have hx:∀h:0<a0.size,((a0[0]'h).toNat:Int)=y:=fun h=>(Qct a0 0 h).trans hy
 have hq1:(0<(a0.size:Int))=True:=eq_true (by omega)
 have hq2:(0<a0.size)=True:=eq_true hz
 have hq4:decide (0<a0.size)=true:=decide_eq_true hz
 have hq6:(a0.toList == ([]:List UInt8))=false:=beq_eq_false_iff_ne.2 (fun e=>by have:=(CodecP.size_nil_iff a0).1 e;omega)
 have hq8:a0.toList≠([]:List UInt8):=fun e=>by have:=(CodecP.size_nil_iff a0).1 e;omega
 have h2b:(y != 2)=true:=bne_iff_ne.2 h2
 have h3b:(y != 3)=true:=bne_iff_ne.2 h3
 clear hy
 go_enter Tryz.func136,Tryz.ntmps136
 go_wp2_with fail
 refine bodyPost_ret (Qej rfl _ _ w.heap.size 39 #[.bool false,.int .u64 0,.string (⟨#[]⟩:ByteArray),.string (⟨#[]⟩:ByteArray)] (0,0) _ rfl ?_ hu39 rfl qq_6) rfl ?_
 ·first|exact k1|exact Qdp (Qdp (Qdp (Qdp k1 0 _) 1 _) 2 _) 3 _
 ·exact⟨rfl,by first|exact hb|exact Qjm (Qjm (Qjm (Qjm hb (Nat.le_refl _)) (Nat.le_refl _)) (Nat.le_refl _)) (Nat.le_refl _)⟩
theorem Qbl.calls(k:Nat)(a0:ByteArray)(r1:Bool)(r2:Int)(r3 r4:ByteArray)(r5:Int)(w:World)(h:Qbl.f k a0=some (r1,r2,r3,r4,r5)) :
  Calls Tryz.prog 136 #[.string a0] w fun e w'=>e=.returned (.tuple #[.agg #[.bool r1,.int .u64 r2,.string r3,.string r4],.int .i64 r5])∧Below w.heap.size w w':=by
 unfold Qbl.f at h
 by_cases hz:a0.size=0
 ·rw[if_pos hz]at h
  simp only[Option.some.injEq,Prod.mk.injEq]at h
  obtain⟨rfl,rfl,rfl,rfl,rfl⟩:=h
  exact r7_none a0 w hz
 ·rw [if_neg hz]at h
  by_cases hk:bt a0 0≠2∧bt a0 0≠3
  ·rw[if_pos hk]at h
   simp only[Option.some.injEq,Prod.mk.injEq]at h
   obtain⟨rfl,rfl,rfl,rfl,rfl⟩:=h
   exact r7_kind a0 w (by omega) _ rfl hk.1 hk.2
  ·rw[if_neg hk]at h
   obtain⟨⟨g1,g2,g3,q⟩,hg,h⟩:=Option.bind_eq_some_iff.mp h
   obtain⟨⟨t1,t2,t3,t4⟩,ht,h⟩:=Option.bind_eq_some_iff.mp h
   dsimp only at ht h
   by_cases h3:bt a0 0=3
   ·rw[if_pos h3]at h
    obtain⟨⟨e1,e2,e3⟩,he,h⟩:=Option.bind_eq_some_iff.mp h
    dsimp only at h
    by_cases hE:e3=0
    ·rw[if_pos hE]at h
     simp only[Option.some.injEq,Prod.mk.injEq]at h
     obtain⟨rfl,rfl,rfl,rfl,rfl⟩:=h
     exact r7_3_0 k a0 w (by omega) h3 g1 g2 g3 _ hg t1 t2 t3 _ ht e1 e2 e3 he hE
    ·rw[if_neg hE]at h
     simp only[Option.some.injEq,Prod.mk.injEq]at h
     obtain⟨rfl,rfl,rfl,rfl,rfl⟩:=h
     exact r7_3_1 k a0 w (by omega) h3 g1 g2 g3 _ hg t1 t2 t3 _ ht e1 e2 _ he hE
   ·rw[if_neg h3]at h
    obtain⟨⟨v1,v2,v3,v4⟩,hv,h⟩:=Option.bind_eq_some_iff.mp h
    obtain⟨⟨e1,e2,e3⟩,he,h⟩:=Option.bind_eq_some_iff.mp h
    dsimp only at he h
    have h2:bt a0 0=2:=by omega
    by_cases hE:e3=0
    ·rw[if_pos hE]at h
     simp only[Option.some.injEq,Prod.mk.injEq]at h
     obtain⟨rfl,rfl,rfl,rfl,rfl⟩:=h
     exact r7_2_0 k a0 w (by omega) h2 g1 g2 g3 _ hg t1 t2 t3 _ ht v1 v2 v3 _ hv e1 e2 e3 he hE
    ·rw[if_neg hE]at h
     simp only[Option.some.injEq,Prod.mk.injEq]at h
     obtain⟨rfl,rfl,rfl,rfl,rfl⟩:=h
     exact r7_2_1 k a0 w (by omega) h2 g1 g2 g3 _ hg t1 t2 t3 _ ht v1 v2 v3 _ hv e1 e2 _ he hE
theorem Qro(b g:Nat)(bs:List Int)(i x:Int)(hx:x=YtnnofopfbeklbaaGreatW.PrintWords.rd bs i)(hb:CodecP.Bytes bs)(hi:0≤i)(hl:bs.length≤140737488355328)(hs:i<(bs.length:Int))(hbg:b≤g)(w:World)(hbw:b≤w.heap.size)(hI:IsCur w b g bs i) :
  Calls Tryz.prog 174 #[.pointer (some ⟨g,0,none⟩)] w fun e w'=>e=.returned (.int .u8 x)∧IsCur w' b g bs (i+1)∧Bw b g w w':=by
 obtain⟨j,rfl⟩:=Int.eq_ofNat_of_zero_le hi
 have hj:j<bs.length:=by omega
 have hr:=CodecP.rd_range hb hj
 obtain⟨k,y,h1,h2⟩:=CodecP.byte_key (YtnnofopfbeklbaaGreatW.PrintWords.rd bs (j:Int)) hr
 have h:=Qqv k b g bs [YtnnofopfbeklbaaGreatW.PrintWords.rd bs (j:Int)] j y (by
  rw[CodecP.rd_get hj,show(j:Int).toNat=j from rfl,List.drop_eq_getElem_cons hj];rfl) hi hl (by omega) hbg h1 w hbw hI
 rw[h2,← hx]at h
 exact h
def Qrp(bs:List Int):Nat→Int→Int→Int→Except (Int × Int) (Int × Int)
 | 0,_,i,x=>.ok (x,i)
 | f+1,j,i,x =>
  if i<(bs.length:Int)then
   if j=9∧1<YtnnofopfbeklbaaGreatW.PrintWords.rd bs i then .error (3,i+1)
   else if 128≤YtnnofopfbeklbaaGreatW.PrintWords.rd bs i then Qrp bs f (j+1) (i+1) (Go.bits .or .u64 x (shl .u64 (IntKind.u64.wrap (Go.bits .andNot .u8 (YtnnofopfbeklbaaGreatW.PrintWords.rd bs i) 128)) (7*j)))
   else if YtnnofopfbeklbaaGreatW.PrintWords.rd bs i=0∧0<j then .error (4,i+1)
   else .ok (Go.bits .or .u64 x (shl .u64 (IntKind.u64.wrap (Go.bits .andNot .u8 (YtnnofopfbeklbaaGreatW.PrintWords.rd bs i) 128)) (7*j)),i+1)
  else .error (2,i)
def Ends(b g:Nat)(bs:List Int)(w:World)(r:Except (Int × Int) (Value × Int))(e:Ending)(w':World):Prop :=
 match r with
 | .ok (v,i)=>e=.returned v∧IsCur w' b g bs i∧Bw b g w w'
 | .error (er,i)=>Qqt b g bs i er w e w'
theorem Qrq (b g:Nat) (bs:List Int) (i:Int) (hb:CodecP.Bytes bs) (hi:0≤i∧i≤(bs.length:Int)) (hl:bs.length≤140737488355328) (hbg:b≤g) (w:World) (hbw:b≤w.heap.size) (hI:IsCur w b g bs i) (R:Except (Int × Int) (Value × Int)) (hR:(Qrp bs 10 0 i 0).map (fun p=>(Value.int .u64 p.1,p.2))=R) :
  Calls Tryz.prog 176 #[.pointer (some ⟨g,0,none⟩)] w (Ends b g bs w R):=by
 have HI:=QA hI
 have HR:=QA hR
 have HBY:=QA hb
 have HW:=QA hbw
 clear hI hR hb hbw
 go_enter Tryz.func176,Tryz.ntmps176
 go_wp2
 go_loopw [3,6] (fun v3 v6 wr=>∃(x j i2:Int) (f:Nat),v3=.int .u64 x∧v6=.int .i64 j∧Aside0 (0≤j∧j+(f:Int)=10)∧Aside0 (0≤i2∧i2≤(bs.length:Int))∧Aside0 ((Qrp bs f j i2 x).map (fun p=>(Value.int .u64 p.1,p.2))=R)∧Aside0 (IsCur wr b g bs i2)∧Aside0 (Bw b g w wr))
  (fun _ v6 _=>10-(intOf v6).toNat)
 case atStart=>exact⟨0,0,i,10,rfl,rfl,⟨by omega⟩,⟨hi⟩,HR,HI,⟨Bw.refl _ _ _⟩⟩
 case round =>
  obtain⟨x,j,i2,f,rfl,rfl,HJ,HI2,HV,HIr,HBr⟩:=hrel
  have hbr:b≤wr.heap.size:=Nat.le_trans HW.out HBr.out.size
  cases f with
  | zero =>
   have hj:j=10:=by have:=HJ.out;omega
   subst hj
   have hv:=HV.out
   simp only[Qrp,Except.map]at hv
   subst hv
   go_wp2
   go_ret
   exact⟨rfl,HIr.out,HBr.out⟩
  | succ f =>
   have hv:=HV.out
   clear HV
   have hj1:decide (j<10)=true:=decide_eq_true (by have:=HJ.out;omega)
   simp only[Qrp]at hv
   by_cases hlt:i2<(bs.length:Int)
   ·rw [if_pos hlt]at hv
    obtain⟨y,hy⟩:∃y,y=YtnnofopfbeklbaaGreatW.PrintWords.rd bs i2:=⟨_,rfl⟩
    rw[← hy]at hv
    have HY:=QA hy
    have HLT:=QA hlt
    have hw7:IntKind.i64.wrap (7*j)=7*j:=IntWalk.i64_in _ (by have:=HJ.out;omega)
    have hwj:IntKind.i64.wrap (j+1)=j+1:=IntWalk.i64_in _ (by have:=HJ.out;omega)
    obtain⟨s7,hs7⟩:∃s7:Int,7*j=s7:=⟨_,rfl⟩
    have hw7':IntKind.i64.wrap (7*j)=s7:=hw7.trans hs7
    have hs70:0≤s7:=by have:=HJ.out;omega
    rw[hs7]at hv
    obtain⟨z,hz⟩:∃z:Int,Go.bits .andNot .u8 y 128=z:=⟨_,rfl⟩
    rw[hz]at hv
    obtain⟨j8,hj8⟩:∃j8:Int,(shl .u64 (IntKind.u64.wrap z) s7)=j8:=⟨_,rfl⟩
    rw[hj8]at hv
    have hj8_:(IntKind.u64.wrap ((IntKind.u64.wrap z)*2^min s7.toNat 64))=j8:=hj8
    have hj8z:s7≤64→(IntKind.u64.wrap ((IntKind.u64.wrap z)*2^s7.toNat))=j8:=Qip hj8
    have HS7:=QA hs7
    clear hy hlt hw7 hs7 hj8
    have hi20:=HI2.out.1
    by_cases h9:j=9∧1<y
    ·rw[if_pos h9]at hv
     simp only[Except.map]at hv
     subst hv
     have h9a:(j == 9)=true:=by rw[h9.1];rfl
     have h9b:decide (1<y)=true:=decide_eq_true h9.2
     clear h9
     go_wp2_with (first
      |(go_at_call 174;refine(Qro b g bs i2 y HY.out HBY.out HI2.out.1 hl HLT.out hbg _ hbr HIr.out).mono ?_;rintro ee w1 ⟨rfl,hI1,hB1⟩)
      |(go_at_call 175;refine(Qqo b g bs (i2+1) 3 (by decide) _ hI1).mono ?_;rintro ee w2 ⟨rfl,rfl⟩))
     exact⟨rfl,rfl,hI1,HBr.out.trans hB1⟩
    ·rw [if_neg h9]at hv
     by_cases e9:j=9
     ·have h9a:(j == 9)=true:=by rw[e9];rfl
      have h9b:decide (1<y)=false:=decide_eq_false (fun h=>h9 ⟨e9,h⟩)
      clear h9 e9
      by_cases h128:128≤y
      ·rw[if_pos h128]at hv
       have h128b:decide (128≤y)=true:=decide_eq_true h128
       have HV:=QA hv
       clear hv h128
       go_wp2_with (go_at_call 174;refine(Qro b g bs i2 y HY.out HBY.out HI2.out.1 hl HLT.out hbg _ hbr HIr.out).mono ?_;rintro ee w1 ⟨rfl,hI1,hB1⟩)
       go_roundw
       case rel=>exact⟨_,j+1,i2+1,f,rfl,rfl,⟨by have:=HJ.out;omega⟩,⟨by have:=HI2.out;have:=HLT.out;omega⟩,HV,⟨hI1⟩,⟨HBr.out.trans hB1⟩⟩
       case measure=>have:=HJ.out;simp[intOf];omega
      ·rw[if_neg h128]at hv
       have h128b:decide (128≤y)=false:=decide_eq_false h128
       clear h128
       by_cases hy0:y=0∧0<j
       ·rw[if_pos hy0]at hv
        simp only[Except.map]at hv
        subst hv
        have hy0a:(y == 0)=true:=by rw[hy0.1];rfl
        have hy0b:decide (0<j)=true:=decide_eq_true hy0.2
        clear hy0
        go_wp2_with (first
         |(go_at_call 174;refine(Qro b g bs i2 y HY.out HBY.out HI2.out.1 hl HLT.out hbg _ hbr HIr.out).mono ?_;rintro ee w1 ⟨rfl,hI1,hB1⟩)
         |(go_at_call 175;refine(Qqo b g bs (i2+1) 4 (by decide) _ hI1).mono ?_;rintro ee w2 ⟨rfl,rfl⟩))
        exact⟨rfl,rfl,hI1,HBr.out.trans hB1⟩
       ·rw[if_neg hy0]at hv
        simp only[Except.map]at hv
        subst hv
        by_cases hyz:y=0
        ·have hy0a:(y == 0)=true:=by rw[hyz];rfl
         have hy0b:decide (0<j)=false:=decide_eq_false (fun h=>hy0 ⟨hyz,h⟩)
         clear hy0 hyz
         go_wp2_with (go_at_call 174;refine(Qro b g bs i2 y HY.out HBY.out HI2.out.1 hl HLT.out hbg _ hbr HIr.out).mono ?_;rintro ee w1 ⟨rfl,hI1,hB1⟩)
         go_ret
         exact⟨rfl,hI1,HBr.out.trans hB1⟩
        ·have hy0a:(y == 0)=false:=beq_eq_false_iff_ne.2 hyz
         clear hy0 hyz
         go_wp2_with (go_at_call 174;refine(Qro b g bs i2 y HY.out HBY.out HI2.out.1 hl HLT.out hbg _ hbr HIr.out).mono ?_;rintro ee w1 ⟨rfl,hI1,hB1⟩)
         go_ret
         exact⟨rfl,hI1,HBr.out.trans hB1⟩
     ·have h9a:(j == 9)=false:=beq_eq_false_iff_ne.2 e9
      clear h9 e9
      by_cases h128:128≤y
      ·rw[if_pos h128]at hv
       have h128b:decide (128≤y)=true:=decide_eq_true h128
       have HV:=QA hv
       clear hv h128
       go_wp2_with (go_at_call 174;refine(Qro b g bs i2 y HY.out HBY.out HI2.out.1 hl HLT.out hbg _ hbr HIr.out).mono ?_;rintro ee w1 ⟨rfl,hI1,hB1⟩)
       go_roundw
       case rel=>exact⟨_,j+1,i2+1,f,rfl,rfl,⟨by have:=HJ.out;omega⟩,⟨by have:=HI2.out;have:=HLT.out;omega⟩,HV,⟨hI1⟩,⟨HBr.out.trans hB1⟩⟩
       case measure=>have:=HJ.out;simp[intOf];omega
      ·rw[if_neg h128]at hv
       have h128b:decide (128≤y)=false:=decide_eq_false h128
       clear h128
       by_cases hy0:y=0∧0<j
       ·rw[if_pos hy0]at hv
        simp only[Except.map]at hv
        subst hv
        have hy0a:(y == 0)=true:=by rw[hy0.1];rfl
        have hy0b:decide (0<j)=true:=decide_eq_true hy0.2
        clear hy0
        go_wp2_with (first
         |(go_at_call 174;refine(Qro b g bs i2 y HY.out HBY.out HI2.out.1 hl HLT.out hbg _ hbr HIr.out).mono ?_;rintro ee w1 ⟨rfl,hI1,hB1⟩)
         |(go_at_call 175;refine(Qqo b g bs (i2+1) 4 (by decide) _ hI1).mono ?_;rintro ee w2 ⟨rfl,rfl⟩))
        exact⟨rfl,rfl,hI1,HBr.out.trans hB1⟩
       ·rw[if_neg hy0]at hv
        simp only[Except.map]at hv
        subst hv
        by_cases hyz:y=0
        ·have hy0a:(y == 0)=true:=by rw[hyz];rfl
         have hy0b:decide (0<j)=false:=decide_eq_false (fun h=>hy0 ⟨hyz,h⟩)
         clear hy0 hyz
         go_wp2_with (go_at_call 174;refine(Qro b g bs i2 y HY.out HBY.out HI2.out.1 hl HLT.out hbg _ hbr HIr.out).mono ?_;rintro ee w1 ⟨rfl,hI1,hB1⟩)
         go_ret
         exact⟨rfl,hI1,HBr.out.trans hB1⟩
        ·have hy0a:(y == 0)=false:=beq_eq_false_iff_ne.2 hyz
         clear hy0 hyz
         go_wp2_with (go_at_call 174;refine(Qro b g bs i2 y HY.out HBY.out HI2.out.1 hl HLT.out hbg _ hbr HIr.out).mono ?_;rintro ee w1 ⟨rfl,hI1,hB1⟩)
         go_ret
         exact⟨rfl,hI1,HBr.out.trans hB1⟩
   ·rw[if_neg hlt]at hv
    simp only[Except.map]at hv
    subst hv
    go_wp2_with (go_at_call 174;refine(Qqw b g bs i2 HI2.out hl (by omega) _ hbr HIr.out).mono ?_;rintro ee w1 ⟨rfl,hI1,hB1⟩)
    exact⟨rfl,rfl,hI1,HBr.out.trans hB1⟩
theorem Qtz{a b:List Int}(ha:CodecP.Bytes a)(hb:CodecP.Bytes b):(strOfNums a).toList=(strOfNums b).toList↔a=b:=by
 constructor
 ·intro h
  have h2:strOfNums a=strOfNums b:=by
   rw[Lib.toList_data,Lib.toList_data]at h
   have h3:=Array.toList_inj.1 h
   generalize strOfNums a=x at h3 ⊢
   generalize strOfNums b=y at h3 ⊢
   cases x
   cases y
   congr
  have:=congrArg bytesOf h2
  rwa [CodecP.bytesOf_nums ha,CodecP.bytesOf_nums hb]at this
 ·intro h
  rw[h]
theorem Qua(A0 A1:Option Addr)(c0 c1:Nat)(l0 l1:List Int)(w:World)(hr0:Kd.C (Kd.int .u8) w A0 l0.length l0)(hc0:l0.length≤c0)(hr1:Kd.C (Kd.int .u8) w A1 l1.length l1)(hc1:l1.length≤c1)(hb0:CodecP.Bytes l0)(hb1:CodecP.Bytes l1)(hl:l0.length≤1099511627776) :
  Calls Tryz.prog 79 #[.slice A0 l0.length c0,.slice A1 l1.length c1] w fun e w'=>e=.returned (.bool (decide (l0.take l1.length=l1)))∧Below w.heap.size w w':=by
 have HR1:=QA hr1
 have HC1:=QA hc1
 by_cases hle:l1.length≤l0.length
 ·obtain⟨j,hj⟩:∃j:Int,j=(l1.length:Int):=⟨_,rfl⟩
  have hb2:decide ((l1.length:Int)≤(l0.length:Int))=true:=decide_eq_true (by omega)
  have hb3:decide (l1.length≤l0.length)=true:=decide_eq_true hle
  obtain⟨i0,hii,_,hsz,_⟩:=info_parts Qiu
  have hcut:=Qet (P:=Tryz.prog) 52 5 .i64 Tryz.underlying52 hii A0 l0.length c0 (l1.length:Int) (by omega) (by omega) hc0
  have hC:=Kd.C_take (m:=l1.length) hr0 hle
  have htl:(l0.take l1.length).length=l1.length:=by rw[List.length_take];omega
  obtain⟨xs,hxs⟩:∃xs,xs=l0.take l1.length:=⟨_,rfl⟩
  rw[← hxs]at hC htl ⊢
  rw[Int.toNat_natCast,← htl]at hcut
  have hq:Qad.f xs l1=some (decide (xs=l1)):=by
   unfold Qad.f
   congr 1
   have:=Qtz (a:=xs) (b:=l1) (by rw[hxs];exact hb0.take _) hb1
   by_cases h:xs=l1
   ·simp[h]
   ·have h2:¬(strOfNums xs).toList=(strOfNums l1).toList:=fun e=>h (this.1 e)
    rw[decide_eq_false h]
    exact beq_eq_false_iff_ne.2 h2
  obtain⟨q,hqq⟩:∃q,q=decide (xs=l1):=⟨_,rfl⟩
  rw[← hqq]at hq ⊢
  have EQ:=QA (fun W (h:Below w.heap.size w W)=>Qad.calls A0 c0 xs A1 c1 l1 q W (Kd.C_below hC h) (by omega) (Kd.C_below hr1 h) hc1 hq)
  have hn:((xs.length:Nat):Int)=(l1.length:Int):=by omega
  obtain⟨n1,hn1⟩:∃n1,n1=l1.length:=⟨_,rfl⟩
  obtain⟨n0,hn0⟩:∃n0,n0=l0.length:=⟨_,rfl⟩
  rw[htl]at hcut EQ
  rw[← hn1]at hcut EQ hb2 hb3 ⊢
  rw[← hn0]at hcut hb2 hb3 ⊢
  clear hr0 hr1 hC hxs hq hqq hii hsz htl hc0 hc1 hle hj hn HR1 HC1 hb0 hb1 hl hn1 hn0
  go_enter Tryz.func79,Tryz.ntmps79
  go_wp2_with (go_at_call 126;refine(EQ.out _ (Below.refl _ _)).mono ?_;rintro ee w2 ⟨rfl,hd⟩)
  go_ret
  exact⟨rfl,hd.below⟩
 ·have hb2:decide ((l1.length:Int)≤(l0.length:Int))=false:=decide_eq_false (by omega)
  have hb3:decide (l1.length≤l0.length)=false:=decide_eq_false hle
  have hd:decide (l0.take l1.length=l1)=false:=decide_eq_false (fun e=>by
   have:=congrArg List.length e
   rw[List.length_take]at this
   omega)
  rw[hd]
  clear hd hr0 hr1 HR1 HC1
  go_enter Tryz.func79,Tryz.ntmps79
  go_wp2
  go_ret
  exact⟨rfl,Below.refl _ _⟩
end Go.Proofs.YtnnofopfbeklbaaGreat.C
end
