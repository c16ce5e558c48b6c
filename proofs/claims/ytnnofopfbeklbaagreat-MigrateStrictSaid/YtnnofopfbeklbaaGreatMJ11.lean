/- Merged texts. -/
import Derived.Test.YtnnofopfbeklbaaGreatMJ01
import Derived.WalkLawsBesides
import Derived.Recover
import Derived.Defers
import Derived.Test.YtnnofopfbeklbaaGreatMJ09
import Derived.Test.YtnnofopfbeklbaaGreatMJ02
import Derived.Test.YtnnofopfbeklbaaGreatMJ07
import Derived.Test.YtnnofopfbeklbaaGreatMJ06
import Derived.Test.YtnnofopfbeklbaaGreatMJ05
import Derived.Test.YtnnofopfbeklbaaGreatMJ10
import Derived.Test.YtnnofopfbeklbaaGreatMJ03
set_option linter.unusedVariables false
set_option linter.unusedSimpArgs false
set_option maxHeartbeats 8000000
set_option maxRecDepth 100000
section
namespace Go.Proofs.YtnnofopfbeklbaaGreat.C
open Go.RowKit Go.Proofs.YtnnofopfbeklbaaGreatW.PrintWords Go.Proofs.YtnnofopfbeklbaaGreatW.PrintLast Go.Proofs.YtnnofopfbeklbaaGreatW.PrintMore
theorem Qsd(b g:Nat)(bs:List Int)(i:Int)(w:World)(hI:IsCur w b g bs i) :
  Calls Tryz.prog 175 #[.pointer (some ⟨g,0,none⟩),.int .i64 0] w fun e w'=>e=.returned (.tuple #[])∧Below w.heap.size w w':=by
 have HI:=QA hI;obtain⟨A,c,h0,h1,h2,h3,h4,h5⟩:=hI.cells;clear hI h4;have hu:=Tryz.underlying264
 go_enter Tryz.func175,Tryz.ntmps175
 go_wp2_with (go_at_call 191;refine(Qpk b g bs i _ HI.out).mono ?_;rintro ee wa ⟨rfl,rfl⟩)
 go_end0
 exact⟨rfl,Below.refl _ _⟩
theorem cur_At(b g:Nat)(bs:List Int)(i:Int)(w:World)(hI:IsCur w b g bs i) :
  Calls Tryz.prog 141 #[.pointer (some ⟨g,0,none⟩)] w fun e w'=>e=.returned (.int .i64 i)∧Below w.heap.size w w':=by
 have HI:=QA hI;obtain⟨A,c,h0,h1,h2,h3,h4,h5⟩:=hI.cells;clear hI h4;have hu:=Tryz.underlying264
 go_enter Tryz.func141,Tryz.ntmps141
 go_wp2_with (go_at_call 191;refine(Qpk b g bs i _ HI.out).mono ?_;rintro ee wa ⟨rfl,rfl⟩)
 go_ret
 exact⟨rfl,Below.refl _ _⟩
def OS(w W:World)(lo g rb:Nat)(bs:List Int)(i:Int):Prop :=
 IsCur W lo g bs i∧lo≤W.heap.size∧Bw lo g w W∧W.heap[rb]? = some (.cells #[.string (⟨#[]⟩:ByteArray),.string (⟨#[]⟩:ByteArray)] 207 (0,0))
section
variable {w W W':World} {lo g rb:Nat} {bs:List Int} {i j:Int}
theorem OS.ne(h:OS w W lo g rb bs i):rb≠g:=by
 obtain⟨v,h1,_⟩:=h.1;exact Qer h.2.2.2 h1 (by decide)
theorem OS.cur(h:OS w W lo g rb bs i)(hI:IsCur W' lo g bs j)(hB:Bw lo g W W'):OS w W' lo g rb bs j :=
 ⟨hI,Nat.le_trans h.2.1 hB.size,h.2.2.1.trans hB,hB.2 _ _ _ h.2.2.2 (by decide) h.ne⟩
theorem OS.below(h:OS w W lo g rb bs i)(hb:Below W.heap.size W W'):OS w W' lo g rb bs i:=h.cur (h.1.kept hb) (Bw.below hb h.2.1)
theorem OS.end_(h:OS w W lo g rb bs i):IsCur W lo g bs i∧Bw lo g w W:=⟨h.1,h.2.2.1⟩
theorem OS.start(hI:IsCur w lo g bs i)(hbw:lo≤w.heap.size):OS w (w.alloc (.cells #[.string (⟨#[]⟩:ByteArray),.string (⟨#[]⟩:ByteArray)] 207)) lo g w.heap.size bs i :=
 ⟨hI.kept (Qdq (Below.refl _ _) _),Nat.le_trans hbw (Qdq (Below.refl w.heap.size w) _).size,Bw.below (Qdq (Below.refl _ _) _) hbw,Qfe w _⟩
end
theorem Qse(lo g:Nat)(bs:List Int)(i:Nat)(hl:bs.length≤100000000)(hi:i≤bs.length)(hlg:lo≤g)(w:World)(hbw:lo≤w.heap.size)(hI:IsCur w lo g bs (i:Int))(hs:bs.length<i+8) :
  Calls Tryz.prog 140 #[.pointer (some ⟨g,0,none⟩)] w fun e w'=>e=.panicked [Qpj g 2]∧IsCur w' lo g bs (i:Int)∧Bw lo g w w':=by
 have hn8:decide ((bs.length:Int)-(i:Int)<8)=true:=decide_eq_true (by omega);have O0:=QA (OS.start hI hbw);have hu:=Tryz.underlying207;have hii:(0:Int)≤(i:Int)∧(i:Int)≤(bs.length:Int):=⟨by omega,by omega⟩;have hll:bs.length≤140737488355328:=by omega
 clear hI
 go_enter Tryz.func140,Tryz.ntmps140
 go_wp2_with (first |(go_at_call 175;refine(Qpl lo g bs (i:Int) 2 (by decide) _ O1.out.1).mono ?_;rintro ee w2 ⟨rfl,rfl⟩) |(go_at_call 139;refine(Qpq lo g bs (i:Int) hii hll _ O0.out.1).mono ?_;rintro ee w1 ⟨rfl,hb1⟩;have O1:=QA (O0.out.below hb1);clear hb1))
 exact⟨rfl,rfl,O1.out.end_⟩
theorem Qsf(lo g:Nat)(bs:List Int)(i:Nat)(hb:CodecP.Bytes bs)(hl:bs.length≤100000000)(hlg:lo≤g)(w:World)(hbw:lo≤w.heap.size)(hI:IsCur w lo g bs (i:Int))(hs:i+8≤bs.length)
  (k v er:Int) (hk:k=CodecP.leI ((bs.drop i).take 4)) (hv:v=CodecP.leI ((bs.drop (i+4)).take 4)) (hL:Qao.f k v=some er) (he:er≠0) :
  Calls Tryz.prog 140 #[.pointer (some ⟨g,0,none⟩)] w fun e w'=>e=.panicked [Qpj g er]∧IsCur w' lo g bs (i+4+4:Int)∧Bw lo g w w':=by
 have a:decide ((bs.length:Int)-(i:Int)<8)=false:=decide_eq_false (by omega);have O0:=QA (OS.start hI hbw);have hu:=Tryz.underlying207;have hii:(0:Int)≤(i:Int)∧(i:Int)≤(bs.length:Int):=⟨by omega,by omega⟩;have hll:bs.length≤140737488355328:=by omega
 have hk':k=CodecP.leI ((bs.drop (i:Int).toNat).take 4):=hk;have hv':v=CodecP.leI ((bs.drop ((i:Int)+4).toNat).take 4):=by rw[show((i:Int)+4).toNat=i+4 by omega];exact hv
 have hkr:=CodecP.leI_range ((hb.drop i).take 4);have hvr:=CodecP.leI_range ((hb.drop (i+4)).take 4);rw[← hk,List.length_take,List.length_drop,show min 4 (bs.length-i)=4 by omega]at hkr;rw[← hv,List.length_take,List.length_drop,show min 4 (bs.length-(i+4))=4 by omega]at hvr;have hwk:IntKind.u64.wrap k=k:=IntWalk.u64_in _ (by omega);have hwv:IntKind.u64.wrap v=v:=IntWalk.u64_in _ (by omega);have HF:=QA (show((0:Int)≤(i:Int)∧(i:Int)+4≤(bs.length:Int))∧(0:Int)≤(i:Int)+4∧(i:Int)+4+4≤(bs.length:Int) from⟨⟨by omega,by omega⟩,by omega,by omega⟩);have HK:=QA hk';have HV:=QA hv';have HL:=QA hL;have HB:=QA hb;clear hI hk hv hk' hv' hkr hvr hL hb
 go_enter Tryz.func140,Tryz.ntmps140
 go_wp2_with (first
  |(go_at_call 175;refine(Qpl lo g bs ((i:Int)+4+4) er he _ O4.out.1).mono ?_;rintro ee w5 ⟨rfl,rfl⟩)
  |(go_at_call 192;refine(Qao.calls k v er _ HL.out).mono ?_;rintro ee w4 ⟨rfl,hd⟩;have O4:=QA (O3.out.below hd.below);clear hd)
  |(go_at_call 180;have gate:=O2.out;clear gate;refine(Qsc lo g bs ((i:Int)+4) v HV.out HB.out HF.out.2.1 hll HF.out.2.2 hlg _ O2.out.2.1 O2.out.1).mono ?_;rintro ee w3 ⟨rfl,hI3,hB3⟩;have O3:=QA (O2.out.cur hI3 hB3);clear hI3 hB3)
  |(go_at_call 180;refine(Qsc lo g bs (i:Int) k HK.out HB.out HF.out.1.1 hll HF.out.1.2 hlg _ O1.out.2.1 O1.out.1).mono ?_;rintro ee w2 ⟨rfl,hI2,hB2⟩;have O2:=QA (O1.out.cur hI2 hB2);clear hI2 hB2)
  |(go_at_call 139;refine(Qpq lo g bs (i:Int) hii hll _ O0.out.1).mono ?_;rintro ee w1 ⟨rfl,hb1⟩;have O1:=QA (O0.out.below hb1);clear hb1))
 exact⟨rfl,rfl,O4.out.end_⟩
theorem Qsg(lo g:Nat)(bs:List Int)(i:Nat)(hb:CodecP.Bytes bs)(hl:bs.length≤100000000)(hlg:lo≤g)(w:World)(hbw:lo≤w.heap.size)(hI:IsCur w lo g bs (i:Int))(hs:i+8≤bs.length)
  (k v:Int) (hk:k=CodecP.leI ((bs.drop i).take 4)) (hv:v=CodecP.leI ((bs.drop (i+4)).take 4)) (hL:Qao.f k v=some 0) (hsh:(bs.length:Int)<((i:Int)+4+4)+k+v+4) :
  Calls Tryz.prog 140 #[.pointer (some ⟨g,0,none⟩)] w fun e w'=>e=.panicked [Qpj g 2]∧IsCur w' lo g bs (i+4+4:Int)∧Bw lo g w w':=by
 have a:decide ((bs.length:Int)-(i:Int)<8)=false:=decide_eq_false (by omega);have O0:=QA (OS.start hI hbw);have hu:=Tryz.underlying207;have hii:(0:Int)≤(i:Int)∧(i:Int)≤(bs.length:Int):=⟨by omega,by omega⟩;have hii2:(0:Int)≤(i:Int)+4+4∧(i:Int)+4+4≤(bs.length:Int):=⟨by omega,by omega⟩;have hll:bs.length≤140737488355328:=by omega
 have hk':k=CodecP.leI ((bs.drop (i:Int).toNat).take 4):=hk;have hv':v=CodecP.leI ((bs.drop ((i:Int)+4).toNat).take 4):=by rw[show((i:Int)+4).toNat=i+4 by omega];exact hv
 have hkr:=CodecP.leI_range ((hb.drop i).take 4);have hvr:=CodecP.leI_range ((hb.drop (i+4)).take 4);rw[← hk,List.length_take,List.length_drop,show min 4 (bs.length-i)=4 by omega]at hkr;rw[← hv,List.length_take,List.length_drop,show min 4 (bs.length-(i+4))=4 by omega]at hvr;have hwk:IntKind.u64.wrap k=k:=IntWalk.u64_in _ (by omega);have hwv:IntKind.u64.wrap v=v:=IntWalk.u64_in _ (by omega);have hwk2:IntKind.i64.wrap k=k:=IntWalk.i64_in _ (by omega);have hwv2:IntKind.i64.wrap v=v:=IntWalk.i64_in _ (by omega);have hw3:IntKind.i64.wrap (k+v)=k+v:=IntWalk.i64_in _ (by omega);have hw4:IntKind.i64.wrap (k+v+4)=k+v+4:=IntWalk.i64_in _ (by omega);have hsb:decide ((bs.length:Int)-((i:Int)+4+4)<k+v+4)=true:=decide_eq_true (by omega);have HF:=QA (show((0:Int)≤(i:Int)∧(i:Int)+4≤(bs.length:Int))∧(0:Int)≤(i:Int)+4∧(i:Int)+4+4≤(bs.length:Int) from⟨⟨by omega,by omega⟩,by omega,by omega⟩);have HK:=QA hk';have HV:=QA hv';have HL:=QA hL;have HB:=QA hb;clear hI hk hv hk' hv' hkr hvr hL hb hsh
 go_enter Tryz.func140,Tryz.ntmps140
 go_wp2_with (first
  |(go_at_call 175;have gate:=O6.out;clear gate;refine(Qpl lo g bs ((i:Int)+4+4) 2 (by decide) _ O6.out.1).mono ?_;rintro ee w7 ⟨rfl,rfl⟩)
  |(go_at_call 139;have gate:=O5.out;clear gate;refine(Qpq lo g bs ((i:Int)+4+4) hii2 hll _ O5.out.1).mono ?_;rintro ee w6 ⟨rfl,hb1⟩;have O6:=QA (O5.out.below hb1);clear hb1)
  |(go_at_call 175;refine(Qsd lo g bs ((i:Int)+4+4) _ O4.out.1).mono ?_;rintro ee w5 ⟨rfl,hb5⟩;have O5:=QA (O4.out.below hb5);clear hb5)
  |(go_at_call 192;refine(Qao.calls k v 0 _ HL.out).mono ?_;rintro ee w4 ⟨rfl,hd⟩;have O4:=QA (O3.out.below hd.below);clear hd)
  |(go_at_call 180;have gate:=O2.out;clear gate;refine(Qsc lo g bs ((i:Int)+4) v HV.out HB.out HF.out.2.1 hll HF.out.2.2 hlg _ O2.out.2.1 O2.out.1).mono ?_;rintro ee w3 ⟨rfl,hI3,hB3⟩;have O3:=QA (O2.out.cur hI3 hB3);clear hI3 hB3)
  |(go_at_call 180;refine(Qsc lo g bs (i:Int) k HK.out HB.out HF.out.1.1 hll HF.out.1.2 hlg _ O1.out.2.1 O1.out.1).mono ?_;rintro ee w2 ⟨rfl,hI2,hB2⟩;have O2:=QA (O1.out.cur hI2 hB2);clear hI2 hB2)
  |(go_at_call 139;refine(Qpq lo g bs (i:Int) hii hll _ O0.out.1).mono ?_;rintro ee w1 ⟨rfl,hb1⟩;have O1:=QA (O0.out.below hb1);clear hb1))
 exact⟨rfl,rfl,O6.out.end_⟩
def Q7(w W:World)(lo g:Nat)(bs xk xv:List Int)(I k v:Int)(d3 d8 d11:Bool)(s:Value × Value × Nat):Prop :=
 OS w W lo g w.heap.size bs (cond d8 (I+k+v) (cond d3 (I+k) I))∧(d3=true→R8 W lo s.1 xk)∧(d8=true→R8 W lo s.2.1 xv)∧(d11=true→W.heap[s.2.2]? = some (.cells #[.string (⟨#[]⟩:ByteArray),.string (⟨#[]⟩:ByteArray)] 207 (0,0))∧w.heap.size<s.2.2)
section
variable {w W W':World} {lo g p:Nat} {bs xk xv:List Int} {I k v:Int} {d3 d8 d11:Bool} {s:Value × Value × Nat} {va vb vt:Value}
theorem Q7.os0(h:Q7 w W lo g bs xk xv I k v false false d11 s):OS w W lo g w.heap.size bs I:=h.1
theorem Q7.os1(h:Q7 w W lo g bs xk xv I k v true false d11 s):OS w W lo g w.heap.size bs (I+k):=h.1
theorem Q7.start(h:OS w W lo g w.heap.size bs I):Q7 w W lo g bs xk xv I k v false false false (.bool false,.bool false,0):=⟨h,by simp,by simp,by simp⟩
theorem OS.far{i:Int}{rb q:Nat}(h:OS w W lo g rb bs i){cs:Array Value}(hq:W.heap[q]? = some (.cells cs 207 (0,0)))(hB:Bw lo g W W'):W'.heap[q]? = some (.cells cs 207 (0,0)):=by
 obtain⟨v,h1,_⟩:=h.1;exact hB.2 _ _ _ hq (by decide) (Qer hq h1 (by decide))
theorem Q7.take1(h:Q7 w W lo g bs xk xv I k v false false d11 (va,vb,p))(hR:R8 W' W.heap.size vt xk)(hI:IsCur W' lo g bs (I+k))(hB:Bw lo g W W')(hK:K8 W W'):Q7 w W' lo g bs xk xv I k v true false d11 (vt,vb,p) :=
 ⟨h.os0.cur hI hB,fun _=>R8.low hR h.1.2.1,by simp,fun hd=>⟨h.1.far (h.2.2.2 hd).1 hB,(h.2.2.2 hd).2⟩⟩
theorem Q7.take2(h:Q7 w W lo g bs xk xv I k v true false d11 (va,vb,p))(hR:R8 W' W.heap.size vt xv)(hI:IsCur W' lo g bs (I+k+v))(hB:Bw lo g W W')(hK:K8 W W'):Q7 w W' lo g bs xk xv I k v true true d11 (va,vt,p) :=
 ⟨h.os1.cur hI hB,fun _=>hK _ _ _ (h.2.1 rfl),fun _=>R8.low hR h.1.2.1,fun hd=>⟨h.1.far (h.2.2.2 hd).1 hB,(h.2.2.2 hd).2⟩⟩
theorem Q7.new(h:Q7 w W lo g bs xk xv I k v d3 d8 false (va,vb,p)):Q7 w (W.alloc (.cells #[.string (⟨#[]⟩:ByteArray),.string (⟨#[]⟩:ByteArray)] 207)) lo g bs xk xv I k v d3 d8 true (va,vb,W.heap.size) :=
 ⟨h.1.below (Qdq (Below.refl _ _) _),fun hd=>R8.kept (h.2.1 hd) (Qdq (Below.refl _ _) _),fun hd=>R8.kept (h.2.2.1 hd) (Qdq (Below.refl _ _) _),fun _=>⟨Qfe W _,Qen h.1.2.2.2⟩⟩
theorem Qsh{a b:Value}(h:W.heap[p]? = some (.cells #[a,b] 207 (0,0))):W.cell? ⟨p,0,none⟩=some a∧W.cell? ⟨p,1,none⟩=some b∧W.frozen? ⟨p,0,none⟩=false∧W.frozen? ⟨p,1,none⟩=false:=⟨(Qeo h 0).trans rfl,(Qeo h 1).trans rfl,Qep h 0,Qep h 1⟩
theorem OS.set{i:Int}{cs:Array Value}(h:OS w W lo g w.heap.size bs i)(hp:W.heap[p]? = some (.cells cs 207 (0,0)))(hlt:w.heap.size<p)(hlo:lo≤w.heap.size)(j:Nat)(u:Value):OS w (W.setCell ⟨p,j,none⟩ u) lo g w.heap.size bs i:=by
 obtain⟨⟨v,h1,h2⟩,h3,h4,h5⟩:=h;refine⟨⟨v,Qem h1 (p:=⟨p,j,none⟩) (Qer h1 hp (by decide)) u,h2.set hp (by decide) j u⟩,by simpa [World.setCell]using h3,⟨Qlc h4.1 (by omega),fun k cs t g1 g2 g3=>Qem (h4.2 _ _ _ g1 g2 g3) (p:=⟨p,j,none⟩) (by have:=Qen g1;show k≠p;omega) u⟩,Qem h5 (p:=⟨p,j,none⟩) (by show w.heap.size≠p;omega) u⟩
theorem Q7.store(h:Q7 w W lo g bs xk xv I k v true true true (va,vb,p))(hlo:lo≤w.heap.size)(x y:Value):∃W',W'=(W.setCell ⟨p,0,none⟩ x).setCell ⟨p,1,none⟩ y∧W'.heap[p]? = some (.cells #[x,y] 207 (0,0))∧OS w W' lo g w.heap.size bs (I+k+v):=by
 obtain⟨hp,hlt⟩:=h.2.2.2 rfl;have b1:=Qel hp 0 x;exact⟨_,rfl,Qel b1 1 y,(OS.set (show OS w W lo g w.heap.size bs (I+k+v) from h.1) hp hlt hlo 0 x).set b1 hlt hlo 1 y⟩
end
theorem Qsi{W W':World}{q:Nat}(h:W'.heap[q]? = W.heap[q]?)(j:Nat):W'.cell? ⟨q,j,none⟩=W.cell? ⟨q,j,none⟩:=by simp only[World.cell?,h]
theorem Qsj{W W':World}{b p j:Nat}{x:Value}(hB:Below b W W')(hp:p<b)(h:W.cell? ⟨p,j,none⟩=some x):W'.cell? ⟨p,j,none⟩=some x:=(Qsi (hB.block p hp) j).trans h
def Rw(W:World)(gB a:Nat)(s:ByteArray):Prop :=
 (∃W0:World,W0.heap.size=a∧W.heap[a]? = (Lib.bytesWorld W0 5 s).heap[a]?∧∃o,W.heap[a]? = some o)∧a≠gB∧∃v,W.heap[gB]? = some (.cells #[v] 167 (0,0))∧some a≠v.ownBlock
theorem Rw.C{W:World}{gB a:Nat}{s:ByteArray}(h:Rw W gB a s)(hs:s.size≤9223372036854775807):Kd.C (Kd.int .u8) W (some ⟨a,0,none⟩) s.size (bytesOf s):=by
 obtain⟨⟨W0,rfl,he,_⟩,_⟩:=h;obtain⟨r1,r2,r3⟩:=Qee W0 5 s hs;refine Kd.C_of_reads (d:=(0:Int)) ⟨r1,r2,fun hp=>?_⟩;obtain⟨ad,had,hc⟩:=r3 hp;obtain rfl:=Option.some.inj had;refine⟨_,rfl,fun j hj=>?_⟩;have:=hc j hj;rw[Qdv]at this ⊢;exact(Qsi he _).trans this
theorem Rw.ow{W W':World}{gB a:Nat}{s:ByteArray}(h:Rw W gB a s)(hO:Ow gB W W'):Rw W' gB a s:=by
 obtain⟨⟨W0,h0,he,o,ho⟩,hne,v,hv,hown⟩:=h;obtain⟨h1,v',h2,h3⟩:=hO a o v hv ho hne hown;exact⟨⟨W0,h0,h1.trans (ho.symm.trans he),o,h1⟩,hne,v',h2,h3⟩
theorem own_new{W:World}{b:Nat}{v:Value}{xs:List Int}(h:R8 W b v xs):some W.heap.size≠v.ownBlock :=
 Kd.R_ne (R8.kept h (Qdq (Below.refl _ _) (.cells #[.string (⟨#[]⟩:ByteArray),.string (⟨#[]⟩:ByteArray)] 207))) (Qfe W _) (by decide)
theorem Rw.new{W:World}{gB b:Nat}{xs:List Int}(hI:IsBuf W b gB xs)(s:ByteArray):Rw (Lib.bytesWorld W 5 s) gB W.heap.size s:=by
 obtain⟨v,h1,h2⟩:=hI;have hlt:=Qen h1;exact⟨⟨W,rfl,rfl,_,Lib.bytesWorld_at_new W 5 s⟩,by omega,v,(Lib.bytesWorld_at_old W 5 s gB hlt).trans h1,own_new h2⟩
theorem Rw.below{W W':World}{gB a:Nat}{s:ByteArray}(h:Rw W gB a s)(hb:Below W.heap.size W W'):Rw W' gB a s:=by
 obtain⟨⟨W0,h0,he,o,ho⟩,hne,v,hv,hown⟩:=h;have h1:=(hb.block a (Qen ho));exact⟨⟨W0,h0,h1.trans he,o,h1.trans ho⟩,hne,v,Qfd hv hb,hown⟩
def Q9(wA W:World)(gB:Nat)(ys:List Int)(d6 d10:Bool)(sk sv:ByteArray)(s:Nat × Nat × Nat × Nat):Prop :=
 IsBuf W gB gB ys∧Bw gB gB wA W∧gB≤W.heap.size∧(d6=true→Rw W gB s.1 sk)∧(d10=true→Rw W gB s.2.2.1 sv)
section
variable {wA W W':World} {gB:Nat} {ys ys':List Int} {d6 d10:Bool} {sk sv:ByteArray} {s:Nat × Nat × Nat × Nat} {a b c ca cb:Nat}
theorem Q9.step(h:Q9 wA W gB ys d6 d10 sk sv s)(hI:IsBuf W' gB gB ys')(hB:Bw gB gB W W')(hO:Ow gB W W'):Q9 wA W' gB ys' d6 d10 sk sv s :=
 ⟨hI,h.2.1.trans hB,Nat.le_trans h.2.2.1 hB.size,fun hd=>(h.2.2.2.1 hd).ow hO,fun hd=>(h.2.2.2.2 hd).ow hO⟩
theorem Q9.row6(h:Q9 wA W gB ys true d10 sk sv (a,ca,b,cb)):Rw W gB a sk:=h.2.2.2.1 rfl
theorem Q9.row10(h:Q9 wA W gB ys d6 true sk sv (a,ca,b,cb)):Rw W gB b sv:=h.2.2.2.2 rfl
theorem Q9.new6(h:Q9 wA W gB ys false d10 sk sv (a,ca,b,cb)):Q9 wA (Lib.bytesWorld W 5 sk) gB ys true d10 sk sv (W.heap.size,c,b,cb):=by
 have hb:=Qef (Below.refl W.heap.size W) (Nat.le_refl _) 5 sk;exact⟨h.1.kept hb,h.2.1.trans (Bw.below hb h.2.2.1),Nat.le_trans h.2.2.1 hb.size,fun _=>Rw.new h.1 sk,fun hd=>(h.2.2.2.2 hd).below hb⟩
theorem Q9.new10(h:Q9 wA W gB ys d6 false sk sv (a,ca,b,cb)):Q9 wA (Lib.bytesWorld W 5 sv) gB ys d6 true sk sv (a,ca,W.heap.size,c):=by
 have hb:=Qef (Below.refl W.heap.size W) (Nat.le_refl _) 5 sv;exact⟨h.1.kept hb,h.2.1.trans (Bw.below hb h.2.2.1),Nat.le_trans h.2.2.1 hb.size,fun hd=>(h.2.2.2.1 hd).below hb,fun _=>Rw.new h.1 sv⟩
theorem Q9.goFour(x:Int)(h:Q9 wA W gB ys d6 d10 sk sv s)(h0:0≤x)(h1:x<4294967296)(hz:sk.size+sv.size≤1000000000)(hl:ys.length≤1000) :
  Calls Tryz.prog 112 #[.pointer (some ⟨gB,0,none⟩),.int .u32 x] W fun e w'=>e=.returned (.pointer (some ⟨gB,0,none⟩))∧IsBuf w' gB gB (ys++leb x 4)∧Bw gB gB W w'∧Ow gB W w' :=
 Qli gB gB x ys W h0 h1 (Nat.le_refl _) h.2.2.1 h.1 (by omega)
theorem Q9.goRaw{t:ByteArray}(ct:Nat)(h:Q9 wA W gB ys d6 d10 sk sv s)(hr:Rw W gB a t)(hz:t.size≤1000000000)(hl:ys.length≤2000000000) :
  Calls Tryz.prog 150 #[.pointer (some ⟨gB,0,none⟩),.slice (some ⟨a,0,none⟩) t.size ct] W fun e w'=>e=.returned (.pointer (some ⟨gB,0,none⟩))∧IsBuf w' gB gB (ys++bytesOf t)∧Bw gB gB W w'∧Ow gB W w':=by
 have hC:=hr.C (by omega);rw[← Qeb t]at hC ⊢;exact Qll gB gB _ ct (bytesOf t) ys W hC (Nat.le_refl _) h.2.2.1 h.1 (by rw[Qeb];omega)
end
theorem Qsk (lo g:Nat) (bs:List Int) (i:Nat) (hb:CodecP.Bytes bs) (hl:bs.length≤100000000) (hlg:lo≤g) (w:World) (hbw:lo≤w.heap.size) (hI:IsCur w lo g bs (i:Int)) (hs:i+8≤bs.length)
  (k v:Int) (hk:k=CodecP.leI ((bs.drop i).take 4)) (hv:v=CodecP.leI ((bs.drop (i+4)).take 4)) (hL:Qao.f k v=some 0) (hsh:((i:Int)+4+4)+k+v+4≤(bs.length:Int)) (x:Int) (hx:x=CodecP.leI ((bs.drop ((i:Int)+4+4+k+v).toNat).take 4)) (xk xv:List Int) (hxk:xk=(bs.drop ((i:Int)+4+4).toNat).take k.toNat) (hxv:xv=(bs.drop ((i:Int)+4+4+k).toNat).take v.toNat) :
  Calls Tryz.prog 140 #[.pointer (some ⟨g,0,none⟩)] w fun e w'=>(IsCur w' lo g bs ((i:Int)+4+4+k+v+4)∧Bw lo g w w')∧((Qqk 0 (leb k 4++leb v 4++bytesOf (strOfNums xk)++bytesOf (strOfNums xv))=x∧e=.returned (.agg #[.string (strOfNums xk),.string (strOfNums xv)]))∨(Qqk 0 (leb k 4++leb v 4++bytesOf (strOfNums xk)++bytesOf (strOfNums xv))≠x∧e=.panicked [Qpj g 5])):=by
 have y:decide ((bs.length:Int)-(i:Int)<8)=false:=decide_eq_false (by omega);have O0:=QA (OS.start hI hbw);have hu:=Tryz.underlying207;have hii:(0:Int)≤(i:Int)∧(i:Int)≤(bs.length:Int):=⟨by omega,by omega⟩;have hii2:(0:Int)≤(i:Int)+4+4∧(i:Int)+4+4≤(bs.length:Int):=⟨by omega,by omega⟩;have hll:bs.length≤140737488355328:=by omega
 have hk':k=CodecP.leI ((bs.drop (i:Int).toNat).take 4):=hk;have hv':v=CodecP.leI ((bs.drop ((i:Int)+4).toNat).take 4):=by rw[show((i:Int)+4).toNat=i+4 by omega];exact hv
 have hkr:=CodecP.leI_range ((hb.drop i).take 4);have hvr:=CodecP.leI_range ((hb.drop (i+4)).take 4);rw[← hk,List.length_take,List.length_drop,show min 4 (bs.length-i)=4 by omega]at hkr;rw[← hv,List.length_take,List.length_drop,show min 4 (bs.length-(i+4))=4 by omega]at hvr;have hwk:IntKind.u64.wrap k=k:=IntWalk.u64_in _ (by omega);have hwv:IntKind.u64.wrap v=v:=IntWalk.u64_in _ (by omega);have hwk2:IntKind.i64.wrap k=k:=IntWalk.i64_in _ (by omega);have hwv2:IntKind.i64.wrap v=v:=IntWalk.i64_in _ (by omega);have hw3:IntKind.i64.wrap (k+v)=k+v:=IntWalk.i64_in _ (by omega);have hw4:IntKind.i64.wrap (k+v+4)=k+v+4:=IntWalk.i64_in _ (by omega);have hsb:decide ((bs.length:Int)-((i:Int)+4+4)<k+v+4)=false:=decide_eq_false (by omega);have HF:=QA (show((0:Int)≤(i:Int)∧(i:Int)+4≤(bs.length:Int))∧(0:Int)≤(i:Int)+4∧(i:Int)+4+4≤(bs.length:Int) from⟨⟨by omega,by omega⟩,by omega,by omega⟩);have HKR:=QA (show 0≤k∧k<4294967296 from⟨hkr.1,by omega⟩);have HVR:=QA (show 0≤v∧v<4294967296 from⟨hvr.1,by omega⟩);have HK:=QA hk';have HV:=QA hv';have HL:=QA hL;have HB:=QA hb;have HX:=QA hx;have l:=QA (show(0:Int)≤(i:Int)+4+4+k+v∧(i:Int)+4+4+k+v+4≤(bs.length:Int) from⟨by omega,by omega⟩);clear hx;have HXL:=QA (show xk.length+xv.length≤1000000000 by rw[hxk,hxv,List.length_take,List.length_take,List.length_drop,List.length_drop];omega);have T1:=QA (fun W (hO:OS w W lo g w.heap.size bs ((i:Int)+4+4))=>Qpo lo g bs xk ((i:Int)+4+4) k hxk hkr.1 (by omega) hll (by omega) hlg W hO.2.1 hO.1);have T2:=QA (fun W (hO:OS w W lo g w.heap.size bs ((i:Int)+4+4+k))=>Qpo lo g bs xv ((i:Int)+4+4+k) v hxv hvr.1 (by omega) hll (by omega) hlg W hO.2.1 hO.1);clear hxk hxv hI hk hv hk' hv' hkr hvr hL hb hsh
 go_enter Tryz.func140,Tryz.ntmps140
 go_upto_region 7 with(first
  |(go_at_call 139;have gate:=O5.out;clear gate;refine(Qpq lo g bs ((i:Int)+4+4) hii2 hll _ O5.out.1).mono ?_;rintro ee w6 ⟨rfl,hb1⟩;have O6:=QA (O5.out.below hb1);clear hb1)
  |(go_at_call 175;refine(Qsd lo g bs ((i:Int)+4+4) _ O4.out.1).mono ?_;rintro ee w5 ⟨rfl,hb5⟩;have O5:=QA (O4.out.below hb5);clear hb5)
  |(go_at_call 192;refine(Qao.calls k v 0 _ HL.out).mono ?_;rintro ee w4 ⟨rfl,hd⟩;have O4:=QA (O3.out.below hd.below);clear hd)
  |(go_at_call 180;have gate:=O2.out;clear gate;refine(Qsc lo g bs ((i:Int)+4) v HV.out HB.out HF.out.2.1 hll HF.out.2.2 hlg _ O2.out.2.1 O2.out.1).mono ?_;rintro ee w3 ⟨rfl,hI3,hB3⟩;have O3:=QA (O2.out.cur hI3 hB3);clear hI3 hB3)
  |(go_at_call 180;refine(Qsc lo g bs (i:Int) k HK.out HB.out HF.out.1.1 hll HF.out.1.2 hlg _ O1.out.2.1 O1.out.1).mono ?_;rintro ee w2 ⟨rfl,hI2,hB2⟩;have O2:=QA (O1.out.cur hI2 hB2);clear hI2 hB2)
  |(go_at_call 139;refine(Qpq lo g bs (i:Int) hii hll _ O0.out.1).mono ?_;rintro ee w1 ⟨rfl,hb1⟩;have O1:=QA (O0.out.below hb1);clear hb1))
 have HLO:=QA hbw
 go_cut [5] (fun v5 w'=>∃p:Nat,v5=.pointer (some ⟨p,0,none⟩)∧w'.heap[p]? = some (.cells #[.string (strOfNums xk),.string (strOfNums xv)] 207 (0,0))∧OS w w' lo g w.heap.size bs ((i:Int)+4+4+k+v))
 case first =>
  obtain⟨I,hI⟩:∃I,I=(i:Int)+4+4:=⟨_,rfl⟩;rw[← hI]at T1 T2 O6 ⊢;have HII:=QA hI;clear hI;have HQ:=QA (Q7.start (xk:=xk) (xv:=xv) (k:=k) (v:=v) (O6.out.below (Qdr (Below.refl _ _))));refine Qhg (n:=13) (S:=fun w'=>True) (ds:=[]) (bm 13 0) qq_7 rfl rfl trivial (fun a=>?_);refine pz_ (i:=0) (N:=some 34) (bm 13 1) qq_7 ?_;refine pz_ (i:=1) (N:=some 35) (bm 13 3) qq_7 ?_;refine pz_ (i:=2) (N:=some 36) (bm 13 7) qq_7 ?_;refine pz_ (i:=5) (N:=some 39) (bm 13 39) qq_7 ?_;refine pz_ (i:=6) (N:=some 40) (bm 13 103) qq_7 ?_;refine pz_ (i:=7) (N:=some 41) (bm 13 231) qq_7 ?_;refine Qho (σ:=Value × Value × Nat) 1 (bm 13 4095) (fun s_=>[(37,s_.1),(38,.string (strOfNums xk)),(42,s_.2.1),(43,.string (strOfNums xv)),(5,.pointer (some ⟨s_.2.2,0,none⟩)),(44,.agg #[.string (strOfNums xk),.string (strOfNums xv)])]) (fun s_ w'=>Q7 w w' lo g bs xk xv I k v true true true s_) ?_ ?_;rotate_left
  ·intro hJ3_4_8_9_11;refine Qho (σ:=Value × Value × Nat) 2 (bm 13 2047) (fun s_=>[(37,s_.1),(38,.string (strOfNums xk)),(42,s_.2.1),(43,.string (strOfNums xv)),(44,.agg #[.string (strOfNums xk),.string (strOfNums xv)])]) (fun s_ w'=>Q7 w w' lo g bs xk xv I k v true true false s_) ?_ ?_;rotate_left
   ·intro hJ3_4_8_9;refine Qho (σ:=Value × Value × Nat) 3 (bm 13 2559) (fun s_=>[(37,s_.1),(38,.string (strOfNums xk)),(42,s_.2.1),(5,.pointer (some ⟨s_.2.2,0,none⟩))]) (fun s_ w'=>Q7 w w' lo g bs xk xv I k v true true true s_) ?_ ?_;rotate_left
    ·intro hJ3_4_8_11;refine Qho (σ:=Value × Value × Nat) 3 (bm 13 3055) (fun s_=>[(37,s_.1),(42,s_.2.1),(43,.string (strOfNums xv)),(5,.pointer (some ⟨s_.2.2,0,none⟩))]) (fun s_ w'=>Q7 w w' lo g bs xk xv I k v true true true s_) ?_ ?_;rotate_left
     ·intro hJ3_8_9_11;refine Qho (σ:=Value × Value × Nat) 4 (bm 13 511) (fun s_=>[(37,s_.1),(38,.string (strOfNums xk)),(42,s_.2.1)]) (fun s_ w'=>Q7 w w' lo g bs xk xv I k v true true false s_) ?_ ?_;rotate_left
      ·intro hJ3_4_8;refine Qho (σ:=Value × Value × Nat) 4 (bm 13 2303) (fun s_=>[(37,s_.1),(38,.string (strOfNums xk)),(5,.pointer (some ⟨s_.2.2,0,none⟩))]) (fun s_ w'=>Q7 w w' lo g bs xk xv I k v true false true s_) ?_ ?_;rotate_left
       ·intro hJ3_4_11;refine Qho (σ:=Value × Value × Nat) 4 (bm 13 1007) (fun s_=>[(37,s_.1),(42,s_.2.1),(43,.string (strOfNums xv))]) (fun s_ w'=>Q7 w w' lo g bs xk xv I k v true true false s_) ?_ ?_;rotate_left
        ·intro hJ3_8_9;refine Qho (σ:=Value × Value × Nat) 4 (bm 13 2543) (fun s_=>[(37,s_.1),(42,s_.2.1),(5,.pointer (some ⟨s_.2.2,0,none⟩))]) (fun s_ w'=>Q7 w w' lo g bs xk xv I k v true true true s_) ?_ ?_;rotate_left
         ·intro hJ3_8_11;refine Qho (σ:=Value × Value × Nat) 5 (bm 13 255) (fun s_=>[(37,s_.1),(38,.string (strOfNums xk))]) (fun s_ w'=>Q7 w w' lo g bs xk xv I k v true false false s_) ?_ ?_;rotate_left
          ·intro hJ3_4;refine Qho (σ:=Value × Value × Nat) 5 (bm 13 495) (fun s_=>[(37,s_.1),(42,s_.2.1)]) (fun s_ w'=>Q7 w w' lo g bs xk xv I k v true true false s_) ?_ ?_;rotate_left
           ·intro hJ3_8;refine Qho (σ:=Value × Value × Nat) 5 (bm 13 2287) (fun s_=>[(37,s_.1),(5,.pointer (some ⟨s_.2.2,0,none⟩))]) (fun s_ w'=>Q7 w w' lo g bs xk xv I k v true false true s_) ?_ ?_;rotate_left
            ·intro hJ3_11;refine Qho (σ:=Value × Value × Nat) 6 (bm 13 239) (fun s_=>[(37,s_.1)]) (fun s_ w'=>Q7 w w' lo g bs xk xv I k v true false false s_) ?_ ?_;rotate_left
             ·intro hJ3;refine Qho (σ:=Value × Value × Nat) 6 (bm 13 2279) (fun s_=>[(5,.pointer (some ⟨s_.2.2,0,none⟩))]) (fun s_ w'=>Q7 w w' lo g bs xk xv I k v false false true s_) ?_ ?_;rotate_left
              ·intro hJ11;refine two_ (i:=3) (j:=11) (Ni:=some 37) (Nj:=some 5) (bm 13 239) (bm 13 2279) rfl rfl rfl rfl qq_7 (by decide) (by decide) (fun K hK=>?_) (fun K hK=>?_)
               ·skip
                refine Qhr Tryz.func193 qq_7 rfl #[.pointer (some ⟨g,0,none⟩),.int .i64 k] (by rfl) rfl rfl qq_12 ?_;with_reducible refine(T1.out _ HQ.out.os0).mono ?_
                rintro ee wt_ ⟨vt_,rfl,hR_,hI_,hB_,hK_⟩;refine⟨_,rfl,?_⟩;refine hK.out _ _ trivial (fun a=>?_);clear hK K;refine nzp_ 37 ?_;exact Qhp qq_3 (hJ3 (vt_,(.bool false),0) _ (HQ.out.take1 hR_ hI_ hB_ hK_))
               ·skip
                refine Qht (w1:=?_) (v:=?_) (by rfl) rfl ?_ ?_;rotate_left 2
                ·go_simp
                 constructor
                 ·rfl
                 ·rfl
                refine hK.out _ _ trivial (fun a=>?_);clear hK K;refine nzp_ 5 ?_;exact Qhp qq_3 (hJ11 ((.bool false),(.bool false),_) _ HQ.out.new)
              ·skip
               rintro⟨va_,vb_,p_⟩ wn11_ HQ_;clear a HQ;have a:True:=trivial;have HQ:=QA HQ_;clear HQ_;refine nza_ ?_;refine one_ (i:=3) (N:=some 37) (bm 13 2287) rfl rfl qq_7 (by decide) (fun K hK=>?_);refine Qhr Tryz.func193 qq_7 rfl #[.pointer (some ⟨g,0,none⟩),.int .i64 k] (by rfl) rfl rfl qq_12 ?_;with_reducible refine(T1.out _ HQ.out.os0).mono ?_
               rintro ee wt_ ⟨vt_,rfl,hR_,hI_,hB_,hK_⟩;refine⟨_,rfl,?_⟩;refine hK.out _ _ trivial (fun a=>?_);clear hK K;refine nzp_ 37 ?_;exact Qhp qq_3 (hJ3_11 (vt_,vb_,p_) _ (HQ.out.take1 hR_ hI_ hB_ hK_))
             ·skip
              rintro⟨va_,vb_,p_⟩ wn3_ HQ_;clear a HQ;have a:True:=trivial;have HQ:=QA HQ_;clear HQ_;have cva:=Qdz (P:=Tryz.prog) Tryz.underlying52 Tryz.underlying5 Tryz.underlying9 (Kd.own_of_R (HQ.out.2.1 rfl));refine nza_ ?_;refine Qhm (i:=4) (j:=8) (k:=11) (Ni:=some 38) (Nj:=some 42) (Nk:=some 5) (bm 13 255) (bm 13 495) (bm 13 2287) rfl rfl rfl rfl rfl rfl qq_7 (by decide) (by decide) (by decide) (fun K hK=>?_) (fun K hK=>?_) (fun K hK=>?_)
              ·skip
               refine Qht (w1:=?_) (v:=?_) (by rfl) rfl ?_ ?_;rotate_left 2
               ·go_simp
                constructor
                ·rfl
                ·rfl
               refine hK.out _ _ trivial (fun a=>?_);clear hK K;refine nzp_ 38 ?_;exact Qhp qq_3 (hJ3_4 (va_,vb_,p_) _ HQ.out)
              ·skip
               refine Qhr Tryz.func193 qq_7 rfl #[.pointer (some ⟨g,0,none⟩),.int .i64 v] (by rfl) rfl rfl qq_12 ?_;with_reducible refine(T2.out _ HQ.out.os1).mono ?_
               rintro ee wt_ ⟨vt_,rfl,hR_,hI_,hB_,hK_⟩;refine⟨_,rfl,?_⟩;refine hK.out _ _ trivial (fun a=>?_);clear hK K;refine nzp_ 42 ?_;exact Qhp qq_3 (hJ3_8 (va_,vt_,p_) _ (HQ.out.take2 hR_ hI_ hB_ hK_))
              ·skip
               refine Qht (w1:=?_) (v:=?_) (by rfl) rfl ?_ ?_;rotate_left 2
               ·go_simp
                constructor
                ·rfl
                ·rfl
               refine hK.out _ _ trivial (fun a=>?_);clear hK K;refine nzp_ 5 ?_;exact Qhp qq_3 (hJ3_11 (va_,vb_,_) _ HQ.out.new)
            ·skip
             rintro⟨va_,vb_,p_⟩ wn311_ HQ_;clear a HQ;have a:True:=trivial;have HQ:=QA HQ_;clear HQ_;have cva:=Qdz (P:=Tryz.prog) Tryz.underlying52 Tryz.underlying5 Tryz.underlying9 (Kd.own_of_R (HQ.out.2.1 rfl));refine nza_ ?_;refine two_ (i:=4) (j:=8) (Ni:=some 38) (Nj:=some 42) (bm 13 2303) (bm 13 2543) rfl rfl rfl rfl qq_7 (by decide) (by decide) (fun K hK=>?_) (fun K hK=>?_)
             ·skip
              refine Qht (w1:=?_) (v:=?_) (by rfl) rfl ?_ ?_;rotate_left 2
              ·go_simp
               constructor
               ·rfl
               ·rfl
              refine hK.out _ _ trivial (fun a=>?_);clear hK K;refine nzp_ 38 ?_;exact Qhp qq_3 (hJ3_4_11 (va_,vb_,p_) _ HQ.out)
             ·skip
              refine Qhr Tryz.func193 qq_7 rfl #[.pointer (some ⟨g,0,none⟩),.int .i64 v] (by rfl) rfl rfl qq_12 ?_;with_reducible refine(T2.out _ HQ.out.os1).mono ?_
              rintro ee wt_ ⟨vt_,rfl,hR_,hI_,hB_,hK_⟩;refine⟨_,rfl,?_⟩;refine hK.out _ _ trivial (fun a=>?_);clear hK K;refine nzp_ 42 ?_;exact Qhp qq_3 (hJ3_8_11 (va_,vt_,p_) _ (HQ.out.take2 hR_ hI_ hB_ hK_))
           ·skip
            rintro⟨va_,vb_,p_⟩ wn38_ HQ_;clear a HQ;have a:True:=trivial;have HQ:=QA HQ_;clear HQ_;have cva:=Qdz (P:=Tryz.prog) Tryz.underlying52 Tryz.underlying5 Tryz.underlying9 (Kd.own_of_R (HQ.out.2.1 rfl));have cvb:=Qdz (P:=Tryz.prog) Tryz.underlying52 Tryz.underlying5 Tryz.underlying9 (Kd.own_of_R (HQ.out.2.2.1 rfl));refine nza_ ?_;refine Qhm (i:=4) (j:=9) (k:=11) (Ni:=some 38) (Nj:=some 43) (Nk:=some 5) (bm 13 511) (bm 13 1007) (bm 13 2543) rfl rfl rfl rfl rfl rfl qq_7 (by decide) (by decide) (by decide) (fun K hK=>?_) (fun K hK=>?_) (fun K hK=>?_)
            ·skip
             refine Qht (w1:=?_) (v:=?_) (by rfl) rfl ?_ ?_;rotate_left 2
             ·go_simp
              constructor
              ·rfl
              ·rfl
             refine hK.out _ _ trivial (fun a=>?_);clear hK K;refine nzp_ 38 ?_;exact Qhp qq_3 (hJ3_4_8 (va_,vb_,p_) _ HQ.out)
            ·skip
             refine Qht (w1:=?_) (v:=?_) (by rfl) rfl ?_ ?_;rotate_left 2
             ·go_simp
              constructor
              ·rfl
              ·rfl
             refine hK.out _ _ trivial (fun a=>?_);clear hK K;refine nzp_ 43 ?_;exact Qhp qq_3 (hJ3_8_9 (va_,vb_,p_) _ HQ.out)
            ·skip
             refine Qht (w1:=?_) (v:=?_) (by rfl) rfl ?_ ?_;rotate_left 2
             ·go_simp
              constructor
              ·rfl
              ·rfl
             refine hK.out _ _ trivial (fun a=>?_);clear hK K;refine nzp_ 5 ?_;exact Qhp qq_3 (hJ3_8_11 (va_,vb_,_) _ HQ.out.new)
          ·skip
           rintro⟨va_,vb_,p_⟩ wn34_ HQ_;clear a HQ;have a:True:=trivial;have HQ:=QA HQ_;clear HQ_;refine nza_ ?_;refine two_ (i:=8) (j:=11) (Ni:=some 42) (Nj:=some 5) (bm 13 511) (bm 13 2303) rfl rfl rfl rfl qq_7 (by decide) (by decide) (fun K hK=>?_) (fun K hK=>?_)
           ·skip
            refine Qhr Tryz.func193 qq_7 rfl #[.pointer (some ⟨g,0,none⟩),.int .i64 v] (by rfl) rfl rfl qq_12 ?_;with_reducible refine(T2.out _ HQ.out.os1).mono ?_
            rintro ee wt_ ⟨vt_,rfl,hR_,hI_,hB_,hK_⟩;refine⟨_,rfl,?_⟩;refine hK.out _ _ trivial (fun a=>?_);clear hK K;refine nzp_ 42 ?_;exact Qhp qq_3 (hJ3_4_8 (va_,vt_,p_) _ (HQ.out.take2 hR_ hI_ hB_ hK_))
           ·skip
            refine Qht (w1:=?_) (v:=?_) (by rfl) rfl ?_ ?_;rotate_left 2
            ·go_simp
             constructor
             ·rfl
             ·rfl
            refine hK.out _ _ trivial (fun a=>?_);clear hK K;refine nzp_ 5 ?_;exact Qhp qq_3 (hJ3_4_11 (va_,vb_,_) _ HQ.out.new)
         ·skip
          rintro⟨va_,vb_,p_⟩ wn3811_ HQ_;clear a HQ;have a:True:=trivial;have HQ:=QA HQ_;clear HQ_;have cva:=Qdz (P:=Tryz.prog) Tryz.underlying52 Tryz.underlying5 Tryz.underlying9 (Kd.own_of_R (HQ.out.2.1 rfl));have cvb:=Qdz (P:=Tryz.prog) Tryz.underlying52 Tryz.underlying5 Tryz.underlying9 (Kd.own_of_R (HQ.out.2.2.1 rfl));refine nza_ ?_;refine two_ (i:=4) (j:=9) (Ni:=some 38) (Nj:=some 43) (bm 13 2559) (bm 13 3055) rfl rfl rfl rfl qq_7 (by decide) (by decide) (fun K hK=>?_) (fun K hK=>?_)
          ·skip
           refine Qht (w1:=?_) (v:=?_) (by rfl) rfl ?_ ?_;rotate_left 2
           ·go_simp
            constructor
            ·rfl
            ·rfl
           refine hK.out _ _ trivial (fun a=>?_);clear hK K;refine nzp_ 38 ?_;exact Qhp qq_3 (hJ3_4_8_11 (va_,vb_,p_) _ HQ.out)
          ·skip
           refine Qht (w1:=?_) (v:=?_) (by rfl) rfl ?_ ?_;rotate_left 2
           ·go_simp
            constructor
            ·rfl
            ·rfl
           refine hK.out _ _ trivial (fun a=>?_);clear hK K;refine nzp_ 43 ?_;exact Qhp qq_3 (hJ3_8_9_11 (va_,vb_,p_) _ HQ.out)
        ·skip
         rintro⟨va_,vb_,p_⟩ wn389_ HQ_;clear a HQ;have a:True:=trivial;have HQ:=QA HQ_;clear HQ_;have cva:=Qdz (P:=Tryz.prog) Tryz.underlying52 Tryz.underlying5 Tryz.underlying9 (Kd.own_of_R (HQ.out.2.1 rfl));refine nza_ ?_;refine two_ (i:=4) (j:=11) (Ni:=some 38) (Nj:=some 5) (bm 13 1023) (bm 13 3055) rfl rfl rfl rfl qq_7 (by decide) (by decide) (fun K hK=>?_) (fun K hK=>?_)
         ·skip
          refine Qht (w1:=?_) (v:=?_) (by rfl) rfl ?_ ?_;rotate_left 2
          ·go_simp
           constructor
           ·rfl
           ·rfl
          refine hK.out _ _ trivial (fun a=>?_);clear hK K;refine nzp_ 38 ?_;refine pz_ (i:=10) (N:=some 44) (bm 13 2047) qq_7 ?_;exact Qhp qq_3 (hJ3_4_8_9 (va_,vb_,p_) _ HQ.out)
         ·skip
          refine Qht (w1:=?_) (v:=?_) (by rfl) rfl ?_ ?_;rotate_left 2
          ·go_simp
           constructor
           ·rfl
           ·rfl
          refine hK.out _ _ trivial (fun a=>?_);clear hK K;refine nzp_ 5 ?_;exact Qhp qq_3 (hJ3_8_9_11 (va_,vb_,_) _ HQ.out.new)
       ·skip
        rintro⟨va_,vb_,p_⟩ wn3411_ HQ_;clear a HQ;have a:True:=trivial;have HQ:=QA HQ_;clear HQ_;refine nza_ ?_;refine one_ (i:=8) (N:=some 42) (bm 13 2559) rfl rfl qq_7 (by decide) (fun K hK=>?_);refine Qhr Tryz.func193 qq_7 rfl #[.pointer (some ⟨g,0,none⟩),.int .i64 v] (by rfl) rfl rfl qq_12 ?_;with_reducible refine(T2.out _ HQ.out.os1).mono ?_
        rintro ee wt_ ⟨vt_,rfl,hR_,hI_,hB_,hK_⟩;refine⟨_,rfl,?_⟩;refine hK.out _ _ trivial (fun a=>?_);clear hK K;refine nzp_ 42 ?_;exact Qhp qq_3 (hJ3_4_8_11 (va_,vt_,p_) _ (HQ.out.take2 hR_ hI_ hB_ hK_))
      ·skip
       rintro⟨va_,vb_,p_⟩ wn348_ HQ_;clear a HQ;have a:True:=trivial;have HQ:=QA HQ_;clear HQ_;have cvb:=Qdz (P:=Tryz.prog) Tryz.underlying52 Tryz.underlying5 Tryz.underlying9 (Kd.own_of_R (HQ.out.2.2.1 rfl));refine nza_ ?_;refine two_ (i:=9) (j:=11) (Ni:=some 43) (Nj:=some 5) (bm 13 1023) (bm 13 2559) rfl rfl rfl rfl qq_7 (by decide) (by decide) (fun K hK=>?_) (fun K hK=>?_)
       ·skip
        refine Qht (w1:=?_) (v:=?_) (by rfl) rfl ?_ ?_;rotate_left 2
        ·go_simp
         constructor
         ·rfl
         ·rfl
        refine hK.out _ _ trivial (fun a=>?_);clear hK K;refine nzp_ 43 ?_;refine pz_ (i:=10) (N:=some 44) (bm 13 2047) qq_7 ?_;exact Qhp qq_3 (hJ3_4_8_9 (va_,vb_,p_) _ HQ.out)
       ·skip
        refine Qht (w1:=?_) (v:=?_) (by rfl) rfl ?_ ?_;rotate_left 2
        ·go_simp
         constructor
         ·rfl
         ·rfl
        refine hK.out _ _ trivial (fun a=>?_);clear hK K;refine nzp_ 5 ?_;exact Qhp qq_3 (hJ3_4_8_11 (va_,vb_,_) _ HQ.out.new)
     ·skip
      rintro⟨va_,vb_,p_⟩ wn38911_ HQ_;clear a HQ;have a:True:=trivial;have HQ:=QA HQ_;clear HQ_;have cva:=Qdz (P:=Tryz.prog) Tryz.underlying52 Tryz.underlying5 Tryz.underlying9 (Kd.own_of_R (HQ.out.2.1 rfl));refine nza_ ?_;refine one_ (i:=4) (N:=some 38) (bm 13 3071) rfl rfl qq_7 (by decide) (fun K hK=>?_);refine Qht (w1:=?_) (v:=?_) (by rfl) rfl ?_ ?_;rotate_left 2
      ·go_simp
       constructor
       ·rfl
       ·rfl
      refine hK.out _ _ trivial (fun a=>?_);clear hK K;refine nzp_ 38 ?_;refine pz_ (i:=10) (N:=some 44) (bm 13 4095) qq_7 ?_;exact Qhp qq_3 (hJ3_4_8_9_11 (va_,vb_,p_) _ HQ.out)
    ·skip
     rintro⟨va_,vb_,p_⟩ wn34811_ HQ_;clear a HQ;have a:True:=trivial;have HQ:=QA HQ_;clear HQ_;have cvb:=Qdz (P:=Tryz.prog) Tryz.underlying52 Tryz.underlying5 Tryz.underlying9 (Kd.own_of_R (HQ.out.2.2.1 rfl));refine nza_ ?_;refine one_ (i:=9) (N:=some 43) (bm 13 3071) rfl rfl qq_7 (by decide) (fun K hK=>?_);refine Qht (w1:=?_) (v:=?_) (by rfl) rfl ?_ ?_;rotate_left 2
     ·go_simp
      constructor
      ·rfl
      ·rfl
     refine hK.out _ _ trivial (fun a=>?_);clear hK K;refine nzp_ 43 ?_;refine pz_ (i:=10) (N:=some 44) (bm 13 4095) qq_7 ?_;exact Qhp qq_3 (hJ3_4_8_9_11 (va_,vb_,p_) _ HQ.out)
   ·skip
    rintro⟨va_,vb_,p_⟩ wn3489_ HQ_;clear a HQ;have a:True:=trivial;have HQ:=QA HQ_;clear HQ_;refine nza_ ?_;refine one_ (i:=11) (N:=some 5) (bm 13 4095) rfl rfl qq_7 (by decide) (fun K hK=>?_);refine Qht (w1:=?_) (v:=?_) (by rfl) rfl ?_ ?_;rotate_left 2
    ·go_simp
     constructor
     ·rfl
     ·rfl
    refine hK.out _ _ trivial (fun a=>?_);clear hK K;refine nzp_ 5 ?_;exact Qhp qq_3 (hJ3_4_8_9_11 (va_,vb_,_) _ HQ.out.new)
  rintro⟨va_,vb_,p_⟩ wn348911_ HQ_;clear a HQ;have a:True:=trivial;have HQ:=QA HQ_;clear HQ_;obtain⟨z0,z1,z2,z3⟩:=Qsh (HQ.out.2.2.2 rfl).1;refine nza_ ?_;refine one_ (i:=12) (N:=none) (bm 13 8191) rfl rfl qq_7 (by decide) (fun K hK=>?_);refine Qhu (w1:=?_) (by rfl) rfl ?_ ?_;rotate_left
  ·go_simp;rfl
  obtain⟨W10,hW10,b10,O10_⟩:=HQ.out.store HLO.out (.string (strOfNums xk)) (.string (strOfNums xv));rw[← hW10];have O10:=QA O10_;have BP:=QA b10;clear hW10 O10_ b10 z0 z1 z2 z3;refine hK.out _ _ trivial (fun a=>?_);clear hK K;refine Qhl qq_7 ?_;go_wp2
  go_meet
  case rel=>exact⟨_,rfl,BP.out,HII.out ▸ O10.out⟩
 case rest =>
  obtain⟨p,hv5,hbp,hO7⟩:=hcut;subst hv5;obtain⟨sk,hsk⟩:∃sk,sk=strOfNums xk:=⟨_,rfl⟩;obtain⟨sv,hsv⟩:∃sv,sv=strOfNums xv:=⟨_,rfl⟩;rw[← hsk,← hsv]at hbp;have HSZ:=QA (show sk.size+sv.size≤1000000000 by rw[hsk,hsv,strOfNums_size,strOfNums_size];exact HXL.out);have HZK:=QA (show sk.size≤1000000000 by have:=HSZ.out;omega);have HZV:=QA (show sv.size≤1000000000 by have:=HSZ.out;omega);have HP:=QA (Qen hbp);have HBP:=QA hbp;have o:=QA hO7;have HSK:=QA (And.intro hsk hsv);clear hbp hO7 hsk hsv
  go_upto_region 9 with fail
  obtain⟨gB,hgB⟩:∃gB,gB=wc.heap.size:=⟨_,rfl⟩;obtain⟨wA,hwA⟩:∃wA,wA=wc.alloc (.cells #[.slice none 0 0] 167):=⟨_,rfl⟩;have HBA:=QA (show Below wc.heap.size wc wA by rw[hwA];exact Qdq (Below.refl _ _) _);have hQ0:Q9 wA wA.drew gB [] false false sk sv (0,0,0,0):=by
   rw[hwA,hgB];exact⟨(IsBuf.new wc wc.heap.size).kept (Qdr (Below.refl _ _)),Bw.below (Qdr (Below.refl _ _)) (Qdq (Below.refl wc.heap.size wc) _).size,(Qdq (Below.refl wc.heap.size wc) _).size,by simp,by simp⟩
  obtain⟨c0,c1,_,_⟩:=Qsh (Qfd HBP.out HBA.out);rw[← hgB]at HP;rw[← hwA,← hgB];have HGB:=QA hgB;have kbk:=fun W=>Qed (P:=Tryz.prog) 9 52 5 Tryz.underlying9 Tryz.underlying52 Tryz.underlying5 sk W
  have kbv:=fun W=>Qed (P:=Tryz.prog) 9 52 5 Tryz.underlying9 Tryz.underlying52 Tryz.underlying5 sv W
  have HQ:=QA hQ0;clear hQ0 hwA hgB;refine Qhg (n:=12) (S:=fun w'=>w'.cell? ⟨p,0,none⟩=some (.string sk)∧w'.cell? ⟨p,1,none⟩=some (.string sv)) (ds:=[]) (bm 12 0) qq_7 rfl rfl ⟨(Qdu (Qdr (Below.refl _ _)) c0),(Qdu (Qdr (Below.refl _ _)) c1)⟩ (fun a=>?_);refine pz_ (i:=0) (N:=some 45) (bm 12 1) qq_7 ?_;refine pz_ (i:=2) (N:=some 47) (bm 12 5) qq_7 ?_;refine pz_ (i:=4) (N:=some 49) (bm 12 21) qq_7 ?_;refine pz_ (i:=8) (N:=some 53) (bm 12 277) qq_7 ?_;refine tz_ (i:=5) (N:=some 50) (bm 12 309) qq_7 a ?_;refine tz_ (i:=9) (N:=some 54) (bm 12 821) qq_7 a ?_;refine Qho (σ:=Nat × Nat × Nat × Nat) 1 (bm 12 2047) (fun s_=>[(46,.pointer (some ⟨gB,0,none⟩)),(48,.pointer (some ⟨gB,0,none⟩)),(51,.slice (some ⟨s_.1,0,none⟩) sk.size s_.2.1),(52,.pointer (some ⟨gB,0,none⟩)),(55,.slice (some ⟨s_.2.2.1,0,none⟩) sv.size s_.2.2.2)]) (fun s_ w'=>(w'.cell? ⟨p,0,none⟩=some (.string sk)∧w'.cell? ⟨p,1,none⟩=some (.string sv))∧Q9 wA w' gB (((([]:List Int)++leb k 4)++leb v 4)++bytesOf sk) true true sk sv s_) ?_ ?_;rotate_left
  ·intro hJ1_3_6_7_10;refine Qho (σ:=Nat × Nat × Nat × Nat) 2 (bm 12 1023) (fun s_=>[(46,.pointer (some ⟨gB,0,none⟩)),(48,.pointer (some ⟨gB,0,none⟩)),(51,.slice (some ⟨s_.1,0,none⟩) sk.size s_.2.1),(52,.pointer (some ⟨gB,0,none⟩))]) (fun s_ w'=>(w'.cell? ⟨p,0,none⟩=some (.string sk)∧w'.cell? ⟨p,1,none⟩=some (.string sv))∧Q9 wA w' gB (((([]:List Int)++leb k 4)++leb v 4)++bytesOf sk) true false sk sv s_) ?_ ?_;rotate_left
   ·intro hJ1_3_6_7;refine Qho (σ:=Nat × Nat × Nat × Nat) 2 (bm 12 1919) (fun s_=>[(46,.pointer (some ⟨gB,0,none⟩)),(48,.pointer (some ⟨gB,0,none⟩)),(51,.slice (some ⟨s_.1,0,none⟩) sk.size s_.2.1),(55,.slice (some ⟨s_.2.2.1,0,none⟩) sv.size s_.2.2.2)]) (fun s_ w'=>(w'.cell? ⟨p,0,none⟩=some (.string sk)∧w'.cell? ⟨p,1,none⟩=some (.string sv))∧Q9 wA w' gB ((([]:List Int)++leb k 4)++leb v 4) true true sk sv s_) ?_ ?_;rotate_left
    ·intro hJ1_3_6_10;refine Qho (σ:=Nat × Nat × Nat × Nat) 3 (bm 12 895) (fun s_=>[(46,.pointer (some ⟨gB,0,none⟩)),(48,.pointer (some ⟨gB,0,none⟩)),(51,.slice (some ⟨s_.1,0,none⟩) sk.size s_.2.1)]) (fun s_ w'=>(w'.cell? ⟨p,0,none⟩=some (.string sk)∧w'.cell? ⟨p,1,none⟩=some (.string sv))∧Q9 wA w' gB ((([]:List Int)++leb k 4)++leb v 4) true false sk sv s_) ?_ ?_;rotate_left
     ·intro hJ1_3_6;refine Qho (σ:=Nat × Nat × Nat × Nat) 3 (bm 12 1855) (fun s_=>[(46,.pointer (some ⟨gB,0,none⟩)),(48,.pointer (some ⟨gB,0,none⟩)),(55,.slice (some ⟨s_.2.2.1,0,none⟩) sv.size s_.2.2.2)]) (fun s_ w'=>(w'.cell? ⟨p,0,none⟩=some (.string sk)∧w'.cell? ⟨p,1,none⟩=some (.string sv))∧Q9 wA w' gB ((([]:List Int)++leb k 4)++leb v 4) false true sk sv s_) ?_ ?_;rotate_left
      ·intro hJ1_3_10;refine Qho (σ:=Nat × Nat × Nat × Nat) 3 (bm 12 1911) (fun s_=>[(46,.pointer (some ⟨gB,0,none⟩)),(51,.slice (some ⟨s_.1,0,none⟩) sk.size s_.2.1),(55,.slice (some ⟨s_.2.2.1,0,none⟩) sv.size s_.2.2.2)]) (fun s_ w'=>(w'.cell? ⟨p,0,none⟩=some (.string sk)∧w'.cell? ⟨p,1,none⟩=some (.string sv))∧Q9 wA w' gB (([]:List Int)++leb k 4) true true sk sv s_) ?_ ?_;rotate_left
       ·intro hJ1_6_10;refine Qho (σ:=Nat × Nat × Nat × Nat) 4 (bm 12 831) (fun s_=>[(46,.pointer (some ⟨gB,0,none⟩)),(48,.pointer (some ⟨gB,0,none⟩))]) (fun s_ w'=>(w'.cell? ⟨p,0,none⟩=some (.string sk)∧w'.cell? ⟨p,1,none⟩=some (.string sv))∧Q9 wA w' gB ((([]:List Int)++leb k 4)++leb v 4) false false sk sv s_) ?_ ?_;rotate_left
        ·intro hJ1_3;refine Qho (σ:=Nat × Nat × Nat × Nat) 4 (bm 12 887) (fun s_=>[(46,.pointer (some ⟨gB,0,none⟩)),(51,.slice (some ⟨s_.1,0,none⟩) sk.size s_.2.1)]) (fun s_ w'=>(w'.cell? ⟨p,0,none⟩=some (.string sk)∧w'.cell? ⟨p,1,none⟩=some (.string sv))∧Q9 wA w' gB (([]:List Int)++leb k 4) true false sk sv s_) ?_ ?_;rotate_left
         ·intro hJ1_6;refine Qho (σ:=Nat × Nat × Nat × Nat) 4 (bm 12 1847) (fun s_=>[(46,.pointer (some ⟨gB,0,none⟩)),(55,.slice (some ⟨s_.2.2.1,0,none⟩) sv.size s_.2.2.2)]) (fun s_ w'=>(w'.cell? ⟨p,0,none⟩=some (.string sk)∧w'.cell? ⟨p,1,none⟩=some (.string sv))∧Q9 wA w' gB (([]:List Int)++leb k 4) false true sk sv s_) ?_ ?_;rotate_left
          ·intro hJ1_10;refine Qho (σ:=Nat × Nat × Nat × Nat) 4 (bm 12 1909) (fun s_=>[(51,.slice (some ⟨s_.1,0,none⟩) sk.size s_.2.1),(55,.slice (some ⟨s_.2.2.1,0,none⟩) sv.size s_.2.2.2)]) (fun s_ w'=>(w'.cell? ⟨p,0,none⟩=some (.string sk)∧w'.cell? ⟨p,1,none⟩=some (.string sv))∧Q9 wA w' gB ([]:List Int) true true sk sv s_) ?_ ?_;rotate_left
           ·intro hJ6_10;refine Qho (σ:=Nat × Nat × Nat × Nat) 5 (bm 12 823) (fun s_=>[(46,.pointer (some ⟨gB,0,none⟩))]) (fun s_ w'=>(w'.cell? ⟨p,0,none⟩=some (.string sk)∧w'.cell? ⟨p,1,none⟩=some (.string sv))∧Q9 wA w' gB (([]:List Int)++leb k 4) false false sk sv s_) ?_ ?_;rotate_left
            ·intro hJ1;refine Qho (σ:=Nat × Nat × Nat × Nat) 5 (bm 12 885) (fun s_=>[(51,.slice (some ⟨s_.1,0,none⟩) sk.size s_.2.1)]) (fun s_ w'=>(w'.cell? ⟨p,0,none⟩=some (.string sk)∧w'.cell? ⟨p,1,none⟩=some (.string sv))∧Q9 wA w' gB ([]:List Int) true false sk sv s_) ?_ ?_;rotate_left
             ·intro hJ6;refine Qho (σ:=Nat × Nat × Nat × Nat) 5 (bm 12 1845) (fun s_=>[(55,.slice (some ⟨s_.2.2.1,0,none⟩) sv.size s_.2.2.2)]) (fun s_ w'=>(w'.cell? ⟨p,0,none⟩=some (.string sk)∧w'.cell? ⟨p,1,none⟩=some (.string sv))∧Q9 wA w' gB ([]:List Int) false true sk sv s_) ?_ ?_;rotate_left
              ·intro hJ10;refine Qhm (i:=1) (j:=6) (k:=10) (Ni:=some 46) (Nj:=some 51) (Nk:=some 55) (bm 12 823) (bm 12 885) (bm 12 1845) rfl rfl rfl rfl rfl rfl qq_7 (by decide) (by decide) (by decide) (fun K hK=>?_) (fun K hK=>?_) (fun K hK=>?_)
               ·skip
                refine Qhr Tryz.func112 qq_7 rfl #[.pointer (some ⟨gB,0,none⟩),.int .u32 k] (by rfl) rfl rfl qq_12 ?_;with_reducible refine(Q9.goFour k HQ.out HKR.out.1 HKR.out.2 HSZ.out (by simp[Qlb])).mono ?_
                rintro ee wt_ ⟨rfl,hI_,hB_,hO_⟩;refine⟨_,rfl,?_⟩;refine hK.out _ _ ⟨(Qsj hB_.1 HP.out a.1),(Qsj hB_.1 HP.out a.2)⟩ (fun a=>?_);clear hK K;refine nzp_ 46 ?_;exact Qhp qq_3 (hJ1 (0,0,0,0) _ ⟨a,HQ.out.step hI_ hB_ hO_⟩)
               ·skip
                refine Qht (w1:=?_) (v:=?_) (by rfl) rfl ?_ ?_;rotate_left 2
                ·go_simp
                 constructor
                 ·rfl
                 ·rfl
                refine hK.out _ _ ⟨(Qdu (Qef (Below.refl _ _) (Nat.le_refl _) 5 sk) a.1),(Qdu (Qef (Below.refl _ _) (Nat.le_refl _) 5 sk) a.2)⟩ (fun a=>?_);clear hK K;refine nzp_ 51 ?_;exact Qhp qq_3 (hJ6 (_,_,0,0) _ ⟨a,HQ.out.new6⟩)
               ·skip
                refine Qht (w1:=?_) (v:=?_) (by rfl) rfl ?_ ?_;rotate_left 2
                ·go_simp
                 constructor
                 ·rfl
                 ·rfl
                refine hK.out _ _ ⟨(Qdu (Qef (Below.refl _ _) (Nat.le_refl _) 5 sv) a.1),(Qdu (Qef (Below.refl _ _) (Nat.le_refl _) 5 sv) a.2)⟩ (fun a=>?_);clear hK K;refine nzp_ 55 ?_;exact Qhp qq_3 (hJ10 (0,0,_,_) _ ⟨a,HQ.out.new10⟩)
              ·skip
               rintro⟨a_,ca_,b_,cb_⟩ wne_ ⟨hH_,HQ_⟩;clear a HQ;have a:=hH_;have HQ:=QA HQ_;clear HQ_ hH_;refine nza_ ?_;refine two_ (i:=1) (j:=6) (Ni:=some 46) (Nj:=some 51) (bm 12 1847) (bm 12 1909) rfl rfl rfl rfl qq_7 (by decide) (by decide) (fun K hK=>?_) (fun K hK=>?_)
               ·skip
                refine Qhr Tryz.func112 qq_7 rfl #[.pointer (some ⟨gB,0,none⟩),.int .u32 k] (by rfl) rfl rfl qq_12 ?_;with_reducible refine(Q9.goFour k HQ.out HKR.out.1 HKR.out.2 HSZ.out (by simp[Qlb])).mono ?_
                rintro ee wt_ ⟨rfl,hI_,hB_,hO_⟩;refine⟨_,rfl,?_⟩;refine hK.out _ _ ⟨(Qsj hB_.1 HP.out a.1),(Qsj hB_.1 HP.out a.2)⟩ (fun a=>?_);clear hK K;refine nzp_ 46 ?_;exact Qhp qq_3 (hJ1_10 (a_,ca_,b_,cb_) _ ⟨a,HQ.out.step hI_ hB_ hO_⟩)
               ·skip
                refine Qht (w1:=?_) (v:=?_) (by rfl) rfl ?_ ?_;rotate_left 2
                ·go_simp
                 constructor
                 ·rfl
                 ·rfl
                refine hK.out _ _ ⟨(Qdu (Qef (Below.refl _ _) (Nat.le_refl _) 5 sk) a.1),(Qdu (Qef (Below.refl _ _) (Nat.le_refl _) 5 sk) a.2)⟩ (fun a=>?_);clear hK K;refine nzp_ 51 ?_;exact Qhp qq_3 (hJ6_10 (_,_,b_,cb_) _ ⟨a,HQ.out.new6⟩)
             ·skip
              rintro⟨a_,ca_,b_,cb_⟩ wnc_ ⟨hH_,HQ_⟩;clear a HQ;have a:=hH_;have HQ:=QA HQ_;clear HQ_ hH_;refine nza_ ?_;refine two_ (i:=1) (j:=10) (Ni:=some 46) (Nj:=some 55) (bm 12 887) (bm 12 1909) rfl rfl rfl rfl qq_7 (by decide) (by decide) (fun K hK=>?_) (fun K hK=>?_)
              ·skip
               refine Qhr Tryz.func112 qq_7 rfl #[.pointer (some ⟨gB,0,none⟩),.int .u32 k] (by rfl) rfl rfl qq_12 ?_;with_reducible refine(Q9.goFour k HQ.out HKR.out.1 HKR.out.2 HSZ.out (by simp[Qlb])).mono ?_
               rintro ee wt_ ⟨rfl,hI_,hB_,hO_⟩;refine⟨_,rfl,?_⟩;refine hK.out _ _ ⟨(Qsj hB_.1 HP.out a.1),(Qsj hB_.1 HP.out a.2)⟩ (fun a=>?_);clear hK K;refine nzp_ 46 ?_;exact Qhp qq_3 (hJ1_6 (a_,ca_,b_,cb_) _ ⟨a,HQ.out.step hI_ hB_ hO_⟩)
              ·skip
               refine Qht (w1:=?_) (v:=?_) (by rfl) rfl ?_ ?_;rotate_left 2
               ·go_simp
                constructor
                ·rfl
                ·rfl
               refine hK.out _ _ ⟨(Qdu (Qef (Below.refl _ _) (Nat.le_refl _) 5 sv) a.1),(Qdu (Qef (Below.refl _ _) (Nat.le_refl _) 5 sv) a.2)⟩ (fun a=>?_);clear hK K;refine nzp_ 55 ?_;exact Qhp qq_3 (hJ6_10 (a_,ca_,_,_) _ ⟨a,HQ.out.new10⟩)
            ·skip
             rintro⟨a_,ca_,b_,cb_⟩ wna_ ⟨hH_,HQ_⟩;clear a HQ;have a:=hH_;have HQ:=QA HQ_;clear HQ_ hH_;refine nza_ ?_;refine Qhm (i:=3) (j:=6) (k:=10) (Ni:=some 48) (Nj:=some 51) (Nk:=some 55) (bm 12 831) (bm 12 887) (bm 12 1847) rfl rfl rfl rfl rfl rfl qq_7 (by decide) (by decide) (by decide) (fun K hK=>?_) (fun K hK=>?_) (fun K hK=>?_)
             ·skip
              refine Qhr Tryz.func112 qq_7 rfl #[.pointer (some ⟨gB,0,none⟩),.int .u32 v] (by rfl) rfl rfl qq_12 ?_;with_reducible refine(Q9.goFour v HQ.out HVR.out.1 HVR.out.2 HSZ.out (by simp[Qlb])).mono ?_
              rintro ee wt_ ⟨rfl,hI_,hB_,hO_⟩;refine⟨_,rfl,?_⟩;refine hK.out _ _ ⟨(Qsj hB_.1 HP.out a.1),(Qsj hB_.1 HP.out a.2)⟩ (fun a=>?_);clear hK K;refine nzp_ 48 ?_;exact Qhp qq_3 (hJ1_3 (a_,ca_,b_,cb_) _ ⟨a,HQ.out.step hI_ hB_ hO_⟩)
             ·skip
              refine Qht (w1:=?_) (v:=?_) (by rfl) rfl ?_ ?_;rotate_left 2
              ·go_simp
               constructor
               ·rfl
               ·rfl
              refine hK.out _ _ ⟨(Qdu (Qef (Below.refl _ _) (Nat.le_refl _) 5 sk) a.1),(Qdu (Qef (Below.refl _ _) (Nat.le_refl _) 5 sk) a.2)⟩ (fun a=>?_);clear hK K;refine nzp_ 51 ?_;exact Qhp qq_3 (hJ1_6 (_,_,b_,cb_) _ ⟨a,HQ.out.new6⟩)
             ·skip
              refine Qht (w1:=?_) (v:=?_) (by rfl) rfl ?_ ?_;rotate_left 2
              ·go_simp
               constructor
               ·rfl
               ·rfl
              refine hK.out _ _ ⟨(Qdu (Qef (Below.refl _ _) (Nat.le_refl _) 5 sv) a.1),(Qdu (Qef (Below.refl _ _) (Nat.le_refl _) 5 sv) a.2)⟩ (fun a=>?_);clear hK K;refine nzp_ 55 ?_;exact Qhp qq_3 (hJ1_10 (a_,ca_,_,_) _ ⟨a,HQ.out.new10⟩)
           ·skip
            rintro⟨a_,ca_,b_,cb_⟩ wnce_ ⟨hH_,HQ_⟩;clear a HQ;have a:=hH_;have HQ:=QA HQ_;clear HQ_ hH_;refine nza_ ?_;refine one_ (i:=1) (N:=some 46) (bm 12 1911) rfl rfl qq_7 (by decide) (fun K hK=>?_);refine Qhr Tryz.func112 qq_7 rfl #[.pointer (some ⟨gB,0,none⟩),.int .u32 k] (by rfl) rfl rfl qq_12 ?_;with_reducible refine(Q9.goFour k HQ.out HKR.out.1 HKR.out.2 HSZ.out (by simp[Qlb])).mono ?_
            rintro ee wt_ ⟨rfl,hI_,hB_,hO_⟩;refine⟨_,rfl,?_⟩;refine hK.out _ _ ⟨(Qsj hB_.1 HP.out a.1),(Qsj hB_.1 HP.out a.2)⟩ (fun a=>?_);clear hK K;refine nzp_ 46 ?_;exact Qhp qq_3 (hJ1_6_10 (a_,ca_,b_,cb_) _ ⟨a,HQ.out.step hI_ hB_ hO_⟩)
          ·skip
           rintro⟨a_,ca_,b_,cb_⟩ wnae_ ⟨hH_,HQ_⟩;clear a HQ;have a:=hH_;have HQ:=QA HQ_;clear HQ_ hH_;refine nza_ ?_;refine two_ (i:=3) (j:=6) (Ni:=some 48) (Nj:=some 51) (bm 12 1855) (bm 12 1911) rfl rfl rfl rfl qq_7 (by decide) (by decide) (fun K hK=>?_) (fun K hK=>?_)
           ·skip
            refine Qhr Tryz.func112 qq_7 rfl #[.pointer (some ⟨gB,0,none⟩),.int .u32 v] (by rfl) rfl rfl qq_12 ?_;with_reducible refine(Q9.goFour v HQ.out HVR.out.1 HVR.out.2 HSZ.out (by simp[Qlb])).mono ?_
            rintro ee wt_ ⟨rfl,hI_,hB_,hO_⟩;refine⟨_,rfl,?_⟩;refine hK.out _ _ ⟨(Qsj hB_.1 HP.out a.1),(Qsj hB_.1 HP.out a.2)⟩ (fun a=>?_);clear hK K;refine nzp_ 48 ?_;exact Qhp qq_3 (hJ1_3_10 (a_,ca_,b_,cb_) _ ⟨a,HQ.out.step hI_ hB_ hO_⟩)
           ·skip
            refine Qht (w1:=?_) (v:=?_) (by rfl) rfl ?_ ?_;rotate_left 2
            ·go_simp
             constructor
             ·rfl
             ·rfl
            refine hK.out _ _ ⟨(Qdu (Qef (Below.refl _ _) (Nat.le_refl _) 5 sk) a.1),(Qdu (Qef (Below.refl _ _) (Nat.le_refl _) 5 sk) a.2)⟩ (fun a=>?_);clear hK K;refine nzp_ 51 ?_;exact Qhp qq_3 (hJ1_6_10 (_,_,b_,cb_) _ ⟨a,HQ.out.new6⟩)
         ·skip
          rintro⟨a_,ca_,b_,cb_⟩ wnac_ ⟨hH_,HQ_⟩;clear a HQ;have a:=hH_;have HQ:=QA HQ_;clear HQ_ hH_;refine nza_ ?_;refine two_ (i:=3) (j:=10) (Ni:=some 48) (Nj:=some 55) (bm 12 895) (bm 12 1911) rfl rfl rfl rfl qq_7 (by decide) (by decide) (fun K hK=>?_) (fun K hK=>?_)
          ·skip
           refine Qhr Tryz.func112 qq_7 rfl #[.pointer (some ⟨gB,0,none⟩),.int .u32 v] (by rfl) rfl rfl qq_12 ?_;with_reducible refine(Q9.goFour v HQ.out HVR.out.1 HVR.out.2 HSZ.out (by simp[Qlb])).mono ?_
           rintro ee wt_ ⟨rfl,hI_,hB_,hO_⟩;refine⟨_,rfl,?_⟩;refine hK.out _ _ ⟨(Qsj hB_.1 HP.out a.1),(Qsj hB_.1 HP.out a.2)⟩ (fun a=>?_);clear hK K;refine nzp_ 48 ?_;exact Qhp qq_3 (hJ1_3_6 (a_,ca_,b_,cb_) _ ⟨a,HQ.out.step hI_ hB_ hO_⟩)
          ·skip
           refine Qht (w1:=?_) (v:=?_) (by rfl) rfl ?_ ?_;rotate_left 2
           ·go_simp
            constructor
            ·rfl
            ·rfl
           refine hK.out _ _ ⟨(Qdu (Qef (Below.refl _ _) (Nat.le_refl _) 5 sv) a.1),(Qdu (Qef (Below.refl _ _) (Nat.le_refl _) 5 sv) a.2)⟩ (fun a=>?_);clear hK K;refine nzp_ 55 ?_;exact Qhp qq_3 (hJ1_6_10 (a_,ca_,_,_) _ ⟨a,HQ.out.new10⟩)
        ·skip
         rintro⟨a_,ca_,b_,cb_⟩ wnab_ ⟨hH_,HQ_⟩;clear a HQ;have a:=hH_;have HQ:=QA HQ_;clear HQ_ hH_;refine nza_ ?_;refine two_ (i:=6) (j:=10) (Ni:=some 51) (Nj:=some 55) (bm 12 895) (bm 12 1855) rfl rfl rfl rfl qq_7 (by decide) (by decide) (fun K hK=>?_) (fun K hK=>?_)
         ·skip
          refine Qht (w1:=?_) (v:=?_) (by rfl) rfl ?_ ?_;rotate_left 2
          ·go_simp
           constructor
           ·rfl
           ·rfl
          refine hK.out _ _ ⟨(Qdu (Qef (Below.refl _ _) (Nat.le_refl _) 5 sk) a.1),(Qdu (Qef (Below.refl _ _) (Nat.le_refl _) 5 sk) a.2)⟩ (fun a=>?_);clear hK K;refine nzp_ 51 ?_;exact Qhp qq_3 (hJ1_3_6 (_,_,b_,cb_) _ ⟨a,HQ.out.new6⟩)
         ·skip
          refine Qht (w1:=?_) (v:=?_) (by rfl) rfl ?_ ?_;rotate_left 2
          ·go_simp
           constructor
           ·rfl
           ·rfl
          refine hK.out _ _ ⟨(Qdu (Qef (Below.refl _ _) (Nat.le_refl _) 5 sv) a.1),(Qdu (Qef (Below.refl _ _) (Nat.le_refl _) 5 sv) a.2)⟩ (fun a=>?_);clear hK K;refine nzp_ 55 ?_;exact Qhp qq_3 (hJ1_3_10 (a_,ca_,_,_) _ ⟨a,HQ.out.new10⟩)
       ·skip
        rintro⟨a_,ca_,b_,cb_⟩ wnace_ ⟨hH_,HQ_⟩;clear a HQ;have a:=hH_;have HQ:=QA HQ_;clear HQ_ hH_;refine nza_ ?_;refine one_ (i:=3) (N:=some 48) (bm 12 1919) rfl rfl qq_7 (by decide) (fun K hK=>?_);refine Qhr Tryz.func112 qq_7 rfl #[.pointer (some ⟨gB,0,none⟩),.int .u32 v] (by rfl) rfl rfl qq_12 ?_;with_reducible refine(Q9.goFour v HQ.out HVR.out.1 HVR.out.2 HSZ.out (by simp[Qlb])).mono ?_
        rintro ee wt_ ⟨rfl,hI_,hB_,hO_⟩;refine⟨_,rfl,?_⟩;refine hK.out _ _ ⟨(Qsj hB_.1 HP.out a.1),(Qsj hB_.1 HP.out a.2)⟩ (fun a=>?_);clear hK K;refine nzp_ 48 ?_;exact Qhp qq_3 (hJ1_3_6_10 (a_,ca_,b_,cb_) _ ⟨a,HQ.out.step hI_ hB_ hO_⟩)
      ·skip
       rintro⟨a_,ca_,b_,cb_⟩ wnabe_ ⟨hH_,HQ_⟩;clear a HQ;have a:=hH_;have HQ:=QA HQ_;clear HQ_ hH_;refine nza_ ?_;refine one_ (i:=6) (N:=some 51) (bm 12 1919) rfl rfl qq_7 (by decide) (fun K hK=>?_);refine Qht (w1:=?_) (v:=?_) (by rfl) rfl ?_ ?_;rotate_left 2
       ·go_simp
        constructor
        ·rfl
        ·rfl
       refine hK.out _ _ ⟨(Qdu (Qef (Below.refl _ _) (Nat.le_refl _) 5 sk) a.1),(Qdu (Qef (Below.refl _ _) (Nat.le_refl _) 5 sk) a.2)⟩ (fun a=>?_);clear hK K;refine nzp_ 51 ?_;exact Qhp qq_3 (hJ1_3_6_10 (_,_,b_,cb_) _ ⟨a,HQ.out.new6⟩)
     ·skip
      rintro⟨a_,ca_,b_,cb_⟩ wnabc_ ⟨hH_,HQ_⟩;clear a HQ;have a:=hH_;have HQ:=QA HQ_;clear HQ_ hH_;refine nza_ ?_;refine two_ (i:=7) (j:=10) (Ni:=some 52) (Nj:=some 55) (bm 12 1023) (bm 12 1919) rfl rfl rfl rfl qq_7 (by decide) (by decide) (fun K hK=>?_) (fun K hK=>?_)
      ·skip
       refine Qhr Tryz.func150 qq_7 rfl #[.pointer (some ⟨gB,0,none⟩),.slice (some ⟨a_,0,none⟩) sk.size ca_] (by rfl) rfl rfl qq_12 ?_;with_reducible refine(Q9.goRaw ca_ HQ.out HQ.out.row6 HZK.out (by simp[Qlb,Qeb]<;>(have:=HSZ.out;omega))).mono ?_
       rintro ee wt_ ⟨rfl,hI_,hB_,hO_⟩;refine⟨_,rfl,?_⟩;refine hK.out _ _ ⟨(Qsj hB_.1 HP.out a.1),(Qsj hB_.1 HP.out a.2)⟩ (fun a=>?_);clear hK K;refine nzp_ 52 ?_;exact Qhp qq_3 (hJ1_3_6_7 (a_,ca_,b_,cb_) _ ⟨a,HQ.out.step hI_ hB_ hO_⟩)
      ·skip
       refine Qht (w1:=?_) (v:=?_) (by rfl) rfl ?_ ?_;rotate_left 2
       ·go_simp
        constructor
        ·rfl
        ·rfl
       refine hK.out _ _ ⟨(Qdu (Qef (Below.refl _ _) (Nat.le_refl _) 5 sv) a.1),(Qdu (Qef (Below.refl _ _) (Nat.le_refl _) 5 sv) a.2)⟩ (fun a=>?_);clear hK K;refine nzp_ 55 ?_;exact Qhp qq_3 (hJ1_3_6_10 (a_,ca_,_,_) _ ⟨a,HQ.out.new10⟩)
    ·skip
     rintro⟨a_,ca_,b_,cb_⟩ wnabce_ ⟨hH_,HQ_⟩;clear a HQ;have a:=hH_;have HQ:=QA HQ_;clear HQ_ hH_;refine nza_ ?_;refine one_ (i:=7) (N:=some 52) (bm 12 2047) rfl rfl qq_7 (by decide) (fun K hK=>?_);refine Qhr Tryz.func150 qq_7 rfl #[.pointer (some ⟨gB,0,none⟩),.slice (some ⟨a_,0,none⟩) sk.size ca_] (by rfl) rfl rfl qq_12 ?_;with_reducible refine(Q9.goRaw ca_ HQ.out HQ.out.row6 HZK.out (by simp[Qlb,Qeb]<;>(have:=HSZ.out;omega))).mono ?_
     rintro ee wt_ ⟨rfl,hI_,hB_,hO_⟩;refine⟨_,rfl,?_⟩;refine hK.out _ _ ⟨(Qsj hB_.1 HP.out a.1),(Qsj hB_.1 HP.out a.2)⟩ (fun a=>?_);clear hK K;refine nzp_ 52 ?_;exact Qhp qq_3 (hJ1_3_6_7_10 (a_,ca_,b_,cb_) _ ⟨a,HQ.out.step hI_ hB_ hO_⟩)
   ·skip
    rintro⟨a_,ca_,b_,cb_⟩ wnabcd_ ⟨hH_,HQ_⟩;clear a HQ;have a:=hH_;have HQ:=QA HQ_;clear HQ_ hH_;refine nza_ ?_;refine one_ (i:=10) (N:=some 55) (bm 12 2047) rfl rfl qq_7 (by decide) (fun K hK=>?_);refine Qht (w1:=?_) (v:=?_) (by rfl) rfl ?_ ?_;rotate_left 2
    ·go_simp
     constructor
     ·rfl
     ·rfl
    refine hK.out _ _ ⟨(Qdu (Qef (Below.refl _ _) (Nat.le_refl _) 5 sv) a.1),(Qdu (Qef (Below.refl _ _) (Nat.le_refl _) 5 sv) a.2)⟩ (fun a=>?_);clear hK K;refine nzp_ 55 ?_;exact Qhp qq_3 (hJ1_3_6_7_10 (a_,ca_,_,_) _ ⟨a,HQ.out.new10⟩)
  rintro⟨a_,ca_,b_,cb_⟩ wnabcde_ ⟨hH_,HQ_⟩;clear a HQ;have a:=hH_;have HQ:=QA HQ_;clear HQ_ hH_;refine nza_ ?_;refine one_ (i:=11) (N:=some 56) (bm 12 4095) rfl rfl qq_7 (by decide) (fun K hK=>?_);refine Qhr Tryz.func150 qq_7 rfl #[.pointer (some ⟨gB,0,none⟩),.slice (some ⟨b_,0,none⟩) sv.size cb_] (by rfl) rfl rfl qq_12 ?_;with_reducible refine(Q9.goRaw cb_ HQ.out HQ.out.row10 HZV.out (by simp[Qlb,Qeb]<;>(have:=HSZ.out;omega))).mono ?_
  rintro ee wt_ ⟨rfl,hI_,hB_,hO_⟩;refine⟨_,rfl,?_⟩;refine hK.out _ _ ⟨(Qsj hB_.1 HP.out a.1),(Qsj hB_.1 HP.out a.2)⟩ (fun a=>?_);clear hK K;refine nzp_ 56 ?_;refine Qhl qq_7 ?_;have hBW:Below wc.heap.size wc wt_:=HBA.out.trans (HGB.out ▸ (HQ.out.2.1.trans hB_).1);have OX:=QA (o.out.below hBW);have BX:=QA (Qfd HBP.out hBW);have IX:=QA hI_;have HYL:=QA (show(([]:List Int)++leb k 4++leb v 4++bytesOf sk++bytesOf sv).length≤140737488355328 by simp[Qlb,Qeb];have:=HSZ.out;omega);obtain⟨ys,hys⟩:∃ys,ys=(([]:List Int)++leb k 4++leb v 4++bytesOf sk++bytesOf sv):=⟨_,rfl⟩;rw[← hys]at IX HYL;have HYS:=QA hys;clear hBW hI_ hB_ hO_ HQ a hys;obtain⟨ok,hok⟩:∃ok,ok=(Qqk 0 ys == x):=⟨_,rfl⟩;have HCK:=QA (show Qdj.f 0 ys x=some ok by unfold Qdj.f Qdk.f;rw[if_pos HYL.out,hok];rfl);have HOK:=QA hok;clear hok
  cases ok with
  | false =>
   go_wp2_with (first
    |(go_at_call 175;have gate:=O12.out;clear gate;refine(Qpl lo g bs ((i:Int)+4+4+k+v+4) 5 (by decide) _ O12.out.1).mono ?_;rintro ee q ⟨rfl,rfl⟩)
    |(go_at_call 194;have gate:=O11.out;clear gate;refine(Qdj.calls 0 m c10 ys x _ _ c.out b HCK.out).mono ?_;rintro ee r ⟨rfl,hb12⟩;have O12:=QA (O11.out.below hb12);have B12:=QA (Qfd B11.out hb12);clear hb12;obtain⟨y0,y1,_,_⟩:=Qsh B12.out;obtain⟨z0,z1,z2,z3⟩:=Qsh O12.out.2.2.2)
    |(go_at_call 180;have gate:=O10.out;clear gate;refine(Qsb lo g bs ((i:Int)+4+4+k+v) x HX.out HB.out l.out.1 hll l.out.2 hlg _ O10.out.2.1 O10.out.1).mono ?_;rintro ee s ⟨rfl,hI11,hB11,hK11⟩;have B11:=QA (O10.out.far B10.out hB11);have O11:=QA (O10.out.cur hI11 hB11);have c:=QA (Kd.R_reads' (hK11 _ _ _ d.out)).2.2;clear hI11 hB11 hK11)
    |(go_at_call 97;refine(Qlo gB gB ys _ IX.out HYL.out).mono ?_;rintro ee u ⟨vb,rfl,hRb,hb10⟩;obtain⟨m,c10,hvb,b,_⟩:=Kd.R_reads hRb;subst hvb;have d:=QA hRb;have O10:=QA (OX.out.below hb10);have B10:=QA (Qfd BX.out hb10);clear hRb hb10))
   have hne:Qqk 0 (leb k 4++leb v 4++bytesOf (strOfNums xk)++bytesOf (strOfNums xv))≠x:=by
    intro h;have h2:=HOK.out;rw[← HSK.out.1,← HSK.out.2]at h;rw[HYS.out,List.nil_append,h,beq_self_eq_true]at h2
    cases h2
   exact⟨rfl,O12.out.end_,.inr ⟨hne,rfl⟩⟩
  | true =>
   go_wp2_with (first
    |(go_at_call 175;have gate:=O12.out;clear gate;refine(Qpl lo g bs ((i:Int)+4+4+k+v+4) 5 (by decide) _ O12.out.1).mono ?_;rintro ee q ⟨rfl,rfl⟩)
    |(go_at_call 194;have gate:=O11.out;clear gate;refine(Qdj.calls 0 m c10 ys x _ _ c.out b HCK.out).mono ?_;rintro ee r ⟨rfl,hb12⟩;have O12:=QA (O11.out.below hb12);have B12:=QA (Qfd B11.out hb12);clear hb12;obtain⟨y0,y1,_,_⟩:=Qsh B12.out;obtain⟨z0,z1,z2,z3⟩:=Qsh O12.out.2.2.2)
    |(go_at_call 180;have gate:=O10.out;clear gate;refine(Qsb lo g bs ((i:Int)+4+4+k+v) x HX.out HB.out l.out.1 hll l.out.2 hlg _ O10.out.2.1 O10.out.1).mono ?_;rintro ee s ⟨rfl,hI11,hB11,hK11⟩;have B11:=QA (O10.out.far B10.out hB11);have O11:=QA (O10.out.cur hI11 hB11);have c:=QA (Kd.R_reads' (hK11 _ _ _ d.out)).2.2;clear hI11 hB11 hK11)
    |(go_at_call 97;refine(Qlo gB gB ys _ IX.out HYL.out).mono ?_;rintro ee u ⟨vb,rfl,hRb,hb10⟩;obtain⟨m,c10,hvb,b,_⟩:=Kd.R_reads hRb;subst hvb;have d:=QA hRb;have O10:=QA (OX.out.below hb10);have B10:=QA (Qfd BX.out hb10);clear hRb hb10))
   have heq:Qqk 0 (leb k 4++leb v 4++bytesOf (strOfNums xk)++bytesOf (strOfNums xv))=x:=by
    have h2:=HOK.out;rw[HYS.out,List.nil_append,HSK.out.1,HSK.out.2]at h2;exact beq_iff_eq.1 h2.symm
   have r1:=Qel (Qel O12.out.2.2.2 0 (.string sk)) 1 (.string sv);refine bodyPost_ret (results_cell_row rfl _ _ w.heap.size 207 #[.string sk,.string sv] (0,0) _ rfl r1 Tryz.underlying207 rfl qq_7) rfl ?_;obtain⟨⟨vv,q1,q2⟩,q3,q4,q5⟩:=O12.out;have hrb:=Qel q5 0 (.string sk);refine⟨⟨⟨vv,Qem (Qem q1 (p:=⟨w.heap.size,0,none⟩) (Qer q1 q5 (by decide)) _) (p:=⟨w.heap.size,1,none⟩) (Qer q1 q5 (by decide)) _,(q2.set q5 (by decide) 0 _).set hrb (by decide) 1 _⟩,⟨Qlc (Qlc q4.1 HLO.out) HLO.out,fun kk cs t g1 g2 g3=>?_⟩⟩,.inl ⟨heq,by rw[HSK.out.1,HSK.out.2]⟩⟩;have hk:=Qen g1;exact Qem (Qem (q4.2 _ _ _ g1 g2 g3) (p:=⟨w.heap.size,0,none⟩) (by show kk≠w.heap.size;omega) _) (p:=⟨w.heap.size,1,none⟩) (by show kk≠w.heap.size;omega) _
abbrev Pr:=S207
def oneL (bs:List Int) (i:Nat):Except (Int × Int) (Pr × Nat) :=
 if bs.length<i+8 then .error (2,(i:Int))else
  let k:=CodecP.leI ((bs.drop i).take 4);let v:=CodecP.leI ((bs.drop (i+4)).take 4)
  if k=0 then .error (4,((i+8:Nat):Int))else if 4096<k∨1048576<v then .error (3,((i+8:Nat):Int))else
   if(bs.length:Int)<((i+8:Nat):Int)+k+v+4 then .error (2,((i+8:Nat):Int))else
    if Qqk 0 (leb k 4++leb v 4++bytesOf (strOfNums ((bs.drop (i+8)).take k.toNat))++bytesOf (strOfNums ((bs.drop (i+8+k.toNat)).take v.toNat)))=CodecP.leI ((bs.drop (i+8+k.toNat+v.toNat)).take 4)then
     .ok (⟨strOfNums ((bs.drop (i+8)).take k.toNat),strOfNums ((bs.drop (i+8+k.toNat)).take v.toNat)⟩,i+8+k.toNat+v.toNat+4)
    else .error (5,((i+8+k.toNat+v.toNat+4:Nat):Int))
def allL(bs:List Int):Nat→Nat→List Pr→List Pr × Int × Int
 | 0,i,acc=>(acc,(i:Int),0)
 | f+1,i,acc=>if i<bs.length then(match oneL bs i with
   | .ok (p,j)=>allL bs f j (acc++[p])
   | .error (er,_)=>(acc,(i:Int),er))else(acc,(i:Int),0)
theorem Qsl(k v:Int):Qao.f k v=some (if k=0 then 4 else if 4096<k then 3 else if 1048576<v then 3 else 0):=by
 unfold Qao.f
 repeat' split
 all_goals first|rfl|omega
theorem Qsm(lo g:Nat)(bs:List Int)(i:Nat)(hb:CodecP.Bytes bs)(hl:bs.length≤100000000)(hi:i≤bs.length)(hlg:lo≤g)(w:World)(hbw:lo≤w.heap.size)(hI:IsCur w lo g bs (i:Int)) :
  Calls Tryz.prog 140 #[.pointer (some ⟨g,0,none⟩)] w fun e w'=>Bw lo g w w'∧(match oneL bs i with
   | .ok (p,j)=>e=.returned (.agg #[.string p.f0,.string p.f1])∧IsCur w' lo g bs (j:Int)∧i<j∧j≤bs.length
   | .error (er,_)=>er≠0∧e=.panicked [Qpj g er]∧∃j:Int,IsCur w' lo g bs j):=by
 unfold oneL
 by_cases h8:bs.length<i+8
 ·rw[if_pos h8];refine(Qse lo g bs i hl hi hlg w hbw hI h8).mono ?_;rintro e w' ⟨rfl,h1,h2⟩;exact⟨h2,by decide,rfl,_,h1⟩
 ·rw [if_neg h8];obtain⟨k,hk⟩:∃k,k=CodecP.leI ((bs.drop i).take 4):=⟨_,rfl⟩;obtain⟨v,hv⟩:∃v,v=CodecP.leI ((bs.drop (i+4)).take 4):=⟨_,rfl⟩;have hkr:=(CodecP.leI_range ((hb.drop i).take 4)).1;have hvr:=(CodecP.leI_range ((hb.drop (i+4)).take 4)).1;rw[← hk]at hkr;rw[← hv]at hvr;dsimp only;rw[← hk,← hv];have hL:=Qsl k v
  by_cases h0:k=0
  ·rw[if_pos h0]at hL ⊢;refine(Qsf lo g bs i hb hl hlg w hbw hI (by omega) k v 4 hk hv hL (by decide)).mono ?_;rintro e w' ⟨rfl,h1,h2⟩;exact⟨h2,by decide,rfl,_,h1⟩
  ·rw [if_neg h0]at hL ⊢
   by_cases hbig:4096<k∨1048576<v
   ·rw[if_pos hbig];refine(Qsf lo g bs i hb hl hlg w hbw hI (by omega) k v 3 hk hv (by rw[hL];(repeat' split)<;>first|rfl|omega) (by decide)).mono ?_;rintro e w' ⟨rfl,h1,h2⟩;exact⟨h2,by decide,rfl,_,h1⟩
   ·rw[if_neg hbig];rw[if_neg (by omega),if_neg (by omega)]at hL
    by_cases hsh:(bs.length:Int)<((i+8:Nat):Int)+k+v+4
    ·rw[if_pos hsh];refine(Qsg lo g bs i hb hl hlg w hbw hI (by omega) k v hk hv hL (by omega)).mono ?_;rintro e w' ⟨rfl,h1,h2⟩;exact⟨h2,by decide,rfl,_,h1⟩
    ·rw[if_neg hsh];have t1:((i:Int)+4+4).toNat=i+8:=by omega
     have t2:((i:Int)+4+4+k).toNat=i+8+k.toNat:=by omega
     have t3:((i:Int)+4+4+k+v).toNat=i+8+k.toNat+v.toNat:=by omega
     have hm:=Qsk lo g bs i hb hl hlg w hbw hI (by omega) k v hk hv hL (by omega) (CodecP.leI ((bs.drop (i+8+k.toNat+v.toNat)).take 4)) (by rw[t3]) ((bs.drop (i+8)).take k.toNat) ((bs.drop (i+8+k.toNat)).take v.toNat) (by rw[t1]) (by rw[t2]);refine hm.mono ?_;rintro e w' ⟨⟨h1,h2⟩,⟨h3,rfl⟩ |⟨h3,rfl⟩⟩
     ·rw[if_pos h3];refine⟨h2,rfl,?_,by omega,by omega⟩;rw[show((i+8+k.toNat+v.toNat+4:Nat):Int)=(i:Int)+4+4+k+v+4 by omega];exact h1
     ·rw[if_neg h3];exact⟨h2,by decide,rfl,_,h1⟩
def Qan.f(l0:List Int):Option (List Pr × Int × Int):=if l0.all (fun x=>decide (0≤x∧x<256))=true∧l0.length≤100000000 then some (allL l0 (l0.length+1) 0 [])else none
theorem bytes_all{l:List Int}:l.all (fun x=>decide (0≤x∧x<256))=true↔CodecP.Bytes l:=by
 rw[List.all_eq_true];exact⟨fun h x hx=>by simpa using h x hx,fun h x hx=>by simpa using h x hx⟩
def RP(W:World)(b:Nat)(v:Value)(xs:List Pr):Prop:=(k207).R 207 W b (fun _=>True) v xs
theorem RP.cur{W W':World}{b g b':Nat}{v:Value}{xs:List Pr}{bs:List Int}{i:Int}(h:RP W b' v xs)(hI:IsCur W b g bs i)(hT:Bw b g W W'):RP W' b' v xs:=by
 obtain⟨u,hu,_⟩:=hI;refine Kd.R_mono (Kd.R_step (Kd.R_bound h) (fun k hk _=>?_)) (fun _ _=>trivial);obtain⟨q,hq,cells,hc⟩:=hk.2.2.2;have ht:∀q,q∈207 :: (k207).E→q=207:=by decide
 obtain rfl:=ht q hq;rw[hc];exact hT.2 k cells _ hc (by decide) (Qer hc hu (by decide))
theorem RP.ty{W W':World}{b':Nat}{v:Value}{xs:List Pr}(h:RP W b' v xs)(hT:Ty W W'):RP W' b' v xs:=by
 refine Kd.R_mono (Kd.R_step (Kd.R_bound h) (fun k hk _=>?_)) (fun _ _=>trivial);obtain⟨q,hq,cells,hc⟩:=hk.2.2.2;have ht:∀q,q∈207 :: (k207).E→q=207:=by decide
 obtain rfl:=ht q hq;rw[hc];exact hT k cells _ hc (by decide) (by decide) (by decide)
structure GS (w W:World) (lo g lb:Nat) (bs:List Int) (i n:Int) (acc:List Pr) (v:Value):Prop where
  cur:IsCur W lo g bs i
  low:Below lb w W
  tl:Tl lo g w W
  l:W.heap[lb]? = some (.cells #[v] 149 (0,0))
  rows:RP W w.heap.size v acc
  n:W.heap[lb+1]? = some (.cells #[.int .i64 n] 3 (0,0))
  lt:lb+1<lo
  size:lo≤w.heap.size
section
variable {w W W':World} {lo g lb:Nat} {bs:List Int} {i j n:Int} {acc:List Pr} {v:Value}
theorem GS.grow(h:GS w W lo g lb bs i n acc v):w.heap.size≤W.heap.size:=h.low.size
theorem GS.go(h:GS w W lo g lb bs i n acc v)(hI:IsCur W' lo g bs j)(hB:Bw lo g W W'):GS w W' lo g lb bs j n acc v :=
 ⟨hI,h.low.trans (Qld hB.1 (by have:=h.lt;omega)),fun k cs t h1 h2 h3 h4=>hB.2 _ _ _ (h.tl k cs t h1 h2 h3 h4) h3 h4,
  (hB.1.block lb (by have:=h.lt;omega)).trans h.l,h.rows.cur h.cur hB,(hB.1.block (lb+1) h.lt).trans h.n,h.lt,h.size⟩
theorem GS.below(h:GS w W lo g lb bs i n acc v)(hb:Below W.heap.size W W'):GS w W' lo g lb bs i n acc v :=
 h.go (h.cur.kept hb) (Bw.below hb (Nat.le_trans h.size h.grow))
theorem GS.app{w1:World}{v1:Value}{acc1:List Pr}(h:GS w W lo g lb bs i n acc v)(hR:RP w1 w.heap.size v1 acc1)(hb:Below w.heap.size W w1)(hg:W.grownBy w1 v.ownBlock)(hlg:lo≤g) :
  w1.heap[lb]? = some (.cells #[v] 149 (0,0))∧GS w (w1.setCell ⟨lb,0,none⟩ v1) lo g lb bs i n acc1 v1:=by
 have hlt:=h.lt;have hlb:w1.heap[lb]? = some (.cells #[v] 149 (0,0)):=(hb.block lb (by have:=h.size;omega)).trans h.l;have hn:=(hb.block (lb+1) (by have:=h.size;omega)).trans h.n;obtain⟨u,hu,hur⟩:=h.cur.grown h.rows ⟨by decide,by decide⟩ hg;refine⟨hlb,⟨u,Qem hu (p:=⟨lb,0,none⟩) (Qer hu hlb (by decide)) _,hur.set hlb (by decide) 0 _⟩,?_,?_,Qel hlb 0 _,Kd.R_set hR hlb (by decide) 0 _,Qem hn (p:=⟨lb,0,none⟩) (show lb+1≠lb by omega) _,hlt,h.size⟩
 ·exact Qlc (h.low.trans (Qld hb (by have:=h.size;omega))) (Nat.le_refl _)
 ·intro k cs t h1 h2 h3 h4;exact Qem ((hb.block k (Qen h2)).trans (h.tl k cs t h1 h2 h3 h4)) (p:=⟨lb,0,none⟩) (show k≠lb by omega) _
theorem GS.num(h:GS w W lo g lb bs i n acc v)(hlg:lo≤g)(m:Int):GS w (W.setCell ⟨lb+1,0,none⟩ (.int .i64 m)) lo g lb bs i m acc v:=by
 have hlt:=h.lt;obtain⟨u,hu,hur⟩:=h.cur;refine⟨⟨u,Qem hu (p:=⟨lb+1,0,none⟩) (Qer hu h.n (by decide)) _,hur.set h.n (by decide) 0 _⟩,Qlc h.low (Nat.le_succ _),?_,Qem h.l (p:=⟨lb+1,0,none⟩) (show lb≠lb+1 by omega) _,Kd.R_set h.rows h.n (by decide) 0 _,Qel h.n 0 _,hlt,h.size⟩;intro k cs t h1 h2 h3 h4;exact Qem (h.tl k cs t h1 h2 h3 h4) (p:=⟨lb+1,0,none⟩) (show k≠lb+1 by omega) _
end
def posOf(W:World)(g:Nat):Nat:=match W.cell? ⟨g,1,none⟩with
 | some (.int _ i)=>i.toNat
 | _=>0
theorem Qsn{W:World}{b g:Nat}{bs:List Int}{i:Nat}(h:IsCur W b g bs (i:Int)):posOf W g=i:=by
 obtain⟨A,c,h0,h1,_⟩:=h.cells;unfold posOf;rw[h1];exact Int.toNat_natCast i
theorem Qso:(Tryz.prog.info? 207).map (fun i=>(i.zero,i.size,i.bytes))=some (some (.agg #[.string (⟨#[]⟩:ByteArray),.string (⟨#[]⟩:ByteArray)]),2,32):=by kernel_rfl
theorem goesP_{P:Program}{ops:Array Oper}{Q:Exit→Act→World→Prop}{oi:Oper}{N:Option Tmp}{a:Act}{w:World}{K:Act→World→Prop}{f:FuncId}{fn:Func}{as_:Array Operand}{ts:Array TypeId}(hf:P.funcs[f]? = some fn)(hname:(fn.name == "runtime.NumGoroutine")=false)(hb:fn.body.isSome=true)(args:Array Value)
  (hw:Region.wanted oi (yielded ops a.tmps)=true) (hop:oi.op=.call { callee:=.value (.func f),args:=as_,argTypes:=ts }) (hargs:as_.map a.eval=args)
  (h:Calls P f args w fun e w'=>∃ch,e=.panicked ch∧Q (.panic ch) a w'):if Region.wanted oi (yielded ops a.tmps)=true then Oper.wp P oi a w K Q else K (a.put N undef) w:=by
 have he:=Qhq hf hname hb args w;have hrun:(execOp a.eval oi).run P w=.ok (.enter f args) w:=by
  unfold execOp;simp[hop,resolve,Deferred.ofValue,invoke,Act.eval,hargs,he]
 rw[if_pos hw];unfold Oper.wp;rw[hrun,Oper.upon_enter];refine h.mono fun e w'' hh=>?_
 obtain⟨ch,rfl,hk⟩:=hh;exact hk
theorem Qsp(lo g lb:Nat)(bs:List Int)(hb:CodecP.Bytes bs)(hl:bs.length≤100000000)(hlg:lo≤g)(w:World)(hS:GS w w lo g lb bs 0 0 [] (.slice none 0 0)) :
  Calls Tryz.prog 138 #[.pointer (some ⟨g,0,none⟩),.pointer (some ⟨lb,0,none⟩),.pointer (some ⟨lb+1,0,none⟩)] w fun e w' =>
   ∃i v,GS w w' lo g lb bs i (allL bs (bs.length+1) 0 []).2.1 (allL bs (bs.length+1) 0 []).1 v ∧
    ((e=.returned (.tuple #[])∧(allL bs (bs.length+1) 0 []).2.2=0)∨(e=.panicked [Qpj g (allL bs (bs.length+1) 0 []).2.2]∧(allL bs (bs.length+1) 0 []).2.2≠0)):=by
 obtain⟨R,hR⟩:∃R,R=allL bs (bs.length+1) 0 []:=⟨_,rfl⟩;rw[← hR];have HR:=QA hR;have HS:=QA hS;have HB:=QA hb;have HL:=QA hl;have hl2:bs.length≤140737488355328:=by omega
 clear hR hS hb hl
 go_enter Tryz.func138,Tryz.ntmps138
 go_wp2_with fail
 go_loopw [13] (fun h wr=>∃(i f:Nat) (acc:List Pr) (v:Value),Aside0 (i≤bs.length∧bs.length<i+f∧acc.length≤i)∧Aside0 (R=allL bs f i acc)∧Aside0 (GS w wr lo g lb bs (i:Int) (i:Int) acc v))
  (fun _ wr=>bs.length-posOf wr g)
 case atStart=>exact⟨0,bs.length+1,[],_,⟨by simp⟩,HR,HS⟩
 case round =>
  obtain⟨i,f,acc,v,HI,HA,HG⟩:=hrel;clear HS;obtain⟨A,c,hv⟩:=Kd.R_slice HG.out.rows;subst hv
  by_cases hlt:i<bs.length
  ·have hgt:decide ((bs.length:Int)-(i:Int) > 0)=true:=decide_eq_true (by omega);have ha:=HA.out;obtain⟨f',hf'⟩:∃f',f=f'+1:=⟨f-1,by have:=HI.out;omega⟩;subst hf';unfold allL at ha;rw[if_pos hlt]at ha;have hcl:=HG.out.l;have hcn:=HG.out.n;have x0:wr.cell? ⟨lb,0,none⟩=some (.slice A acc.length c):=(Qeo hcl 0).trans rfl
   cases h1:oneL bs i with
   | error q =>
    obtain⟨er,pl⟩:=q;rw[h1]at ha;dsimp only at ha;have HA2:=QA ha;have H1:=QA h1;clear ha h1 HA hcl hcn
    go_upto_region 1 with(go_at_call 139;refine(Qpq lo g bs i (by have:=HI.out.1;omega) hl2 _ HG.out.cur).mono ?_;rintro ee w1 ⟨rfl,hb1⟩;have HG1:=QA ((HG.out.below hb1).below (Qdr (Below.refl _ _)));have x1:w1.drew.cell? ⟨lb,0,none⟩=some (.slice A acc.length c):=(Qeo HG1.out.l 0).trans rfl;clear hb1)
    refine Qhg (n:=6) (S:=fun w'=>w'.cell? ⟨lb,0,none⟩=some (.slice A acc.length c)) (ds:=[]) (bm 6 0) qq_7 rfl rfl x1 (fun b=>?_);refine pz_ (i:=1) (N:=some 8) (bm 6 2) qq_7 ?_;refine tz_ (i:=0) (N:=some 7) (bm 6 3) qq_7 b ?_;refine one_ (i:=2) (N:=some 9) (bm 6 7) rfl rfl qq_7 (by decide) (fun K hK=>?_);refine goesP_ Tryz.func140 qq_7 rfl #[.pointer (some ⟨g,0,none⟩)] (by rfl) rfl qq_12 ?_;refine(Qsm lo g bs i HB.out HL.out HI.out.1 hlg _ (Nat.le_trans HG1.out.size HG1.out.grow) HG1.out.cur).mono ?_;rw[H1.out];rintro ee w2 ⟨hB2,hne,rfl,j,hI2⟩;have HG2:=QA (HG1.out.go hI2 hB2);refine⟨_,rfl,?_⟩;exact⟨rfl,(show ∃(i':Int) (v':Value),GS w w2 lo g lb bs i' R.2.1 R.1 v'∧((Ending.panicked [Qpj g er]=Ending.returned (.tuple #[])∧R.2.2=0)∨(Ending.panicked [Qpj g er]=Ending.panicked [Qpj g R.2.2]∧R.2.2≠0)) from⟨j,.slice A acc.length c,by rw[HA2.out];exact HG2.out,.inr ⟨by rw[HA2.out],by rw[HA2.out];exact hne⟩⟩)⟩
   | ok q =>
    obtain⟨p,j⟩:=q;rw[h1]at ha;dsimp only at ha;have HA2:=QA ha;have H1:=QA h1;clear ha h1 HA hcl hcn
    go_upto_region 1 with(go_at_call 139;refine(Qpq lo g bs i (by have:=HI.out.1;omega) hl2 _ HG.out.cur).mono ?_;rintro ee w1 ⟨rfl,hb1⟩;have HG1:=QA ((HG.out.below hb1).below (Qdr (Below.refl _ _)));have x1:w1.drew.cell? ⟨lb,0,none⟩=some (.slice A acc.length c):=(Qeo HG1.out.l 0).trans rfl;clear hb1)
    go_region_law (first
     |(go_simp;go_at_call 140;refine(Qsm lo g bs i HB.out HL.out HI.out.1 hlg _ (Nat.le_trans HG1.out.size HG1.out.grow) HG1.out.cur).mono ?_;rw[H1.out];rintro ee w2 ⟨hB2,rfl,hI2,hij,hjl⟩;have HG2:=QA (HG1.out.go hI2 hB2);have HJ2:=QA (And.intro hij hjl);have x2:w2.cell? ⟨lb,0,none⟩=some (.slice A acc.length c):=(Qeo HG2.out.l 0).trans rfl;have x5:(w2.alloc (.cells #[.string p.f0,.string p.f1] 207)).cell? ⟨lb,0,none⟩=some (.slice A acc.length c):=Qdu (Qdq (Below.refl w2.heap.size _) _) x2;clear hB2 hI2 hij hjl)
     |(refine Kd.R_append_step k207 (w0:=w2) w.heap.size (by rfl) (.tmp 7) (.tmp 10) 149 207 (.agg #[.string (⟨#[]⟩:ByteArray),.string (⟨#[]⟩:ByteArray)]) 32 rfl Tryz.underlying149 Qso rfl (by decide) (by omega) (.slice A acc.length c) acc p [.string p.f0,.string p.f1] (fun _=>True) (fun _=>False) rfl ?ax ?aP (fun _ hk=>hk.elim) (fun _ _=>trivial) ?aO (Below.refl _ _) ?aS ?aL ?_;(case ax=>rfl);(case aP=>exact Qkw _ _ _ p);(case aO=>exact HG2.out.rows);(case aS=>exact HG2.out.grow);(case aL=>have:=HI.out;have:=HL.out;omega);intro v3 w3 a hb3 d hat3;obtain⟨A3,c3,hv3⟩:=Kd.R_slice a;subst hv3;have HP3:=HG2.out.app a hb3 d hlg;rw[show(acc++[p]).length=acc.length+1 from List.length_append]at HP3;have x3:w3.frozen? ⟨lb,0,none⟩=false:=Qep HP3.1 0;have x4:w3.cell? ⟨lb,0,none⟩=some (.slice A acc.length c):=(Qeo HP3.1 0).trans rfl;have HG3:=QA HP3.2;clear a hb3 d hat3 HP3))
    all_goals
     obtain⟨W4,hW4⟩:∃W4,W4=w3.setCell ⟨lb,0,none⟩ (.slice A3 (acc.length+1) c3):=⟨_,rfl⟩;rw[← hW4]at HG3;show Exit.then _ _ Exit.normal _ (w3.setCell ⟨lb,0,none⟩ (.slice A3 (acc.length+1) c3));rw[← hW4];clear hW4 x2 x3 x4 x5
     go_wp2_with (go_at_call 141;refine(cur_At lo g bs (j:Int) _ HG3.out.cur).mono ?_;rintro ee w5 ⟨rfl,hb5⟩;have HG5:=QA (HG3.out.below hb5);have y1:w5.cell? ⟨lb+1,0,none⟩=some (.int .i64 (i:Int)):=(Qeo HG5.out.n 0).trans rfl;have y2:w5.frozen? ⟨lb+1,0,none⟩=false:=Qep HG5.out.n 0;clear hb5)
     go_roundw
     case rel=>exact⟨j,f',acc++[p],_,⟨by have:=HJ2.out;have:=HI.out;rw[List.length_append];simp only[List.length_singleton];omega⟩,HA2,⟨HG5.out.num hlg _⟩⟩
     case measure =>
      rw[Qsn (HG5.out.num hlg (j:Int)).cur,Qsn HG.out.cur];have:=HJ2.out;omega
  ·have hgt:decide ((bs.length:Int)-(i:Int) > 0)=false:=decide_eq_false (by omega);have ha:=HA.out;obtain⟨f',hf'⟩:∃f',f=f'+1:=⟨f-1,by have:=HI.out;omega⟩;subst hf';unfold allL at ha;rw[if_neg hlt]at ha;have HA2:=QA ha;clear ha HA
   go_wp2_with (go_at_call 139;refine(Qpq lo g bs i (by have:=HI.out.1;omega) hl2 _ HG.out.cur).mono ?_;rintro ee w1 ⟨rfl,hb1⟩;have HG1:=QA (HG.out.below hb1);clear hb1)
   go_end0
   rw[HA2.out];exact⟨_,_,HG1.out,.inl ⟨rfl,rfl⟩⟩
theorem Qsq(as_:Array Value)(W:World):(callFunc 138 as_).run Tryz.prog W=.ok (.enter 138 as_) W:=by
 simp[callFunc,Tryz.func138,Tryz.f138]
def Qsr(l0:List Int)(lb:Nat)(w:World)(er:Int)(w':World):Prop :=
 Below lb w w'∧er=(allL l0 (l0.length+1) 0 []).2.2∧∃v,w'.heap[lb]? = some (.cells #[v] 149 (0,0))∧RP w' lb v (allL l0 (l0.length+1) 0 []).1∧w'.heap[lb+1]? = some (.cells #[.int .i64 (allL l0 (l0.length+1) 0 []).2.1] 3 (0,0))
theorem Qss(A0:Option Addr)(c0:Nat)(l0:List Int)(lb:Nat)(w:World)(hb:CodecP.Bytes l0)(hl:l0.length≤100000000)(hr0:Kd.C (Kd.int .u8) w A0 l0.length l0)
  (hkl:w.heap[lb]? = some (.cells #[.slice none 0 0] 149 (0,0))) (hkn:w.heap[lb+1]? = some (.cells #[.int .i64 0] 3 (0,0))) :
  Calls Tryz.prog 137 #[.slice A0 l0.length c0,.func (.func 138) #[] #[.pointer (some ⟨lb,0,none⟩),.pointer (some ⟨lb+1,0,none⟩)]] w fun e w'=>∃er i,e=.returned (.tuple #[.int .i64 i,.int .i64 er])∧Qsr l0 lb w er w':=by
 have hlt:=Qen hkn;refine Qpx 138 #[.pointer (some ⟨lb,0,none⟩),.pointer (some ⟨lb+1,0,none⟩)] A0 c0 l0 w hr0 (by omega) Qsq (fun er _ W'=>Qsr l0 lb w er W') ?_ ?_
 ·rintro er i W W' ⟨h1,h2,v,h3,h4,h5⟩ hB hT;exact⟨h1.trans (Qld hB (by omega)),h2,v,(hB.block lb (by omega)).trans h3,h4.ty hT,(hB.block (lb+1) hlt).trans h5⟩
 ·intro W g hg hB hI;have hS:GS W W w.heap.size g lb l0 0 0 [] (.slice none 0 0):=⟨hI,Below.refl _ _,fun k cs t _ h _ _=>h,(hB.block lb (by omega)).trans hkl,Kd.R_nil _ _ _ _ _,(hB.block (lb+1) hlt).trans hkn,hlt,hB.size⟩;refine(Qsp w.heap.size g lb l0 hb hl hg W hS).mono ?_;rintro e W' ⟨i,v,hG,h⟩;have hP:Qsr l0 lb w (allL l0 (l0.length+1) 0 []).2.2 W':=⟨(Qld hB (by omega)).trans hG.low,rfl,v,hG.l,Kd.R_lower hG.rows (by have:=hB.size;omega),hG.n⟩;refine⟨i,hG.cur,hG.tl,?_⟩
  rcases h with⟨h1,h2⟩ |⟨h1,h2⟩
  ·rw[h2]at hP;exact .inl ⟨h1,hP⟩
  ·exact .inr ⟨_,h1,hP⟩
theorem Qst(tmps:Array Value)(W:World)(lb:Nat)(v:Value)(n er:Int)(h2:tmps[2]? = some (.pointer (some ⟨lb,0,none⟩)))(h3:tmps[3]? = some (.pointer (some ⟨lb+1,0,none⟩)))(h4:tmps[4]? = some (.int .i64 er))
  (c2:W.heap[lb]? = some (.cells #[v] 149 (0,0))) (c3:W.heap[lb+1]? = some (.cells #[.int .i64 n] 3 (0,0))) :
  (results Tryz.f86 tmps).run Tryz.prog W=.ok (.tuple #[v,.int .i64 n,.int .i64 er]) W:=by
 have hr:Tryz.f86.results=#[.cell 2 149,.cell 3 3,.tmp 4]:=rfl;have d2:W.cell? ⟨lb,0,none⟩=some v:=(Qeo c2 0).trans rfl;have d3:W.cell? ⟨lb+1,0,none⟩=some (.int .i64 n):=(Qeo c3 0).trans rfl;simp[results,hr,h2,h3,h4,go_sem,loadVar,d2,d3,c2,c3]
theorem Qan.calls(A0:Option Addr)(c0:Nat)(l0:List Int)(r1:List Pr)(r2 r3:Int)(w:World)(hr0:Kd.C (Kd.int .u8) w A0 l0.length l0)(hc0:l0.length≤c0)(h:Qan.f l0=some (r1,r2,r3)) :
  Calls Tryz.prog 86 #[.slice A0 l0.length c0] w fun e w'=>∃a:Value,e=.returned (.tuple #[a,.int .i64 r2,.int .i64 r3])∧Kd.R k207 207 w' w.heap.size (fun _=>True) a r1∧Below w.heap.size w w':=by
 unfold Qan.f at h
 by_cases hg:l0.all (fun x=>decide (0≤x∧x<256))=true∧l0.length≤100000000
 ·rw[if_pos hg,Option.some.injEq]at h;obtain⟨z0,hz0⟩:∃z:Obj,z=.cells #[.slice none 0 0] 149 (0,0):=⟨_,rfl⟩;obtain⟨z1,hz1⟩:∃z:Obj,z=.cells #[.int .i64 0] 3 (0,0):=⟨_,rfl⟩;have b0:Below w.heap.size w ((w.alloc z0).alloc z1):=Qdq (Qdq (Below.refl _ _) _) _;have k0:=Qfa (Qfe w z0) z1;have k1:=Qfe (w.alloc z0) z1;rw[World.size_alloc]at k1;subst hz0 hz1;have hC:=Qss A0 c0 l0 w.heap.size _ (bytes_all.1 hg.1) hg.2 (Kd.C_below hr0 b0) k0 k1;unfold Qsr at hC;rw[h]at hC;have RUN:=QA hC;have B0:=QA b0;have hmf:∀(fn:Fn) (first cap:Array Value) (w:World),(Instr.makeFunc fn first cap).run Tryz.prog w=.ok (.func fn first cap) w:=fun _ _ _ _=>rfl
  clear hg hr0 b0 k0 k1 hC h
  go_enter Tryz.func86,Tryz.ntmps86
  go_upto_region 2 with(go_at_call 137;refine RUN.out.mono ?_;rintro ee w3 ⟨er,i,rfl,hb3,rfl,v,hk0,hR,hk1⟩)
  have b:=QA (B0.out.trans hb3);have c:=QA hR;have HK0:=QA hk0;have HK1:=QA hk1;have m0:=Qel (w:=w3.drew) hk0 0 v;have m1:=Qem (w:=w3.drew) hk1 (p:=⟨w.heap.size,0,none⟩) (show w.heap.size+1≠w.heap.size by omega) v;have n0:=Qem m0 (p:=⟨w.heap.size+1,0,none⟩) (show w.heap.size≠w.heap.size+1 by omega) (.int .i64 r2);have n1:=Qel m1 0 (.int .i64 r2);have x0:w3.drew.cell? ⟨w.heap.size,0,none⟩=some v:=(Qeo hk0 0).trans rfl;have x1:w3.drew.cell? ⟨w.heap.size+1,0,none⟩=some (.int .i64 r2):=(Qeo hk1 0).trans rfl;have x2:w3.drew.frozen? ⟨w.heap.size,0,none⟩=false:=Qep (w:=w3.drew) hk0 0;have x3:(w3.drew.setCell ⟨w.heap.size,0,none⟩ v).cell? ⟨w.heap.size+1,0,none⟩=some (.int .i64 r2):=(Qeo m1 0).trans rfl;have x4:(w3.drew.setCell ⟨w.heap.size,0,none⟩ v).frozen? ⟨w.heap.size+1,0,none⟩=false:=Qep m1 0;have x5:w3.cell? ⟨w.heap.size,0,none⟩=some v:=x0;have x6:w3.cell? ⟨w.heap.size+1,0,none⟩=some (.int .i64 r2):=x1;have x7:w3.frozen? ⟨w.heap.size,0,none⟩=false:=x2;have x8:w3.frozen? ⟨w.heap.size+1,0,none⟩=false:=Qep hk1 0;obtain⟨A3,c3,hv3⟩:=Kd.R_slice hR;subst hv3;have HN0:=QA n0;have HN1:=QA n1;clear hk0 hk1 hR m0 m1 n0 n1
  go_region
  all_goals
   go_wp2;refine bodyPost_ret (Qst _ _ w.heap.size _ r2 _ rfl rfl rfl HN0.out HN1.out) rfl ?_;refine⟨_,rfl,?_,Qlc (Qlc (b.out.trans (Qld (Qdr (Below.refl _ _)) b.out.size)) (Nat.le_refl _)) (Nat.le_succ _)⟩;exact Kd.R_set (Kd.R_set (w:=w3.drew) c.out HK0.out (by decide) 0 _) (Qem (w:=w3.drew) HK1.out (p:=⟨w.heap.size,0,none⟩) (show w.heap.size+1≠w.heap.size by omega) _) (by decide) 0 _
 ·rw[if_neg hg]at h;cases h
section
variable {w W W':World} {rb lo g:Nat} {bs:List Int} {i j q:Int} {d:Bool} {a b:ByteArray}
end
end Go.Proofs.YtnnofopfbeklbaaGreat.C
end
section
namespace Go.Proofs.YtnnofopfbeklbaaGreat.C
open Go.RowKit Go.Proofs.YtnnofopfbeklbaaGreatW.PrintWords Go.Proofs.YtnnofopfbeklbaaGreatW.PrintLast Go.Proofs.YtnnofopfbeklbaaGreatW.PrintMore
open Go.Sort
attribute [local go_sem high] eqA117
def encE(x:Ent):List Value:=[.int .u64 x.f0,.int .u32 x.f1]
def Qsu(l:List Ent):List Value:=l.flatMap encE
abbrev RE(W:World)(b:Nat)(v:Value)(l:List Ent):Prop:=Kd.R k117 117 W b (fun _=>True) v l
theorem Qsv(l:List Ent):(Qsu l).length=l.length*2:=by
 induction l with
 | nil=>rfl
 | cons a l ih=>simp only[Qsu,List.flatMap_cons,List.length_append,encE,List.length_cons,List.length_nil]at ih ⊢;omega
theorem Qsw:∀(l:List Ent) (j:Nat) (h:j<l.length),((Qsu l).drop (j*2)).take 2=encE l[j]
 | a :: l,0,_=>rfl
 | a :: l,j+1,h=>by
  have:=Qsw l j (by simpa using h);rw[show(j+1)*2=j*2+2 by omega];exact this
theorem Qsx(l:List Ent)(j:Nat):(Qsu l)[2*j]? = l[j]?.map (fun x=>Value.int .u64 x.f0)∧(Qsu l)[2*j+1]? = l[j]?.map (fun x=>Value.int .u32 x.f1):=by
 induction l generalizing j with
 | nil=>simp[Qsu]
 | cons a l ih =>
  cases j with
  | zero=>simp[Qsu,encE]
  | succ j =>
   have:=ih j;rw[show 2*(j+1)=2*j+2 by omega];exact this
theorem repsE{R:Ent→List Value→Prop}(hR:∀x,R x (encE x))(l:List Ent):Reps R 2 l (Qsu l):=by
 refine⟨Qsv l,fun j p hj=>?_⟩;obtain⟨h,rfl⟩:=List.getElem?_eq_some_iff.1 hj;rw[Qsw l j h];exact hR _
theorem Qsy{R:Ent→List Value→Prop}(hR:∀x c,R x c→c=encE x){l:List Ent}{cs:List Value}(h:Reps R 2 l cs):cs=Qsu l:=by
 have hl:cs.length=l.length*2:=h.1;apply List.ext_getElem?;intro t
 by_cases ht:t<l.length*2
 ·have hj:t/2<l.length:=by omega
  have h1:=hR _ _ (h.2 (t/2) _ (List.getElem?_eq_getElem hj));have h2:=Qsw l (t/2) hj;rw[← h1]at h2;have e:∀xs:List Value,((xs.drop (t/2*2)).take 2)[t%2]? = xs[t]?:=by
   intro xs;rw[List.getElem?_take,if_pos (Nat.mod_lt _ (by omega)),List.getElem?_drop]
   congr 1
   omega
  rw[← e cs,← e (Qsu l),h2]
 ·rw[List.getElem?_eq_none (by omega),List.getElem?_eq_none (by rw[Qsv];omega)]
theorem RE.of_own{W:World}{b:Nat}{v:Value}{l:List Ent}(h:W.ownsRow b 117 2 v l.length (Qsu l)):RE W b v l :=
 ⟨fun _ _=>trivial,Qsu l,h,repsE (fun x=>Qkm _ _ _ x) l⟩
theorem RE.own{W:World}{b:Nat}{v:Value}{l:List Ent}(h:RE W b v l):W.ownsRow b 117 2 v l.length (Qsu l):=by
 obtain⟨_,inner,ho,hr⟩:=h;have e:=Qsy (fun x c hM=>Qkl hM) hr;rw[← e];exact ho
def Qsz(l:List Ent):List Ent:=l.mergeSort (fun x y=>!(ltOf cfE) y x)
theorem Qta(l:List Ent):(Qsz l).length=l.length:=List.length_mergeSort _
theorem Qtb(x y:Ent):ltOf cfE x y=(decide (x.f0<y.f0) ||(decide (x.f0=y.f0) && decide (x.f1<y.f1))):=by
 unfold ltOf cfE
 by_cases h1:x.f0<y.f0
 ·simp[h1]
 ·by_cases h2:y.f0<x.f0
  ·have:x.f0≠y.f0:=by omega
   simp[h1,h2,this]
  ·have:x.f0=y.f0:=by omega
   by_cases h3:x.f1<y.f1
   ·simp[h1,h2,h3,this]
   ·by_cases h4:y.f1<x.f1<;>simp[h1,h2,h3,h4,this]
theorem swoE:SWO (ltOf cfE) where
 irrefl x:=by rw[Qtb];simp
 trans x y z h1 h2:=by rw[Qtb]at *;simp at *;omega
 ntrans x y z h1 h2:=by rw[Qtb]at *;simp at *;omega
theorem totE(x y:Ent)(h1:ltOf cfE x y=false)(h2:ltOf cfE y x=false):x=y:=by
 rw[Qtb]at h1 h2;simp at h1 h2
 cases x;cases y
 simp_all
 omega
instance:Inhabited Ent:=⟨⟨0,0⟩⟩
theorem Qtc(blk off size:Nat)(w:World):CmpLays Tryz.prog 118 #[] encE 2 cfE blk off size w :=
 fun _ _ _ _ x y=>cmp_gr x y _
theorem Qtd(l:List Ent):(flatK encE 2 l.toArray).toList=Qsu l:=by
 apply List.ext_getElem?;intro t;have hs:(flatK encE 2 l.toArray).size=l.length*2:=by simp
 by_cases ht:t<l.length*2
 ·rw[Array.getElem?_toList,Array.getElem?_eq_getElem (by rw[hs];exact ht)];have h1:=get_flatK encE 2 l.toArray t (by simpa using ht);rw[getElem!_pos (flatK encE 2 l.toArray) t (by rw[hs];exact ht)]at h1;have hj:t/2<l.length:=by omega
  have hx:l.toArray[t/2]! = l[t/2]:=by rw[getElem!_pos l.toArray (t/2) (by simpa using hj)];simp
  rw[h1,hx];have h2:=Qsx l (t/2);rw[List.getElem?_eq_getElem hj]at h2
  rcases Nat.mod_two_eq_zero_or_one t with h0|h0
  ·have h3:=h2.1;rw[show 2*(t/2)=t by omega]at h3;rw[h0,h3];rfl
  ·have h3:=h2.2;rw[show 2*(t/2)+1=t by omega]at h3;rw[h0,h3];rfl
 ·rw[List.getElem?_eq_none qq_23,List.getElem?_eq_none (by rw[Qsv];omega)]
theorem Qte{W:World}{b g cap:Nat}{l:List Ent}(h:W.ownsRow b 117 2 (.slice (some ⟨g,0,none⟩) l.length cap) l.length (Qsu l)):HoldsK encE 2 W g 0 l.toArray:=by
 rcases h.2 with⟨hn,_⟩ |⟨g',cap',cur,he,hb,hh,h1,h2,h3,h4⟩
 ·cases hn
 cases he
 intro j hj;have hj':j<l.length*2:=by simpa using hj
 refine⟨?_,by simp[World.frozen?,hh]⟩;have h5:(cur.toList.take (l.length*2))[j]? = (Qsu l)[j]?:=by rw[h4]
 rw[List.getElem?_take_of_lt hj']at h5;simp only[World.cell?,hh,Nat.zero_add];simp only[Option.isSome_none,Bool.false_eq_true,if_false];rw[← Array.getElem?_toList,h5,← Qtd l,Array.getElem?_toList,Array.getElem?_eq_getElem hj,getElem!_pos (flatK encE 2 l.toArray) j hj];rfl
theorem heapE{w:World}{g n:Nat}{os:Array Obj}{cur:Array Value}{e:TypeId}{fr:Nat × Nat}(d:Array Ent)(hb:w.heap[g]? = some (.cells cur e fr)) :
  (sortWorldK encE 2 w g 0 n d os).heap[g]? = some (.cells (putCells id 0 (flatK encE 2 d) cur) e fr):=by
 have hg:g<w.heap.size:=(Array.getElem?_eq_some_iff.1 hb).1;unfold sortWorldK putRowK;rw[heap_grow_old _ _ (by simpa using hg)];simp[putRow,mapBlock,Sort.ahead,Array.getElem?_modify,hb,onCells]
theorem grownE{w:World}{g n:Nat}{os:Array Obj}(d:Array Ent):w.grownBy (sortWorldK encE 2 w g 0 n d os) (some g):=by
 unfold sortWorldK putRowK;refine⟨rfl,rfl,rfl,by simp,fun k hk hne=>?_⟩;rw[heap_grow_old _ _ (by simpa using hk)];have:g≠k:=fun e=>hne (by rw[e])
 simp[putRow,mapBlock,Sort.ahead,Array.getElem?_modify,this]
theorem takeE(cur:Array Value)(l:List Ent)(h:l.length*2≤cur.size):(putCells id 0 (flatK encE 2 l.toArray) cur).toList.take (l.length*2)=Qsu l:=by
 apply List.ext_getElem?;intro j
 by_cases hj:j<l.length*2
 ·rw[List.getElem?_take_of_lt hj,Array.getElem?_toList,← Qtd l,Array.getElem?_toList];have hs:(flatK encE 2 l.toArray).size=l.length*2:=by simp
  rw[Array.getElem?_eq_getElem (xs:=flatK encE 2 l.toArray) (by rw[hs];exact hj)];simp only[putCells,Array.getElem?_mapIdx,Nat.zero_le,true_and,Nat.zero_add,hs,hj,if_true,Nat.sub_zero,id];rw[Array.getElem?_eq_getElem (xs:=cur) (by omega),getElem!_pos (flatK encE 2 l.toArray) j (by rw[hs];exact hj)];rfl
 ·rw[List.getElem?_take_eq_none (by omega),List.getElem?_eq_none (by rw[Qsv];omega)]
theorem Qtf{w:World}{b g cap n:Nat}{os:Array Obj}{l m:List Ent}(hl:m.length=l.length)(h:w.ownsRow b 117 2 (.slice (some ⟨g,0,none⟩) l.length cap) l.length (Qsu l)) :
  (sortWorldK encE 2 w g 0 n m.toArray os).ownsRow b 117 2 (.slice (some ⟨g,0,none⟩) l.length cap) l.length (Qsu m):=by
 rcases h.2 with⟨hn,_⟩ |⟨g',cap',cur,he,hb,hh,h1,h2,h3,h4⟩
 ·cases hn
 cases he
 exact⟨by rw[Qsv,hl],.inr ⟨g,cap,_,rfl,hb,heapE _ hh,h1,h2,by simp[putCells,h3],by rw[← hl];exact takeE cur m (by omega)⟩⟩
theorem Qtg(b:Nat)(v:Value)(l:List Ent)(w:World)(hR:RE w b v l)(hl:l.length≤1099511627776) :
  Calls Tryz.prog 116 #[v] w fun e w'=>∃v1,e=.returned v1∧RE w' w.heap.size v1 l∧Below w.heap.size w w':=by
 have ho:=RE.own hR
 rcases ho.2 with⟨rfl,hn⟩ |⟨g,cap,cur,rfl,hb,hh,h1,h2,h3,h4⟩
 ·have hcon:=AnyE.slices_Clone_nil Tryz.cloneEnt 0 0 w;refine hcon.mono fun e w' ⟨he,hw⟩=>⟨_,he,?_,?_⟩
  ·have h0:l=[]:=List.eq_nil_of_length_eq_zero (by omega);rw[h0];exact Kd.R_nil _ _ _ _ _
  ·rw[hw];exact Below.refl _ _
 ·obtain⟨i0,hi,hzz⟩:=Option.map_eq_some_iff.1 Qrm;simp only[Prod.mk.injEq]at hzz;obtain⟨hz0,hz1,hz2⟩:=hzz;have hcon:=AnyE.slices_Clone Tryz.cloneEnt i0 _ 2 16 hi hz0 hz1 hz2 rfl (by omega) Tryz.sizeOf117 g 0 l.length cap (Qsu l) w (Qsv l) (by unfold maxLen;omega) (by omega) (fun j u hj=>by
    have hj':j<l.length*2:=by
     have:=(List.getElem?_eq_some_iff.1 hj).1;rw[Qsv]at this;exact this
    have h5:(cur.toList.take (l.length*2))[j]? = (Qsu l)[j]?:=by rw[h4]
    rw[List.getElem?_take_of_lt hj']at h5;simp only[World.cell?,hh,Nat.zero_add];simp only[Option.isSome_none,Bool.false_eq_true,if_false];rw[← Array.getElem?_toList,h5,hj]) (fun u hu=>by
    obtain⟨x,_,hx⟩:=List.mem_flatMap.1 hu;simp[encE]at hx
    rcases hx with rfl|rfl<;>rfl)
  exact hcon.mono fun e w' ⟨v',he,hown,_,hb'⟩=>⟨v',he,RE.of_own hown,hb'⟩
def Apart(l:List Ent):Prop:=∀i:Nat,i+1<l.length→(Qkn l ((i+1:Nat):Int)).f0≠(Qkn l (i:Int)).f0∨(Qkn l ((i+1:Nat):Int)).f1≠(Qkn l (i:Int)).f1
theorem Qth(A:Option Addr)(n c:Nat)(l:List Ent)(w:World)(hn:n=l.length)(hC:Kd.C k117 w A n l)(hA:Apart l)(hl:l.length≤1099511627776) :
  Calls Tryz.prog 119 #[.slice A n c] w fun e w'=>e=.returned (.slice A n c)∧Drawn0 w w':=by
 have hu:=Tryz.underlying117;have HN:=QA hn;have HL:n≤1099511627776:=by omega
 have HC:=QA hC;have HA:=QA hA;clear hn hC hA hl
 by_cases h2:n<2
 ·have hb:decide ((n:Int)<2)=true:=decide_eq_true (by omega)
  go_enter Tryz.func119,Tryz.ntmps119
  go_wp2;go_ret
  exact⟨rfl,Drawn0.refl _⟩
 ·have hb:decide ((n:Int)<2)=false:=decide_eq_false (by omega)
  go_enter Tryz.func119,Tryz.ntmps119
  go_wp2
  go_loopw [3] (fun i wr=>∃(k:Nat) (iv:Int),1≤k∧k≤n∧i=.int .i64 iv∧Aside0 (iv=(k:Int))∧Drawn0 w wr) (fun i _=>((n:Int)-intOf i).toNat)
  case atStart=>exact⟨1,1,by omega,by omega,rfl,⟨rfl⟩,Drawn0.refl _⟩
  case round =>
   obtain⟨k,iv,hk1,hkn,rfl,HI,⟨m1,rfl⟩⟩:=hrel
   by_cases hlt:k<n
   ·have h0:0≤iv:=by have:=HI.out;omega
    have h1:iv<(n:Int):=by have:=HI.out;omega
    obtain⟨jv,hjv⟩:∃jv,jv=iv-1:=⟨_,rfl⟩;have hm:0≤jv:=by have:=HI.out;omega
    have hm1:jv<(n:Int):=by omega
    have hb1:decide (iv<(n:Int))=true:=decide_eq_true h1;obtain⟨ad,rfl,x0,x1⟩:=Qko HC.out iv h0 h1;obtain⟨ad',e',y0,y1⟩:=Qko HC.out jv hm hm1
    cases e'
    have hne:((Qkn l iv).f0 == (Qkn l jv).f0 && ((Qkn l iv).f1 == (Qkn l jv).f1))=false:=by
     have h:=HA.out (k-1) qq_20;rw[show k-1+1=k by omega,show((k-1:Nat):Int)=jv by(have:=HI.out;omega),← HI.out]at h
     rcases h with h|h<;>simp[h]
    have hwr:IntKind.i64.wrap (iv-1)=jv:=by rw[IntWalk.i64_in _ (by omega)];exact hjv.symm
    have HJ:=QA hjv;clear hjv;go_wp2
    go_quiet (fail)
    clear hwr;go_wp2
    go_roundw
    case rel=>exact⟨k+1,iv+1,by omega,by omega,by go_num,⟨by have:=HI.out;omega⟩,by repeat(first|exact Drawn0.refl _|apply Drawn0.step)⟩
    case measure=>simp[intOf];omega
   ·have hge:¬iv<(n:Int):=by have:=HI.out;omega
    have hb1:decide (iv<(n:Int))=false:=decide_eq_false hge;go_wp2;go_ret
    exact⟨rfl,by repeat(first|exact Drawn0.refl _|apply Drawn0.step)⟩
theorem Qti(b:Nat)(v:Value)(l:List Ent)(w:World)(hR:RE w b v l)(hl:l.length≤1099511627776) :
  Calls Tryz.prog 117 #[v,.func (.func 118) #[] #[]] w fun e w'=>e=.returned (.tuple #[])∧RE w' b v (Qsz l)∧w.grownBy w' v.ownBlock:=by
 have ho:=RE.own hR
 rcases ho.2 with⟨rfl,hn⟩ |⟨g,cap,cur,rfl,hb,hh,h1,h2,h3,h4⟩
 ·have hcon:=AnyF.slices_SortFunc_none (P:=Tryz.prog) (ρ:=Tryz.sortEnt_ren) { Tryz.sortEnt with } none 0 (.func (.func 118) #[] #[]) w;refine hcon.mono fun e w' ⟨he,hw⟩=>⟨he,?_,?_⟩
  ·have h0:l=[]:=List.eq_nil_of_length_eq_zero (by omega);rw[h0,show Qsz []=[] from List.eq_nil_of_length_eq_zero (Qta [])];exact Kd.R_nil _ _ _ _ _
  ·rw[hw];exact World.grownBy.refl w _
 ·have eg:∀args w,(callFunc 118 args).run Tryz.prog w=.ok (.enter 118 args) w:=enters_of Tryz.func118 qq_7 rfl;have hcon:=AnyQ.slices_SortFunc_total Tryz.sortEnt 2 Tryz.isAgg117 Tryz.sizeOf117 encE (fun _=>rfl) (fun x v hv=>by simp[encE]at hv;rcases hv with rfl|rfl<;>rfl) cfE swoE 118 #[] g 0 cap l.toArray w eg (Qtc g 0 l.toArray.size w) (Qte ho) (Qen hh) qq_23 totE;refine hcon.mono fun e w' ⟨he,n,os,hw⟩=>⟨he,?_,?_⟩
  ·rw[hw];have hs:=Qtf (n:=n) (os:=os) (m:=Qsz l) (Qta l) ho;rw[← Qta l]at hs;have:=RE.of_own hs;rw[Qta l]at this;exact this
  ·rw[hw];exact grownE _
theorem Qtj(l:List Ent):(Qsz l).Perm l:=List.mergeSort_perm _ _
theorem Qtk{l:List Ent}(h:l.Nodup):Apart (Qsz l):=by
 have hd:(Qsz l).Nodup:=(Qtj l).nodup_iff.2 h;intro i hi;have e1:Qkn (Qsz l) ((i+1:Nat):Int)=(Qsz l)[i+1]:=by simp[Qkn,List.getElem?_eq_getElem hi]
 have e2:Qkn (Qsz l) (i:Int)=(Qsz l)[i]:=by simp[Qkn,List.getElem?_eq_getElem (show i<(Qsz l).length by omega)]
 rw[e1,e2]
 by_cases h0:(Qsz l)[i+1].f0=(Qsz l)[i].f0
 ·by_cases h1:(Qsz l)[i+1].f1=(Qsz l)[i].f1
  ·exfalso
   have he:(Qsz l)[i+1]=(Qsz l)[i]:=by
    generalize (Qsz l)[i+1]=x at *;generalize (Qsz l)[i]=y at *
    cases x;cases y;simp_all
   have h2:=List.pairwise_iff_getElem.1 hd i (i+1) (by omega) hi (by omega);exact h2 he.symm
  ·exact .inr h1
 ·exact .inl h0
theorem Qtl(b:Nat)(v:Value)(l:List Ent)(w:World)(hR:RE w b v l)(hd:l.Nodup)(hl:l.length≤1099511627776) :
  Calls Tryz.prog 68 #[v] w fun e w'=>∃v1,e=.returned v1∧RE w' w.heap.size v1 (Qsz l)∧Below w.heap.size w w':=by
 have HR:=QA hR;have HD:=QA (Qtk hd);obtain⟨A,c,rfl⟩:=Kd.R_slice hR;clear hR hd;obtain⟨n,hn⟩:∃n,n=l.length:=⟨_,rfl⟩;rw[← hn]at HR ⊢;have HN:=QA hn;clear hn
 go_enter Tryz.func68,Tryz.ntmps68
 go_wp2_with (first
  |(go_at_call 116;refine(Qtg b _ l _ HR.out hl).mono ?_;rintro e w1 ⟨v1,rfl,hR1,hb1⟩;obtain⟨A1,c1,e1⟩:=Kd.R_slice hR1;rw[← HN.out]at e1;subst e1;have HR1:=QA hR1;clear hR1)
  |(go_at_call 117;refine(Qti _ _ l _ HR1.out hl).mono ?_;rintro e w2 ⟨rfl,hR2,hg2⟩;have HR2:=QA hR2;have hB2:Below w.heap.size w w2:=(hb1.grown hg2 hb1.size (fun k hk=>Kd.R_base HR1.out k hk));clear hR2 hg2)
  |(go_at_call 119;refine(Qth A1 n c1 (Qsz l) _ (by rw[Qta];exact HN.out) (by have h:=(Kd.R_reads' HR2.out).2.2;rw[Qta,← HN.out]at h;exact h) HD.out (by rw[Qta];exact hl)).mono ?_;rintro e w3 ⟨rfl,hd3⟩))
 go_ret
 refine⟨_,rfl,?_,hB2.trans (Qld hd3.below hB2.size)⟩;exact Kd.R_below HR2.out hd3.below
end Go.Proofs.YtnnofopfbeklbaaGreat.C
end
