/- Merged texts. -/
import Derived.Test.YtepkfjmjidjedaaGreatMB02
import Derived.WalkLawsBesides
import Derived.Recover
import Derived.Defers
import Derived.Test.YtepkfjmjidjedaaGreatMB09
import Derived.Test.YtepkfjmjidjedaaGreatMB08
import Derived.Test.YtepkfjmjidjedaaGreatMB06
import Derived.Test.YtepkfjmjidjedaaGreatMB07
import Derived.Test.YtepkfjmjidjedaaGreatMB11
set_option linter.unusedVariables false
set_option linter.unusedSimpArgs false
set_option maxHeartbeats 8000000
set_option maxRecDepth 100000
section
namespace Go.Proofs.YtepkfjmjidjedaaGreat.C
open Go.RowKit Go.Proofs.YtepkfjmjidjedaaGreatW.PrintWords Go.Proofs.YtepkfjmjidjedaaGreatW.PrintLast Go.Proofs.YtepkfjmjidjedaaGreatW.PrintMore
theorem Qnv(b g:Nat)(bs:List Int)(i:Int)(w:World)(hI:IsCur w b g bs i) :
  Calls Tryz.prog 220 #[.pointer (some ⟨g,0,none⟩),.int .i64 0] w fun e w'=>e=.returned (.tuple #[])∧Below w.heap.size w w':=by
 have HI:=QA hI;obtain⟨A,c,h0,h1,h2,h3,h4,h5⟩:=hI.cells;clear hI h4;have hu:=Tryz.underlying315
 go_enter Tryz.func220,Tryz.ntmps220
 go_wp2_with (go_at_call 219;refine(Qlc b g bs i _ HI.out).mono ?_;rintro ee wa ⟨rfl,rfl⟩)
 go_end0
 exact⟨rfl,Below.refl _ _⟩
theorem cur_At(b g:Nat)(bs:List Int)(i:Int)(w:World)(hI:IsCur w b g bs i) :
  Calls Tryz.prog 174 #[.pointer (some ⟨g,0,none⟩)] w fun e w'=>e=.returned (.int .i64 i)∧Below w.heap.size w w':=by
 have HI:=QA hI;obtain⟨A,c,h0,h1,h2,h3,h4,h5⟩:=hI.cells;clear hI h4;have hu:=Tryz.underlying315
 go_enter Tryz.func174,Tryz.ntmps174
 go_wp2_with (go_at_call 219;refine(Qlc b g bs i _ HI.out).mono ?_;rintro ee wa ⟨rfl,rfl⟩)
 go_ret
 exact⟨rfl,Below.refl _ _⟩
def OS(w W:World)(lo g rb:Nat)(bs:List Int)(i:Int):Prop :=
 IsCur W lo g bs i∧lo≤W.heap.size∧Bw lo g w W∧W.heap[rb]? = some (.cells #[.string (⟨#[]⟩:ByteArray),.string (⟨#[]⟩:ByteArray)] 132 (0,0))
section
variable {w W W':World} {lo g rb:Nat} {bs:List Int} {i j:Int}
theorem OS.ne(h:OS w W lo g rb bs i):rb≠g:=by
 obtain⟨v,h1,_⟩:=h.1;exact Qdo h.2.2.2 h1 (by decide)
theorem OS.cur(h:OS w W lo g rb bs i)(hI:IsCur W' lo g bs j)(hB:Bw lo g W W'):OS w W' lo g rb bs j :=
 ⟨hI,Nat.le_trans h.2.1 hB.size,h.2.2.1.trans hB,hB.2 _ _ _ h.2.2.2 (by decide) h.ne⟩
theorem OS.below(h:OS w W lo g rb bs i)(hb:Below W.heap.size W W'):OS w W' lo g rb bs i:=h.cur (h.1.kept hb) (Bw.below hb h.2.1)
theorem OS.end_(h:OS w W lo g rb bs i):IsCur W lo g bs i∧Bw lo g w W:=⟨h.1,h.2.2.1⟩
theorem OS.start(hI:IsCur w lo g bs i)(hbw:lo≤w.heap.size):OS w (w.alloc (.cells #[.string (⟨#[]⟩:ByteArray),.string (⟨#[]⟩:ByteArray)] 132)) lo g w.heap.size bs i :=
 ⟨hI.kept (Qcn (Below.refl _ _) _),Nat.le_trans hbw (Qcn (Below.refl w.heap.size w) _).size,Bw.below (Qcn (Below.refl _ _) _) hbw,Qdz w _⟩
end
theorem Qnw(lo g:Nat)(bs:List Int)(i:Nat)(hl:bs.length≤100000000)(hi:i≤bs.length)(hlg:lo≤g)(w:World)(hbw:lo≤w.heap.size)(hI:IsCur w lo g bs (i:Int))(hs:bs.length<i+8) :
  Calls Tryz.prog 173 #[.pointer (some ⟨g,0,none⟩)] w fun e w'=>e=.panicked [Qlb g 2]∧IsCur w' lo g bs (i:Int)∧Bw lo g w w':=by
 have hn8:decide ((bs.length:Int)-(i:Int)<8)=true:=decide_eq_true (by omega);have O0:=QA (OS.start hI hbw);have hu:=Tryz.underlying132;have hii:(0:Int)≤(i:Int)∧(i:Int)≤(bs.length:Int):=⟨by omega,by omega⟩;have hll:bs.length≤140737488355328:=by omega
 clear hI
 go_enter Tryz.func173,Tryz.ntmps173
 go_wp2_with (first |(go_at_call 220;refine(Qld lo g bs (i:Int) 2 (by decide) _ O1.out.1).mono ?_;rintro ee w2 ⟨rfl,rfl⟩) |(go_at_call 172;refine(Qli lo g bs (i:Int) hii hll _ O0.out.1).mono ?_;rintro ee w1 ⟨rfl,hb1⟩;have O1:=QA (O0.out.below hb1);clear hb1))
 exact⟨rfl,rfl,O1.out.end_⟩
theorem Qnx(lo g:Nat)(bs:List Int)(i:Nat)(hb:CodecP.Bytes bs)(hl:bs.length≤100000000)(hlg:lo≤g)(w:World)(hbw:lo≤w.heap.size)(hI:IsCur w lo g bs (i:Int))(hs:i+8≤bs.length)
  (k v er:Int) (hk:k=CodecP.leI ((bs.drop i).take 4)) (hv:v=CodecP.leI ((bs.drop (i+4)).take 4)) (hL:Qaq.f k v=some er) (he:er≠0) :
  Calls Tryz.prog 173 #[.pointer (some ⟨g,0,none⟩)] w fun e w'=>e=.panicked [Qlb g er]∧IsCur w' lo g bs (i+4+4:Int)∧Bw lo g w w':=by
 have a:decide ((bs.length:Int)-(i:Int)<8)=false:=decide_eq_false (by omega);have O0:=QA (OS.start hI hbw);have hu:=Tryz.underlying132;have hii:(0:Int)≤(i:Int)∧(i:Int)≤(bs.length:Int):=⟨by omega,by omega⟩;have hll:bs.length≤140737488355328:=by omega
 have hk':k=CodecP.leI ((bs.drop (i:Int).toNat).take 4):=hk;have hv':v=CodecP.leI ((bs.drop ((i:Int)+4).toNat).take 4):=by rw[show((i:Int)+4).toNat=i+4 by omega];exact hv
 have hkr:=CodecP.leI_range ((hb.drop i).take 4);have hvr:=CodecP.leI_range ((hb.drop (i+4)).take 4);rw[← hk,List.length_take,List.length_drop,show min 4 (bs.length-i)=4 by omega]at hkr;rw[← hv,List.length_take,List.length_drop,show min 4 (bs.length-(i+4))=4 by omega]at hvr;have hwk:IntKind.u64.wrap k=k:=IntWalk.u64_in _ (by omega);have hwv:IntKind.u64.wrap v=v:=IntWalk.u64_in _ (by omega);have HF:=QA (show((0:Int)≤(i:Int)∧(i:Int)+4≤(bs.length:Int))∧(0:Int)≤(i:Int)+4∧(i:Int)+4+4≤(bs.length:Int) from⟨⟨by omega,by omega⟩,by omega,by omega⟩);have HK:=QA hk';have HV:=QA hv';have HL:=QA hL;have HB:=QA hb;clear hI hk hv hk' hv' hkr hvr hL hb
 go_enter Tryz.func173,Tryz.ntmps173
 go_wp2_with (first
  |(go_at_call 220;refine(Qld lo g bs ((i:Int)+4+4) er he _ O4.out.1).mono ?_;rintro ee w5 ⟨rfl,rfl⟩)
  |(go_at_call 222;refine(Qaq.calls k v er _ HL.out).mono ?_;rintro ee w4 ⟨rfl,hd⟩;have O4:=QA (O3.out.below hd.below);clear hd)
  |(go_at_call 221;have gate:=O2.out;clear gate;refine(Qnu lo g bs ((i:Int)+4) v HV.out HB.out HF.out.2.1 hll HF.out.2.2 hlg _ O2.out.2.1 O2.out.1).mono ?_;rintro ee w3 ⟨rfl,hI3,hB3⟩;have O3:=QA (O2.out.cur hI3 hB3);clear hI3 hB3)
  |(go_at_call 221;refine(Qnu lo g bs (i:Int) k HK.out HB.out HF.out.1.1 hll HF.out.1.2 hlg _ O1.out.2.1 O1.out.1).mono ?_;rintro ee w2 ⟨rfl,hI2,hB2⟩;have O2:=QA (O1.out.cur hI2 hB2);clear hI2 hB2)
  |(go_at_call 172;refine(Qli lo g bs (i:Int) hii hll _ O0.out.1).mono ?_;rintro ee w1 ⟨rfl,hb1⟩;have O1:=QA (O0.out.below hb1);clear hb1))
 exact⟨rfl,rfl,O4.out.end_⟩
theorem Qny(lo g:Nat)(bs:List Int)(i:Nat)(hb:CodecP.Bytes bs)(hl:bs.length≤100000000)(hlg:lo≤g)(w:World)(hbw:lo≤w.heap.size)(hI:IsCur w lo g bs (i:Int))(hs:i+8≤bs.length)
  (k v:Int) (hk:k=CodecP.leI ((bs.drop i).take 4)) (hv:v=CodecP.leI ((bs.drop (i+4)).take 4)) (hL:Qaq.f k v=some 0) (hsh:(bs.length:Int)<((i:Int)+4+4)+k+v+4) :
  Calls Tryz.prog 173 #[.pointer (some ⟨g,0,none⟩)] w fun e w'=>e=.panicked [Qlb g 2]∧IsCur w' lo g bs (i+4+4:Int)∧Bw lo g w w':=by
 have a:decide ((bs.length:Int)-(i:Int)<8)=false:=decide_eq_false (by omega);have O0:=QA (OS.start hI hbw);have hu:=Tryz.underlying132;have hii:(0:Int)≤(i:Int)∧(i:Int)≤(bs.length:Int):=⟨by omega,by omega⟩;have hii2:(0:Int)≤(i:Int)+4+4∧(i:Int)+4+4≤(bs.length:Int):=⟨by omega,by omega⟩;have hll:bs.length≤140737488355328:=by omega
 have hk':k=CodecP.leI ((bs.drop (i:Int).toNat).take 4):=hk;have hv':v=CodecP.leI ((bs.drop ((i:Int)+4).toNat).take 4):=by rw[show((i:Int)+4).toNat=i+4 by omega];exact hv
 have hkr:=CodecP.leI_range ((hb.drop i).take 4);have hvr:=CodecP.leI_range ((hb.drop (i+4)).take 4);rw[← hk,List.length_take,List.length_drop,show min 4 (bs.length-i)=4 by omega]at hkr;rw[← hv,List.length_take,List.length_drop,show min 4 (bs.length-(i+4))=4 by omega]at hvr;have hwk:IntKind.u64.wrap k=k:=IntWalk.u64_in _ (by omega);have hwv:IntKind.u64.wrap v=v:=IntWalk.u64_in _ (by omega);have hwk2:IntKind.i64.wrap k=k:=IntWalk.i64_in _ (by omega);have hwv2:IntKind.i64.wrap v=v:=IntWalk.i64_in _ (by omega);have hw3:IntKind.i64.wrap (k+v)=k+v:=IntWalk.i64_in _ (by omega);have hw4:IntKind.i64.wrap (k+v+4)=k+v+4:=IntWalk.i64_in _ (by omega);have hsb:decide ((bs.length:Int)-((i:Int)+4+4)<k+v+4)=true:=decide_eq_true (by omega);have HF:=QA (show((0:Int)≤(i:Int)∧(i:Int)+4≤(bs.length:Int))∧(0:Int)≤(i:Int)+4∧(i:Int)+4+4≤(bs.length:Int) from⟨⟨by omega,by omega⟩,by omega,by omega⟩);have HK:=QA hk';have HV:=QA hv';have HL:=QA hL;have HB:=QA hb;clear hI hk hv hk' hv' hkr hvr hL hb hsh
 go_enter Tryz.func173,Tryz.ntmps173
 go_wp2_with (first
  |(go_at_call 220;have gate:=O6.out;clear gate;refine(Qld lo g bs ((i:Int)+4+4) 2 (by decide) _ O6.out.1).mono ?_;rintro ee w7 ⟨rfl,rfl⟩)
  |(go_at_call 172;have gate:=O5.out;clear gate;refine(Qli lo g bs ((i:Int)+4+4) hii2 hll _ O5.out.1).mono ?_;rintro ee w6 ⟨rfl,hb1⟩;have O6:=QA (O5.out.below hb1);clear hb1)
  |(go_at_call 220;refine(Qnv lo g bs ((i:Int)+4+4) _ O4.out.1).mono ?_;rintro ee w5 ⟨rfl,hb5⟩;have O5:=QA (O4.out.below hb5);clear hb5)
  |(go_at_call 222;refine(Qaq.calls k v 0 _ HL.out).mono ?_;rintro ee w4 ⟨rfl,hd⟩;have O4:=QA (O3.out.below hd.below);clear hd)
  |(go_at_call 221;have gate:=O2.out;clear gate;refine(Qnu lo g bs ((i:Int)+4) v HV.out HB.out HF.out.2.1 hll HF.out.2.2 hlg _ O2.out.2.1 O2.out.1).mono ?_;rintro ee w3 ⟨rfl,hI3,hB3⟩;have O3:=QA (O2.out.cur hI3 hB3);clear hI3 hB3)
  |(go_at_call 221;refine(Qnu lo g bs (i:Int) k HK.out HB.out HF.out.1.1 hll HF.out.1.2 hlg _ O1.out.2.1 O1.out.1).mono ?_;rintro ee w2 ⟨rfl,hI2,hB2⟩;have O2:=QA (O1.out.cur hI2 hB2);clear hI2 hB2)
  |(go_at_call 172;refine(Qli lo g bs (i:Int) hii hll _ O0.out.1).mono ?_;rintro ee w1 ⟨rfl,hb1⟩;have O1:=QA (O0.out.below hb1);clear hb1))
 exact⟨rfl,rfl,O6.out.end_⟩
def Q7(w W:World)(lo g:Nat)(bs xk xv:List Int)(I k v:Int)(d3 d8 d11:Bool)(s:Value × Value × Nat):Prop :=
 OS w W lo g w.heap.size bs (cond d8 (I+k+v) (cond d3 (I+k) I))∧(d3=true→R8 W lo s.1 xk)∧(d8=true→R8 W lo s.2.1 xv)∧(d11=true→W.heap[s.2.2]? = some (.cells #[.string (⟨#[]⟩:ByteArray),.string (⟨#[]⟩:ByteArray)] 132 (0,0))∧w.heap.size<s.2.2)
section
variable {w W W':World} {lo g p:Nat} {bs xk xv:List Int} {I k v:Int} {d3 d8 d11:Bool} {s:Value × Value × Nat} {va vb vt:Value}
theorem Q7.os0(h:Q7 w W lo g bs xk xv I k v false false d11 s):OS w W lo g w.heap.size bs I:=h.1
theorem Q7.os1(h:Q7 w W lo g bs xk xv I k v true false d11 s):OS w W lo g w.heap.size bs (I+k):=h.1
theorem Q7.start(h:OS w W lo g w.heap.size bs I):Q7 w W lo g bs xk xv I k v false false false (.bool false,.bool false,0):=⟨h,by simp,by simp,by simp⟩
theorem OS.far{i:Int}{rb q:Nat}(h:OS w W lo g rb bs i){cs:Array Value}(hq:W.heap[q]? = some (.cells cs 132 (0,0)))(hB:Bw lo g W W'):W'.heap[q]? = some (.cells cs 132 (0,0)):=by
 obtain⟨v,h1,_⟩:=h.1;exact hB.2 _ _ _ hq (by decide) (Qdo hq h1 (by decide))
theorem Q7.take1(h:Q7 w W lo g bs xk xv I k v false false d11 (va,vb,p))(hR:R8 W' W.heap.size vt xk)(hI:IsCur W' lo g bs (I+k))(hB:Bw lo g W W')(hK:K8 W W'):Q7 w W' lo g bs xk xv I k v true false d11 (vt,vb,p) :=
 ⟨h.os0.cur hI hB,fun _=>R8.low hR h.1.2.1,by simp,fun hd=>⟨h.1.far (h.2.2.2 hd).1 hB,(h.2.2.2 hd).2⟩⟩
theorem Q7.take2(h:Q7 w W lo g bs xk xv I k v true false d11 (va,vb,p))(hR:R8 W' W.heap.size vt xv)(hI:IsCur W' lo g bs (I+k+v))(hB:Bw lo g W W')(hK:K8 W W'):Q7 w W' lo g bs xk xv I k v true true d11 (va,vt,p) :=
 ⟨h.os1.cur hI hB,fun _=>hK _ _ _ (h.2.1 rfl),fun _=>R8.low hR h.1.2.1,fun hd=>⟨h.1.far (h.2.2.2 hd).1 hB,(h.2.2.2 hd).2⟩⟩
theorem Q7.new(h:Q7 w W lo g bs xk xv I k v d3 d8 false (va,vb,p)):Q7 w (W.alloc (.cells #[.string (⟨#[]⟩:ByteArray),.string (⟨#[]⟩:ByteArray)] 132)) lo g bs xk xv I k v d3 d8 true (va,vb,W.heap.size) :=
 ⟨h.1.below (Qcn (Below.refl _ _) _),fun hd=>R8.kept (h.2.1 hd) (Qcn (Below.refl _ _) _),fun hd=>R8.kept (h.2.2.1 hd) (Qcn (Below.refl _ _) _),fun _=>⟨Qdz W _,Qdk h.1.2.2.2⟩⟩
theorem Qnz{a b:Value}(h:W.heap[p]? = some (.cells #[a,b] 132 (0,0))):W.cell? ⟨p,0,none⟩=some a∧W.cell? ⟨p,1,none⟩=some b∧W.frozen? ⟨p,0,none⟩=false∧W.frozen? ⟨p,1,none⟩=false:=⟨(Qdl h 0).trans rfl,(Qdl h 1).trans rfl,Qdm h 0,Qdm h 1⟩
theorem OS.set{i:Int}{cs:Array Value}(h:OS w W lo g w.heap.size bs i)(hp:W.heap[p]? = some (.cells cs 132 (0,0)))(hlt:w.heap.size<p)(hlo:lo≤w.heap.size)(j:Nat)(u:Value):OS w (W.setCell ⟨p,j,none⟩ u) lo g w.heap.size bs i:=by
 obtain⟨⟨v,h1,h2⟩,h3,h4,h5⟩:=h;refine⟨⟨v,Qdj h1 (p:=⟨p,j,none⟩) (Qdo h1 hp (by decide)) u,h2.set hp (by decide) j u⟩,by simpa [World.setCell]using h3,⟨Qio h4.1 (by omega),fun k cs t g1 g2 g3=>Qdj (h4.2 _ _ _ g1 g2 g3) (p:=⟨p,j,none⟩) (by have:=Qdk g1;show k≠p;omega) u⟩,Qdj h5 (p:=⟨p,j,none⟩) (by show w.heap.size≠p;omega) u⟩
theorem Q7.store(h:Q7 w W lo g bs xk xv I k v true true true (va,vb,p))(hlo:lo≤w.heap.size)(x y:Value):∃W',W'=(W.setCell ⟨p,0,none⟩ x).setCell ⟨p,1,none⟩ y∧W'.heap[p]? = some (.cells #[x,y] 132 (0,0))∧OS w W' lo g w.heap.size bs (I+k+v):=by
 obtain⟨hp,hlt⟩:=h.2.2.2 rfl;have b1:=Qdi hp 0 x;exact⟨_,rfl,Qdi b1 1 y,(OS.set (show OS w W lo g w.heap.size bs (I+k+v) from h.1) hp hlt hlo 0 x).set b1 hlt hlo 1 y⟩
end
theorem Qoa{W W':World}{q:Nat}(h:W'.heap[q]? = W.heap[q]?)(j:Nat):W'.cell? ⟨q,j,none⟩=W.cell? ⟨q,j,none⟩:=by simp only[World.cell?,h]
theorem Qob{W W':World}{b p j:Nat}{x:Value}(hB:Below b W W')(hp:p<b)(h:W.cell? ⟨p,j,none⟩=some x):W'.cell? ⟨p,j,none⟩=some x:=(Qoa (hB.block p hp) j).trans h
def Rw(W:World)(gB a:Nat)(s:ByteArray):Prop :=
 (∃W0:World,W0.heap.size=a∧W.heap[a]? = (Lib.bytesWorld W0 5 s).heap[a]?∧∃o,W.heap[a]? = some o)∧a≠gB∧∃v,W.heap[gB]? = some (.cells #[v] 207 (0,0))∧some a≠v.ownBlock
theorem Rw.C{W:World}{gB a:Nat}{s:ByteArray}(h:Rw W gB a s)(hs:s.size≤9223372036854775807):Kd.C (Kd.int .u8) W (some ⟨a,0,none⟩) s.size (bytesOf s):=by
 obtain⟨⟨W0,rfl,he,_⟩,_⟩:=h;obtain⟨r1,r2,r3⟩:=Qdb W0 5 s hs;refine Kd.C_of_reads (d:=(0:Int)) ⟨r1,r2,fun hp=>?_⟩;obtain⟨ad,had,hc⟩:=r3 hp;obtain rfl:=Option.some.inj had;refine⟨_,rfl,fun j hj=>?_⟩;have:=hc j hj;rw[Qcs]at this ⊢;exact(Qoa he _).trans this
theorem Rw.ow{W W':World}{gB a:Nat}{s:ByteArray}(h:Rw W gB a s)(hO:Ow gB W W'):Rw W' gB a s:=by
 obtain⟨⟨W0,h0,he,o,ho⟩,hne,v,hv,hown⟩:=h;obtain⟨h1,v',h2,h3⟩:=hO a o v hv ho hne hown;exact⟨⟨W0,h0,h1.trans (ho.symm.trans he),o,h1⟩,hne,v',h2,h3⟩
theorem own_new{W:World}{b:Nat}{v:Value}{xs:List Int}(h:R8 W b v xs):some W.heap.size≠v.ownBlock :=
 Kd.R_ne (R8.kept h (Qcn (Below.refl _ _) (.cells #[.string (⟨#[]⟩:ByteArray),.string (⟨#[]⟩:ByteArray)] 132))) (Qdz W _) (by decide)
theorem Rw.new{W:World}{gB b:Nat}{xs:List Int}(hI:IsBuf W b gB xs)(s:ByteArray):Rw (Lib.bytesWorld W 5 s) gB W.heap.size s:=by
 obtain⟨v,h1,h2⟩:=hI;have hlt:=Qdk h1;exact⟨⟨W,rfl,rfl,_,Lib.bytesWorld_at_new W 5 s⟩,by omega,v,(Lib.bytesWorld_at_old W 5 s gB hlt).trans h1,own_new h2⟩
theorem Rw.below{W W':World}{gB a:Nat}{s:ByteArray}(h:Rw W gB a s)(hb:Below W.heap.size W W'):Rw W' gB a s:=by
 obtain⟨⟨W0,h0,he,o,ho⟩,hne,v,hv,hown⟩:=h;have h1:=(hb.block a (Qdk ho));exact⟨⟨W0,h0,h1.trans he,o,h1.trans ho⟩,hne,v,Qdy hv hb,hown⟩
def Q9(wA W:World)(gB:Nat)(ys:List Int)(d6 d10:Bool)(sk sv:ByteArray)(s:Nat × Nat × Nat × Nat):Prop :=
 IsBuf W gB gB ys∧Bw gB gB wA W∧gB≤W.heap.size∧(d6=true→Rw W gB s.1 sk)∧(d10=true→Rw W gB s.2.2.1 sv)
section
variable {wA W W':World} {gB:Nat} {ys ys':List Int} {d6 d10:Bool} {sk sv:ByteArray} {s:Nat × Nat × Nat × Nat} {a b c ca cb:Nat}
theorem Q9.step(h:Q9 wA W gB ys d6 d10 sk sv s)(hI:IsBuf W' gB gB ys')(hB:Bw gB gB W W')(hO:Ow gB W W'):Q9 wA W' gB ys' d6 d10 sk sv s :=
 ⟨hI,h.2.1.trans hB,Nat.le_trans h.2.2.1 hB.size,fun hd=>(h.2.2.2.1 hd).ow hO,fun hd=>(h.2.2.2.2 hd).ow hO⟩
theorem Q9.row6(h:Q9 wA W gB ys true d10 sk sv (a,ca,b,cb)):Rw W gB a sk:=h.2.2.2.1 rfl
theorem Q9.row10(h:Q9 wA W gB ys d6 true sk sv (a,ca,b,cb)):Rw W gB b sv:=h.2.2.2.2 rfl
theorem Q9.new6(h:Q9 wA W gB ys false d10 sk sv (a,ca,b,cb)):Q9 wA (Lib.bytesWorld W 5 sk) gB ys true d10 sk sv (W.heap.size,c,b,cb):=by
 have hb:=Qdc (Below.refl W.heap.size W) (Nat.le_refl _) 5 sk;exact⟨h.1.kept hb,h.2.1.trans (Bw.below hb h.2.2.1),Nat.le_trans h.2.2.1 hb.size,fun _=>Rw.new h.1 sk,fun hd=>(h.2.2.2.2 hd).below hb⟩
theorem Q9.new10(h:Q9 wA W gB ys d6 false sk sv (a,ca,b,cb)):Q9 wA (Lib.bytesWorld W 5 sv) gB ys d6 true sk sv (a,ca,W.heap.size,c):=by
 have hb:=Qdc (Below.refl W.heap.size W) (Nat.le_refl _) 5 sv;exact⟨h.1.kept hb,h.2.1.trans (Bw.below hb h.2.2.1),Nat.le_trans h.2.2.1 hb.size,fun hd=>(h.2.2.2.1 hd).below hb,fun _=>Rw.new h.1 sv⟩
theorem Q9.goFour(x:Int)(h:Q9 wA W gB ys d6 d10 sk sv s)(h0:0≤x)(h1:x<4294967296)(hz:sk.size+sv.size≤1000000000)(hl:ys.length≤1000) :
  Calls Tryz.prog 142 #[.pointer (some ⟨gB,0,none⟩),.int .u32 x] W fun e w'=>e=.returned (.pointer (some ⟨gB,0,none⟩))∧IsBuf w' gB gB (ys++leb x 4)∧Bw gB gB W w'∧Ow gB W w' :=
 Qiu gB gB x ys W h0 h1 (Nat.le_refl _) h.2.2.1 h.1 (by omega)
theorem Q9.goRaw{t:ByteArray}(ct:Nat)(h:Q9 wA W gB ys d6 d10 sk sv s)(hr:Rw W gB a t)(hz:t.size≤1000000000)(hl:ys.length≤2000000000) :
  Calls Tryz.prog 117 #[.pointer (some ⟨gB,0,none⟩),.slice (some ⟨a,0,none⟩) t.size ct] W fun e w'=>e=.returned (.pointer (some ⟨gB,0,none⟩))∧IsBuf w' gB gB (ys++bytesOf t)∧Bw gB gB W w'∧Ow gB W w':=by
 have hC:=hr.C (by omega);rw[← Qcy t]at hC ⊢;exact Qix gB gB _ ct (bytesOf t) ys W hC (Nat.le_refl _) h.2.2.1 h.1 (by rw[Qcy];omega)
end
theorem Qoc (lo g:Nat) (bs:List Int) (i:Nat) (hb:CodecP.Bytes bs) (hl:bs.length≤100000000) (hlg:lo≤g) (w:World) (hbw:lo≤w.heap.size) (hI:IsCur w lo g bs (i:Int)) (hs:i+8≤bs.length)
  (k v:Int) (hk:k=CodecP.leI ((bs.drop i).take 4)) (hv:v=CodecP.leI ((bs.drop (i+4)).take 4)) (hL:Qaq.f k v=some 0) (hsh:((i:Int)+4+4)+k+v+4≤(bs.length:Int)) (x:Int) (hx:x=CodecP.leI ((bs.drop ((i:Int)+4+4+k+v).toNat).take 4)) (xk xv:List Int) (hxk:xk=(bs.drop ((i:Int)+4+4).toNat).take k.toNat) (hxv:xv=(bs.drop ((i:Int)+4+4+k).toNat).take v.toNat) :
  Calls Tryz.prog 173 #[.pointer (some ⟨g,0,none⟩)] w fun e w'=>(IsCur w' lo g bs ((i:Int)+4+4+k+v+4)∧Bw lo g w w')∧((Qmc 0 (leb k 4++leb v 4++bytesOf (strOfNums xk)++bytesOf (strOfNums xv))=x∧e=.returned (.agg #[.string (strOfNums xk),.string (strOfNums xv)]))∨(Qmc 0 (leb k 4++leb v 4++bytesOf (strOfNums xk)++bytesOf (strOfNums xv))≠x∧e=.panicked [Qlb g 5])):=by
 have y:decide ((bs.length:Int)-(i:Int)<8)=false:=decide_eq_false (by omega);have O0:=QA (OS.start hI hbw);have hu:=Tryz.underlying132;have hii:(0:Int)≤(i:Int)∧(i:Int)≤(bs.length:Int):=⟨by omega,by omega⟩;have hii2:(0:Int)≤(i:Int)+4+4∧(i:Int)+4+4≤(bs.length:Int):=⟨by omega,by omega⟩;have hll:bs.length≤140737488355328:=by omega
 have hk':k=CodecP.leI ((bs.drop (i:Int).toNat).take 4):=hk;have hv':v=CodecP.leI ((bs.drop ((i:Int)+4).toNat).take 4):=by rw[show((i:Int)+4).toNat=i+4 by omega];exact hv
 have hkr:=CodecP.leI_range ((hb.drop i).take 4);have hvr:=CodecP.leI_range ((hb.drop (i+4)).take 4);rw[← hk,List.length_take,List.length_drop,show min 4 (bs.length-i)=4 by omega]at hkr;rw[← hv,List.length_take,List.length_drop,show min 4 (bs.length-(i+4))=4 by omega]at hvr;have hwk:IntKind.u64.wrap k=k:=IntWalk.u64_in _ (by omega);have hwv:IntKind.u64.wrap v=v:=IntWalk.u64_in _ (by omega);have hwk2:IntKind.i64.wrap k=k:=IntWalk.i64_in _ (by omega);have hwv2:IntKind.i64.wrap v=v:=IntWalk.i64_in _ (by omega);have hw3:IntKind.i64.wrap (k+v)=k+v:=IntWalk.i64_in _ (by omega);have hw4:IntKind.i64.wrap (k+v+4)=k+v+4:=IntWalk.i64_in _ (by omega);have hsb:decide ((bs.length:Int)-((i:Int)+4+4)<k+v+4)=false:=decide_eq_false (by omega);have HF:=QA (show((0:Int)≤(i:Int)∧(i:Int)+4≤(bs.length:Int))∧(0:Int)≤(i:Int)+4∧(i:Int)+4+4≤(bs.length:Int) from⟨⟨by omega,by omega⟩,by omega,by omega⟩);have HKR:=QA (show 0≤k∧k<4294967296 from⟨hkr.1,by omega⟩);have HVR:=QA (show 0≤v∧v<4294967296 from⟨hvr.1,by omega⟩);have HK:=QA hk';have HV:=QA hv';have HL:=QA hL;have HB:=QA hb;have HX:=QA hx;have l:=QA (show(0:Int)≤(i:Int)+4+4+k+v∧(i:Int)+4+4+k+v+4≤(bs.length:Int) from⟨by omega,by omega⟩);clear hx;have HXL:=QA (show xk.length+xv.length≤1000000000 by rw[hxk,hxv,List.length_take,List.length_take,List.length_drop,List.length_drop];omega);have T1:=QA (fun W (hO:OS w W lo g w.heap.size bs ((i:Int)+4+4))=>Qlg lo g bs xk ((i:Int)+4+4) k hxk hkr.1 (by omega) hll (by omega) hlg W hO.2.1 hO.1);have T2:=QA (fun W (hO:OS w W lo g w.heap.size bs ((i:Int)+4+4+k))=>Qlg lo g bs xv ((i:Int)+4+4+k) v hxv hvr.1 (by omega) hll (by omega) hlg W hO.2.1 hO.1);clear hxk hxv hI hk hv hk' hv' hkr hvr hL hb hsh
 go_enter Tryz.func173,Tryz.ntmps173
 go_upto_region 7 with(first
  |(go_at_call 172;have gate:=O5.out;clear gate;refine(Qli lo g bs ((i:Int)+4+4) hii2 hll _ O5.out.1).mono ?_;rintro ee w6 ⟨rfl,hb1⟩;have O6:=QA (O5.out.below hb1);clear hb1)
  |(go_at_call 220;refine(Qnv lo g bs ((i:Int)+4+4) _ O4.out.1).mono ?_;rintro ee w5 ⟨rfl,hb5⟩;have O5:=QA (O4.out.below hb5);clear hb5)
  |(go_at_call 222;refine(Qaq.calls k v 0 _ HL.out).mono ?_;rintro ee w4 ⟨rfl,hd⟩;have O4:=QA (O3.out.below hd.below);clear hd)
  |(go_at_call 221;have gate:=O2.out;clear gate;refine(Qnu lo g bs ((i:Int)+4) v HV.out HB.out HF.out.2.1 hll HF.out.2.2 hlg _ O2.out.2.1 O2.out.1).mono ?_;rintro ee w3 ⟨rfl,hI3,hB3⟩;have O3:=QA (O2.out.cur hI3 hB3);clear hI3 hB3)
  |(go_at_call 221;refine(Qnu lo g bs (i:Int) k HK.out HB.out HF.out.1.1 hll HF.out.1.2 hlg _ O1.out.2.1 O1.out.1).mono ?_;rintro ee w2 ⟨rfl,hI2,hB2⟩;have O2:=QA (O1.out.cur hI2 hB2);clear hI2 hB2)
  |(go_at_call 172;refine(Qli lo g bs (i:Int) hii hll _ O0.out.1).mono ?_;rintro ee w1 ⟨rfl,hb1⟩;have O1:=QA (O0.out.below hb1);clear hb1))
 have HLO:=QA hbw
 go_cut [5] (fun v5 w'=>∃p:Nat,v5=.pointer (some ⟨p,0,none⟩)∧w'.heap[p]? = some (.cells #[.string (strOfNums xk),.string (strOfNums xv)] 132 (0,0))∧OS w w' lo g w.heap.size bs ((i:Int)+4+4+k+v))
 case first =>
  obtain⟨I,hI⟩:∃I,I=(i:Int)+4+4:=⟨_,rfl⟩;rw[← hI]at T1 T2 O6 ⊢;have HII:=QA hI;clear hI;have HQ:=QA (Q7.start (xk:=xk) (xv:=xv) (k:=k) (v:=v) (O6.out.below (Qco (Below.refl _ _))));refine Qfp (n:=13) (S:=fun w'=>True) (ds:=[]) (bm 13 0) qq_6 rfl rfl trivial (fun a=>?_);refine pz_ (i:=0) (N:=some 34) (bm 13 1) qq_6 ?_;refine pz_ (i:=1) (N:=some 35) (bm 13 3) qq_6 ?_;refine pz_ (i:=2) (N:=some 36) (bm 13 7) qq_6 ?_;refine pz_ (i:=5) (N:=some 39) (bm 13 39) qq_6 ?_;refine pz_ (i:=6) (N:=some 40) (bm 13 103) qq_6 ?_;refine pz_ (i:=7) (N:=some 41) (bm 13 231) qq_6 ?_;refine Qfv (σ:=Value × Value × Nat) 1 (bm 13 4095) (fun s_=>[(37,s_.1),(38,.string (strOfNums xk)),(42,s_.2.1),(43,.string (strOfNums xv)),(5,.pointer (some ⟨s_.2.2,0,none⟩)),(44,.agg #[.string (strOfNums xk),.string (strOfNums xv)])]) (fun s_ w'=>Q7 w w' lo g bs xk xv I k v true true true s_) ?_ ?_;rotate_left
  ·intro hJ3_4_8_9_11;refine Qfv (σ:=Value × Value × Nat) 2 (bm 13 2047) (fun s_=>[(37,s_.1),(38,.string (strOfNums xk)),(42,s_.2.1),(43,.string (strOfNums xv)),(44,.agg #[.string (strOfNums xk),.string (strOfNums xv)])]) (fun s_ w'=>Q7 w w' lo g bs xk xv I k v true true false s_) ?_ ?_;rotate_left
   ·intro hJ3_4_8_9;refine Qfv (σ:=Value × Value × Nat) 3 (bm 13 2559) (fun s_=>[(37,s_.1),(38,.string (strOfNums xk)),(42,s_.2.1),(5,.pointer (some ⟨s_.2.2,0,none⟩))]) (fun s_ w'=>Q7 w w' lo g bs xk xv I k v true true true s_) ?_ ?_;rotate_left
    ·intro hJ3_4_8_11;refine Qfv (σ:=Value × Value × Nat) 3 (bm 13 3055) (fun s_=>[(37,s_.1),(42,s_.2.1),(43,.string (strOfNums xv)),(5,.pointer (some ⟨s_.2.2,0,none⟩))]) (fun s_ w'=>Q7 w w' lo g bs xk xv I k v true true true s_) ?_ ?_;rotate_left
     ·intro hJ3_8_9_11;refine Qfv (σ:=Value × Value × Nat) 4 (bm 13 511) (fun s_=>[(37,s_.1),(38,.string (strOfNums xk)),(42,s_.2.1)]) (fun s_ w'=>Q7 w w' lo g bs xk xv I k v true true false s_) ?_ ?_;rotate_left
      ·intro hJ3_4_8;refine Qfv (σ:=Value × Value × Nat) 4 (bm 13 2303) (fun s_=>[(37,s_.1),(38,.string (strOfNums xk)),(5,.pointer (some ⟨s_.2.2,0,none⟩))]) (fun s_ w'=>Q7 w w' lo g bs xk xv I k v true false true s_) ?_ ?_;rotate_left
       ·intro hJ3_4_11;refine Qfv (σ:=Value × Value × Nat) 4 (bm 13 1007) (fun s_=>[(37,s_.1),(42,s_.2.1),(43,.string (strOfNums xv))]) (fun s_ w'=>Q7 w w' lo g bs xk xv I k v true true false s_) ?_ ?_;rotate_left
        ·intro hJ3_8_9;refine Qfv (σ:=Value × Value × Nat) 4 (bm 13 2543) (fun s_=>[(37,s_.1),(42,s_.2.1),(5,.pointer (some ⟨s_.2.2,0,none⟩))]) (fun s_ w'=>Q7 w w' lo g bs xk xv I k v true true true s_) ?_ ?_;rotate_left
         ·intro hJ3_8_11;refine Qfv (σ:=Value × Value × Nat) 5 (bm 13 255) (fun s_=>[(37,s_.1),(38,.string (strOfNums xk))]) (fun s_ w'=>Q7 w w' lo g bs xk xv I k v true false false s_) ?_ ?_;rotate_left
          ·intro hJ3_4;refine Qfv (σ:=Value × Value × Nat) 5 (bm 13 495) (fun s_=>[(37,s_.1),(42,s_.2.1)]) (fun s_ w'=>Q7 w w' lo g bs xk xv I k v true true false s_) ?_ ?_;rotate_left
           ·intro hJ3_8;refine Qfv (σ:=Value × Value × Nat) 5 (bm 13 2287) (fun s_=>[(37,s_.1),(5,.pointer (some ⟨s_.2.2,0,none⟩))]) (fun s_ w'=>Q7 w w' lo g bs xk xv I k v true false true s_) ?_ ?_;rotate_left
            ·intro hJ3_11;refine Qfv (σ:=Value × Value × Nat) 6 (bm 13 239) (fun s_=>[(37,s_.1)]) (fun s_ w'=>Q7 w w' lo g bs xk xv I k v true false false s_) ?_ ?_;rotate_left
             ·intro hJ3;refine Qfv (σ:=Value × Value × Nat) 6 (bm 13 2279) (fun s_=>[(5,.pointer (some ⟨s_.2.2,0,none⟩))]) (fun s_ w'=>Q7 w w' lo g bs xk xv I k v false false true s_) ?_ ?_;rotate_left
              ·intro hJ11;refine two_ (i:=3) (j:=11) (Ni:=some 37) (Nj:=some 5) (bm 13 239) (bm 13 2279) rfl rfl rfl rfl qq_6 (by decide) (by decide) (fun K hK=>?_) (fun K hK=>?_)
               ·skip
                refine Qfy Tryz.func223 qq_6 rfl #[.pointer (some ⟨g,0,none⟩),.int .i64 k] (by rfl) rfl rfl qq_11 ?_;with_reducible refine(T1.out _ HQ.out.os0).mono ?_
                rintro ee wt_ ⟨vt_,rfl,hR_,hI_,hB_,hK_⟩;refine⟨_,rfl,?_⟩;refine hK.out _ _ trivial (fun a=>?_);clear hK K;refine nzp_ 37 ?_;exact Qfw qq_1 (hJ3 (vt_,(.bool false),0) _ (HQ.out.take1 hR_ hI_ hB_ hK_))
               ·skip
                refine Qga (w1:=?_) (v:=?_) (by rfl) rfl ?_ ?_;rotate_left 2
                ·go_simp
                 constructor
                 ·rfl
                 ·rfl
                refine hK.out _ _ trivial (fun a=>?_);clear hK K;refine nzp_ 5 ?_;exact Qfw qq_1 (hJ11 ((.bool false),(.bool false),_) _ HQ.out.new)
              ·skip
               rintro⟨va_,vb_,p_⟩ wn11_ HQ_;clear a HQ;have a:True:=trivial;have HQ:=QA HQ_;clear HQ_;refine nza_ ?_;refine one_ (i:=3) (N:=some 37) (bm 13 2287) rfl rfl qq_6 (by decide) (fun K hK=>?_);refine Qfy Tryz.func223 qq_6 rfl #[.pointer (some ⟨g,0,none⟩),.int .i64 k] (by rfl) rfl rfl qq_11 ?_;with_reducible refine(T1.out _ HQ.out.os0).mono ?_
               rintro ee wt_ ⟨vt_,rfl,hR_,hI_,hB_,hK_⟩;refine⟨_,rfl,?_⟩;refine hK.out _ _ trivial (fun a=>?_);clear hK K;refine nzp_ 37 ?_;exact Qfw qq_1 (hJ3_11 (vt_,vb_,p_) _ (HQ.out.take1 hR_ hI_ hB_ hK_))
             ·skip
              rintro⟨va_,vb_,p_⟩ wn3_ HQ_;clear a HQ;have a:True:=trivial;have HQ:=QA HQ_;clear HQ_;have cva:=Qcw (P:=Tryz.prog) Tryz.underlying47 Tryz.underlying5 Tryz.underlying9 (Kd.own_of_R (HQ.out.2.1 rfl));refine nza_ ?_;refine Qft (i:=4) (j:=8) (k:=11) (Ni:=some 38) (Nj:=some 42) (Nk:=some 5) (bm 13 255) (bm 13 495) (bm 13 2287) rfl rfl rfl rfl rfl rfl qq_6 (by decide) (by decide) (by decide) (fun K hK=>?_) (fun K hK=>?_) (fun K hK=>?_)
              ·skip
               refine Qga (w1:=?_) (v:=?_) (by rfl) rfl ?_ ?_;rotate_left 2
               ·go_simp
                constructor
                ·rfl
                ·rfl
               refine hK.out _ _ trivial (fun a=>?_);clear hK K;refine nzp_ 38 ?_;exact Qfw qq_1 (hJ3_4 (va_,vb_,p_) _ HQ.out)
              ·skip
               refine Qfy Tryz.func223 qq_6 rfl #[.pointer (some ⟨g,0,none⟩),.int .i64 v] (by rfl) rfl rfl qq_11 ?_;with_reducible refine(T2.out _ HQ.out.os1).mono ?_
               rintro ee wt_ ⟨vt_,rfl,hR_,hI_,hB_,hK_⟩;refine⟨_,rfl,?_⟩;refine hK.out _ _ trivial (fun a=>?_);clear hK K;refine nzp_ 42 ?_;exact Qfw qq_1 (hJ3_8 (va_,vt_,p_) _ (HQ.out.take2 hR_ hI_ hB_ hK_))
              ·skip
               refine Qga (w1:=?_) (v:=?_) (by rfl) rfl ?_ ?_;rotate_left 2
               ·go_simp
                constructor
                ·rfl
                ·rfl
               refine hK.out _ _ trivial (fun a=>?_);clear hK K;refine nzp_ 5 ?_;exact Qfw qq_1 (hJ3_11 (va_,vb_,_) _ HQ.out.new)
            ·skip
             rintro⟨va_,vb_,p_⟩ wn311_ HQ_;clear a HQ;have a:True:=trivial;have HQ:=QA HQ_;clear HQ_;have cva:=Qcw (P:=Tryz.prog) Tryz.underlying47 Tryz.underlying5 Tryz.underlying9 (Kd.own_of_R (HQ.out.2.1 rfl));refine nza_ ?_;refine two_ (i:=4) (j:=8) (Ni:=some 38) (Nj:=some 42) (bm 13 2303) (bm 13 2543) rfl rfl rfl rfl qq_6 (by decide) (by decide) (fun K hK=>?_) (fun K hK=>?_)
             ·skip
              refine Qga (w1:=?_) (v:=?_) (by rfl) rfl ?_ ?_;rotate_left 2
              ·go_simp
               constructor
               ·rfl
               ·rfl
              refine hK.out _ _ trivial (fun a=>?_);clear hK K;refine nzp_ 38 ?_;exact Qfw qq_1 (hJ3_4_11 (va_,vb_,p_) _ HQ.out)
             ·skip
              refine Qfy Tryz.func223 qq_6 rfl #[.pointer (some ⟨g,0,none⟩),.int .i64 v] (by rfl) rfl rfl qq_11 ?_;with_reducible refine(T2.out _ HQ.out.os1).mono ?_
              rintro ee wt_ ⟨vt_,rfl,hR_,hI_,hB_,hK_⟩;refine⟨_,rfl,?_⟩;refine hK.out _ _ trivial (fun a=>?_);clear hK K;refine nzp_ 42 ?_;exact Qfw qq_1 (hJ3_8_11 (va_,vt_,p_) _ (HQ.out.take2 hR_ hI_ hB_ hK_))
           ·skip
            rintro⟨va_,vb_,p_⟩ wn38_ HQ_;clear a HQ;have a:True:=trivial;have HQ:=QA HQ_;clear HQ_;have cva:=Qcw (P:=Tryz.prog) Tryz.underlying47 Tryz.underlying5 Tryz.underlying9 (Kd.own_of_R (HQ.out.2.1 rfl));have cvb:=Qcw (P:=Tryz.prog) Tryz.underlying47 Tryz.underlying5 Tryz.underlying9 (Kd.own_of_R (HQ.out.2.2.1 rfl));refine nza_ ?_;refine Qft (i:=4) (j:=9) (k:=11) (Ni:=some 38) (Nj:=some 43) (Nk:=some 5) (bm 13 511) (bm 13 1007) (bm 13 2543) rfl rfl rfl rfl rfl rfl qq_6 (by decide) (by decide) (by decide) (fun K hK=>?_) (fun K hK=>?_) (fun K hK=>?_)
            ·skip
             refine Qga (w1:=?_) (v:=?_) (by rfl) rfl ?_ ?_;rotate_left 2
             ·go_simp
              constructor
              ·rfl
              ·rfl
             refine hK.out _ _ trivial (fun a=>?_);clear hK K;refine nzp_ 38 ?_;exact Qfw qq_1 (hJ3_4_8 (va_,vb_,p_) _ HQ.out)
            ·skip
             refine Qga (w1:=?_) (v:=?_) (by rfl) rfl ?_ ?_;rotate_left 2
             ·go_simp
              constructor
              ·rfl
              ·rfl
             refine hK.out _ _ trivial (fun a=>?_);clear hK K;refine nzp_ 43 ?_;exact Qfw qq_1 (hJ3_8_9 (va_,vb_,p_) _ HQ.out)
            ·skip
             refine Qga (w1:=?_) (v:=?_) (by rfl) rfl ?_ ?_;rotate_left 2
             ·go_simp
              constructor
              ·rfl
              ·rfl
             refine hK.out _ _ trivial (fun a=>?_);clear hK K;refine nzp_ 5 ?_;exact Qfw qq_1 (hJ3_8_11 (va_,vb_,_) _ HQ.out.new)
          ·skip
           rintro⟨va_,vb_,p_⟩ wn34_ HQ_;clear a HQ;have a:True:=trivial;have HQ:=QA HQ_;clear HQ_;refine nza_ ?_;refine two_ (i:=8) (j:=11) (Ni:=some 42) (Nj:=some 5) (bm 13 511) (bm 13 2303) rfl rfl rfl rfl qq_6 (by decide) (by decide) (fun K hK=>?_) (fun K hK=>?_)
           ·skip
            refine Qfy Tryz.func223 qq_6 rfl #[.pointer (some ⟨g,0,none⟩),.int .i64 v] (by rfl) rfl rfl qq_11 ?_;with_reducible refine(T2.out _ HQ.out.os1).mono ?_
            rintro ee wt_ ⟨vt_,rfl,hR_,hI_,hB_,hK_⟩;refine⟨_,rfl,?_⟩;refine hK.out _ _ trivial (fun a=>?_);clear hK K;refine nzp_ 42 ?_;exact Qfw qq_1 (hJ3_4_8 (va_,vt_,p_) _ (HQ.out.take2 hR_ hI_ hB_ hK_))
           ·skip
            refine Qga (w1:=?_) (v:=?_) (by rfl) rfl ?_ ?_;rotate_left 2
            ·go_simp
             constructor
             ·rfl
             ·rfl
            refine hK.out _ _ trivial (fun a=>?_);clear hK K;refine nzp_ 5 ?_;exact Qfw qq_1 (hJ3_4_11 (va_,vb_,_) _ HQ.out.new)
         ·skip
          rintro⟨va_,vb_,p_⟩ wn3811_ HQ_;clear a HQ;have a:True:=trivial;have HQ:=QA HQ_;clear HQ_;have cva:=Qcw (P:=Tryz.prog) Tryz.underlying47 Tryz.underlying5 Tryz.underlying9 (Kd.own_of_R (HQ.out.2.1 rfl));have cvb:=Qcw (P:=Tryz.prog) Tryz.underlying47 Tryz.underlying5 Tryz.underlying9 (Kd.own_of_R (HQ.out.2.2.1 rfl));refine nza_ ?_;refine two_ (i:=4) (j:=9) (Ni:=some 38) (Nj:=some 43) (bm 13 2559) (bm 13 3055) rfl rfl rfl rfl qq_6 (by decide) (by decide) (fun K hK=>?_) (fun K hK=>?_)
          ·skip
           refine Qga (w1:=?_) (v:=?_) (by rfl) rfl ?_ ?_;rotate_left 2
           ·go_simp
            constructor
            ·rfl
            ·rfl
           refine hK.out _ _ trivial (fun a=>?_);clear hK K;refine nzp_ 38 ?_;exact Qfw qq_1 (hJ3_4_8_11 (va_,vb_,p_) _ HQ.out)
          ·skip
           refine Qga (w1:=?_) (v:=?_) (by rfl) rfl ?_ ?_;rotate_left 2
           ·go_simp
            constructor
            ·rfl
            ·rfl
           refine hK.out _ _ trivial (fun a=>?_);clear hK K;refine nzp_ 43 ?_;exact Qfw qq_1 (hJ3_8_9_11 (va_,vb_,p_) _ HQ.out)
        ·skip
         rintro⟨va_,vb_,p_⟩ wn389_ HQ_;clear a HQ;have a:True:=trivial;have HQ:=QA HQ_;clear HQ_;have cva:=Qcw (P:=Tryz.prog) Tryz.underlying47 Tryz.underlying5 Tryz.underlying9 (Kd.own_of_R (HQ.out.2.1 rfl));refine nza_ ?_;refine two_ (i:=4) (j:=11) (Ni:=some 38) (Nj:=some 5) (bm 13 1023) (bm 13 3055) rfl rfl rfl rfl qq_6 (by decide) (by decide) (fun K hK=>?_) (fun K hK=>?_)
         ·skip
          refine Qga (w1:=?_) (v:=?_) (by rfl) rfl ?_ ?_;rotate_left 2
          ·go_simp
           constructor
           ·rfl
           ·rfl
          refine hK.out _ _ trivial (fun a=>?_);clear hK K;refine nzp_ 38 ?_;refine pz_ (i:=10) (N:=some 44) (bm 13 2047) qq_6 ?_;exact Qfw qq_1 (hJ3_4_8_9 (va_,vb_,p_) _ HQ.out)
         ·skip
          refine Qga (w1:=?_) (v:=?_) (by rfl) rfl ?_ ?_;rotate_left 2
          ·go_simp
           constructor
           ·rfl
           ·rfl
          refine hK.out _ _ trivial (fun a=>?_);clear hK K;refine nzp_ 5 ?_;exact Qfw qq_1 (hJ3_8_9_11 (va_,vb_,_) _ HQ.out.new)
       ·skip
        rintro⟨va_,vb_,p_⟩ wn3411_ HQ_;clear a HQ;have a:True:=trivial;have HQ:=QA HQ_;clear HQ_;refine nza_ ?_;refine one_ (i:=8) (N:=some 42) (bm 13 2559) rfl rfl qq_6 (by decide) (fun K hK=>?_);refine Qfy Tryz.func223 qq_6 rfl #[.pointer (some ⟨g,0,none⟩),.int .i64 v] (by rfl) rfl rfl qq_11 ?_;with_reducible refine(T2.out _ HQ.out.os1).mono ?_
        rintro ee wt_ ⟨vt_,rfl,hR_,hI_,hB_,hK_⟩;refine⟨_,rfl,?_⟩;refine hK.out _ _ trivial (fun a=>?_);clear hK K;refine nzp_ 42 ?_;exact Qfw qq_1 (hJ3_4_8_11 (va_,vt_,p_) _ (HQ.out.take2 hR_ hI_ hB_ hK_))
      ·skip
       rintro⟨va_,vb_,p_⟩ wn348_ HQ_;clear a HQ;have a:True:=trivial;have HQ:=QA HQ_;clear HQ_;have cvb:=Qcw (P:=Tryz.prog) Tryz.underlying47 Tryz.underlying5 Tryz.underlying9 (Kd.own_of_R (HQ.out.2.2.1 rfl));refine nza_ ?_;refine two_ (i:=9) (j:=11) (Ni:=some 43) (Nj:=some 5) (bm 13 1023) (bm 13 2559) rfl rfl rfl rfl qq_6 (by decide) (by decide) (fun K hK=>?_) (fun K hK=>?_)
       ·skip
        refine Qga (w1:=?_) (v:=?_) (by rfl) rfl ?_ ?_;rotate_left 2
        ·go_simp
         constructor
         ·rfl
         ·rfl
        refine hK.out _ _ trivial (fun a=>?_);clear hK K;refine nzp_ 43 ?_;refine pz_ (i:=10) (N:=some 44) (bm 13 2047) qq_6 ?_;exact Qfw qq_1 (hJ3_4_8_9 (va_,vb_,p_) _ HQ.out)
       ·skip
        refine Qga (w1:=?_) (v:=?_) (by rfl) rfl ?_ ?_;rotate_left 2
        ·go_simp
         constructor
         ·rfl
         ·rfl
        refine hK.out _ _ trivial (fun a=>?_);clear hK K;refine nzp_ 5 ?_;exact Qfw qq_1 (hJ3_4_8_11 (va_,vb_,_) _ HQ.out.new)
     ·skip
      rintro⟨va_,vb_,p_⟩ wn38911_ HQ_;clear a HQ;have a:True:=trivial;have HQ:=QA HQ_;clear HQ_;have cva:=Qcw (P:=Tryz.prog) Tryz.underlying47 Tryz.underlying5 Tryz.underlying9 (Kd.own_of_R (HQ.out.2.1 rfl));refine nza_ ?_;refine one_ (i:=4) (N:=some 38) (bm 13 3071) rfl rfl qq_6 (by decide) (fun K hK=>?_);refine Qga (w1:=?_) (v:=?_) (by rfl) rfl ?_ ?_;rotate_left 2
      ·go_simp
       constructor
       ·rfl
       ·rfl
      refine hK.out _ _ trivial (fun a=>?_);clear hK K;refine nzp_ 38 ?_;refine pz_ (i:=10) (N:=some 44) (bm 13 4095) qq_6 ?_;exact Qfw qq_1 (hJ3_4_8_9_11 (va_,vb_,p_) _ HQ.out)
    ·skip
     rintro⟨va_,vb_,p_⟩ wn34811_ HQ_;clear a HQ;have a:True:=trivial;have HQ:=QA HQ_;clear HQ_;have cvb:=Qcw (P:=Tryz.prog) Tryz.underlying47 Tryz.underlying5 Tryz.underlying9 (Kd.own_of_R (HQ.out.2.2.1 rfl));refine nza_ ?_;refine one_ (i:=9) (N:=some 43) (bm 13 3071) rfl rfl qq_6 (by decide) (fun K hK=>?_);refine Qga (w1:=?_) (v:=?_) (by rfl) rfl ?_ ?_;rotate_left 2
     ·go_simp
      constructor
      ·rfl
      ·rfl
     refine hK.out _ _ trivial (fun a=>?_);clear hK K;refine nzp_ 43 ?_;refine pz_ (i:=10) (N:=some 44) (bm 13 4095) qq_6 ?_;exact Qfw qq_1 (hJ3_4_8_9_11 (va_,vb_,p_) _ HQ.out)
   ·skip
    rintro⟨va_,vb_,p_⟩ wn3489_ HQ_;clear a HQ;have a:True:=trivial;have HQ:=QA HQ_;clear HQ_;refine nza_ ?_;refine one_ (i:=11) (N:=some 5) (bm 13 4095) rfl rfl qq_6 (by decide) (fun K hK=>?_);refine Qga (w1:=?_) (v:=?_) (by rfl) rfl ?_ ?_;rotate_left 2
    ·go_simp
     constructor
     ·rfl
     ·rfl
    refine hK.out _ _ trivial (fun a=>?_);clear hK K;refine nzp_ 5 ?_;exact Qfw qq_1 (hJ3_4_8_9_11 (va_,vb_,_) _ HQ.out.new)
  rintro⟨va_,vb_,p_⟩ wn348911_ HQ_;clear a HQ;have a:True:=trivial;have HQ:=QA HQ_;clear HQ_;obtain⟨z0,z1,z2,z3⟩:=Qnz (HQ.out.2.2.2 rfl).1;refine nza_ ?_;refine one_ (i:=12) (N:=none) (bm 13 8191) rfl rfl qq_6 (by decide) (fun K hK=>?_);refine skip_ (w1:=?_) (by rfl) rfl ?_ ?_;rotate_left
  ·go_simp;rfl
  obtain⟨W10,hW10,b10,O10_⟩:=HQ.out.store HLO.out (.string (strOfNums xk)) (.string (strOfNums xv));rw[← hW10];have O10:=QA O10_;have BP:=QA b10;clear hW10 O10_ b10 z0 z1 z2 z3;refine hK.out _ _ trivial (fun a=>?_);clear hK K;refine Qfs qq_6 ?_;go_wp2
  go_meet
  case rel=>exact⟨_,rfl,BP.out,HII.out ▸ O10.out⟩
 case rest =>
  obtain⟨p,hv5,hbp,hO7⟩:=hcut;subst hv5;obtain⟨sk,hsk⟩:∃sk,sk=strOfNums xk:=⟨_,rfl⟩;obtain⟨sv,hsv⟩:∃sv,sv=strOfNums xv:=⟨_,rfl⟩;rw[← hsk,← hsv]at hbp;have HSZ:=QA (show sk.size+sv.size≤1000000000 by rw[hsk,hsv,strOfNums_size,strOfNums_size];exact HXL.out);have HZK:=QA (show sk.size≤1000000000 by have:=HSZ.out;omega);have HZV:=QA (show sv.size≤1000000000 by have:=HSZ.out;omega);have HP:=QA (Qdk hbp);have HBP:=QA hbp;have o:=QA hO7;have HSK:=QA (And.intro hsk hsv);clear hbp hO7 hsk hsv
  go_upto_region 9 with fail
  obtain⟨gB,hgB⟩:∃gB,gB=wc.heap.size:=⟨_,rfl⟩;obtain⟨wA,hwA⟩:∃wA,wA=wc.alloc (.cells #[.slice none 0 0] 207):=⟨_,rfl⟩;have HBA:=QA (show Below wc.heap.size wc wA by rw[hwA];exact Qcn (Below.refl _ _) _);have hQ0:Q9 wA wA.drew gB [] false false sk sv (0,0,0,0):=by
   rw[hwA,hgB];exact⟨(IsBuf.new wc wc.heap.size).kept (Qco (Below.refl _ _)),Bw.below (Qco (Below.refl _ _)) (Qcn (Below.refl wc.heap.size wc) _).size,(Qcn (Below.refl wc.heap.size wc) _).size,by simp,by simp⟩
  obtain⟨c0,c1,_,_⟩:=Qnz (Qdy HBP.out HBA.out);rw[← hgB]at HP;rw[← hwA,← hgB];have HGB:=QA hgB;have kbk:=fun W=>Qda (P:=Tryz.prog) 9 47 5 Tryz.underlying9 Tryz.underlying47 Tryz.underlying5 sk W
  have kbv:=fun W=>Qda (P:=Tryz.prog) 9 47 5 Tryz.underlying9 Tryz.underlying47 Tryz.underlying5 sv W
  have HQ:=QA hQ0;clear hQ0 hwA hgB;refine Qfp (n:=12) (S:=fun w'=>w'.cell? ⟨p,0,none⟩=some (.string sk)∧w'.cell? ⟨p,1,none⟩=some (.string sv)) (ds:=[]) (bm 12 0) qq_6 rfl rfl ⟨(Qcr (Qco (Below.refl _ _)) c0),(Qcr (Qco (Below.refl _ _)) c1)⟩ (fun a=>?_);refine pz_ (i:=0) (N:=some 45) (bm 12 1) qq_6 ?_;refine pz_ (i:=2) (N:=some 47) (bm 12 5) qq_6 ?_;refine pz_ (i:=4) (N:=some 49) (bm 12 21) qq_6 ?_;refine pz_ (i:=8) (N:=some 53) (bm 12 277) qq_6 ?_;refine tz_ (i:=5) (N:=some 50) (bm 12 309) qq_6 a ?_;refine tz_ (i:=9) (N:=some 54) (bm 12 821) qq_6 a ?_;refine Qfv (σ:=Nat × Nat × Nat × Nat) 1 (bm 12 2047) (fun s_=>[(46,.pointer (some ⟨gB,0,none⟩)),(48,.pointer (some ⟨gB,0,none⟩)),(51,.slice (some ⟨s_.1,0,none⟩) sk.size s_.2.1),(52,.pointer (some ⟨gB,0,none⟩)),(55,.slice (some ⟨s_.2.2.1,0,none⟩) sv.size s_.2.2.2)]) (fun s_ w'=>(w'.cell? ⟨p,0,none⟩=some (.string sk)∧w'.cell? ⟨p,1,none⟩=some (.string sv))∧Q9 wA w' gB (((([]:List Int)++leb k 4)++leb v 4)++bytesOf sk) true true sk sv s_) ?_ ?_;rotate_left
  ·intro hJ1_3_6_7_10;refine Qfv (σ:=Nat × Nat × Nat × Nat) 2 (bm 12 1023) (fun s_=>[(46,.pointer (some ⟨gB,0,none⟩)),(48,.pointer (some ⟨gB,0,none⟩)),(51,.slice (some ⟨s_.1,0,none⟩) sk.size s_.2.1),(52,.pointer (some ⟨gB,0,none⟩))]) (fun s_ w'=>(w'.cell? ⟨p,0,none⟩=some (.string sk)∧w'.cell? ⟨p,1,none⟩=some (.string sv))∧Q9 wA w' gB (((([]:List Int)++leb k 4)++leb v 4)++bytesOf sk) true false sk sv s_) ?_ ?_;rotate_left
   ·intro hJ1_3_6_7;refine Qfv (σ:=Nat × Nat × Nat × Nat) 2 (bm 12 1919) (fun s_=>[(46,.pointer (some ⟨gB,0,none⟩)),(48,.pointer (some ⟨gB,0,none⟩)),(51,.slice (some ⟨s_.1,0,none⟩) sk.size s_.2.1),(55,.slice (some ⟨s_.2.2.1,0,none⟩) sv.size s_.2.2.2)]) (fun s_ w'=>(w'.cell? ⟨p,0,none⟩=some (.string sk)∧w'.cell? ⟨p,1,none⟩=some (.string sv))∧Q9 wA w' gB ((([]:List Int)++leb k 4)++leb v 4) true true sk sv s_) ?_ ?_;rotate_left
    ·intro hJ1_3_6_10;refine Qfv (σ:=Nat × Nat × Nat × Nat) 3 (bm 12 895) (fun s_=>[(46,.pointer (some ⟨gB,0,none⟩)),(48,.pointer (some ⟨gB,0,none⟩)),(51,.slice (some ⟨s_.1,0,none⟩) sk.size s_.2.1)]) (fun s_ w'=>(w'.cell? ⟨p,0,none⟩=some (.string sk)∧w'.cell? ⟨p,1,none⟩=some (.string sv))∧Q9 wA w' gB ((([]:List Int)++leb k 4)++leb v 4) true false sk sv s_) ?_ ?_;rotate_left
     ·intro hJ1_3_6;refine Qfv (σ:=Nat × Nat × Nat × Nat) 3 (bm 12 1855) (fun s_=>[(46,.pointer (some ⟨gB,0,none⟩)),(48,.pointer (some ⟨gB,0,none⟩)),(55,.slice (some ⟨s_.2.2.1,0,none⟩) sv.size s_.2.2.2)]) (fun s_ w'=>(w'.cell? ⟨p,0,none⟩=some (.string sk)∧w'.cell? ⟨p,1,none⟩=some (.string sv))∧Q9 wA w' gB ((([]:List Int)++leb k 4)++leb v 4) false true sk sv s_) ?_ ?_;rotate_left
      ·intro hJ1_3_10;refine Qfv (σ:=Nat × Nat × Nat × Nat) 3 (bm 12 1911) (fun s_=>[(46,.pointer (some ⟨gB,0,none⟩)),(51,.slice (some ⟨s_.1,0,none⟩) sk.size s_.2.1),(55,.slice (some ⟨s_.2.2.1,0,none⟩) sv.size s_.2.2.2)]) (fun s_ w'=>(w'.cell? ⟨p,0,none⟩=some (.string sk)∧w'.cell? ⟨p,1,none⟩=some (.string sv))∧Q9 wA w' gB (([]:List Int)++leb k 4) true true sk sv s_) ?_ ?_;rotate_left
       ·intro hJ1_6_10;refine Qfv (σ:=Nat × Nat × Nat × Nat) 4 (bm 12 831) (fun s_=>[(46,.pointer (some ⟨gB,0,none⟩)),(48,.pointer (some ⟨gB,0,none⟩))]) (fun s_ w'=>(w'.cell? ⟨p,0,none⟩=some (.string sk)∧w'.cell? ⟨p,1,none⟩=some (.string sv))∧Q9 wA w' gB ((([]:List Int)++leb k 4)++leb v 4) false false sk sv s_) ?_ ?_;rotate_left
        ·intro hJ1_3;refine Qfv (σ:=Nat × Nat × Nat × Nat) 4 (bm 12 887) (fun s_=>[(46,.pointer (some ⟨gB,0,none⟩)),(51,.slice (some ⟨s_.1,0,none⟩) sk.size s_.2.1)]) (fun s_ w'=>(w'.cell? ⟨p,0,none⟩=some (.string sk)∧w'.cell? ⟨p,1,none⟩=some (.string sv))∧Q9 wA w' gB (([]:List Int)++leb k 4) true false sk sv s_) ?_ ?_;rotate_left
         ·intro hJ1_6;refine Qfv (σ:=Nat × Nat × Nat × Nat) 4 (bm 12 1847) (fun s_=>[(46,.pointer (some ⟨gB,0,none⟩)),(55,.slice (some ⟨s_.2.2.1,0,none⟩) sv.size s_.2.2.2)]) (fun s_ w'=>(w'.cell? ⟨p,0,none⟩=some (.string sk)∧w'.cell? ⟨p,1,none⟩=some (.string sv))∧Q9 wA w' gB (([]:List Int)++leb k 4) false true sk sv s_) ?_ ?_;rotate_left
          ·intro hJ1_10;refine Qfv (σ:=Nat × Nat × Nat × Nat) 4 (bm 12 1909) (fun s_=>[(51,.slice (some ⟨s_.1,0,none⟩) sk.size s_.2.1),(55,.slice (some ⟨s_.2.2.1,0,none⟩) sv.size s_.2.2.2)]) (fun s_ w'=>(w'.cell? ⟨p,0,none⟩=some (.string sk)∧w'.cell? ⟨p,1,none⟩=some (.string sv))∧Q9 wA w' gB ([]:List Int) true true sk sv s_) ?_ ?_;rotate_left
           ·intro hJ6_10;refine Qfv (σ:=Nat × Nat × Nat × Nat) 5 (bm 12 823) (fun s_=>[(46,.pointer (some ⟨gB,0,none⟩))]) (fun s_ w'=>(w'.cell? ⟨p,0,none⟩=some (.string sk)∧w'.cell? ⟨p,1,none⟩=some (.string sv))∧Q9 wA w' gB (([]:List Int)++leb k 4) false false sk sv s_) ?_ ?_;rotate_left
            ·intro hJ1;refine Qfv (σ:=Nat × Nat × Nat × Nat) 5 (bm 12 885) (fun s_=>[(51,.slice (some ⟨s_.1,0,none⟩) sk.size s_.2.1)]) (fun s_ w'=>(w'.cell? ⟨p,0,none⟩=some (.string sk)∧w'.cell? ⟨p,1,none⟩=some (.string sv))∧Q9 wA w' gB ([]:List Int) true false sk sv s_) ?_ ?_;rotate_left
             ·intro hJ6;refine Qfv (σ:=Nat × Nat × Nat × Nat) 5 (bm 12 1845) (fun s_=>[(55,.slice (some ⟨s_.2.2.1,0,none⟩) sv.size s_.2.2.2)]) (fun s_ w'=>(w'.cell? ⟨p,0,none⟩=some (.string sk)∧w'.cell? ⟨p,1,none⟩=some (.string sv))∧Q9 wA w' gB ([]:List Int) false true sk sv s_) ?_ ?_;rotate_left
              ·intro hJ10;refine Qft (i:=1) (j:=6) (k:=10) (Ni:=some 46) (Nj:=some 51) (Nk:=some 55) (bm 12 823) (bm 12 885) (bm 12 1845) rfl rfl rfl rfl rfl rfl qq_6 (by decide) (by decide) (by decide) (fun K hK=>?_) (fun K hK=>?_) (fun K hK=>?_)
               ·skip
                refine Qfy Tryz.func142 qq_6 rfl #[.pointer (some ⟨gB,0,none⟩),.int .u32 k] (by rfl) rfl rfl qq_11 ?_;with_reducible refine(Q9.goFour k HQ.out HKR.out.1 HKR.out.2 HSZ.out qq_25).mono ?_
                rintro ee wt_ ⟨rfl,hI_,hB_,hO_⟩;refine⟨_,rfl,?_⟩;refine hK.out _ _ ⟨(Qob hB_.1 HP.out a.1),(Qob hB_.1 HP.out a.2)⟩ (fun a=>?_);clear hK K;refine nzp_ 46 ?_;exact Qfw qq_1 (hJ1 (0,0,0,0) _ ⟨a,HQ.out.step hI_ hB_ hO_⟩)
               ·skip
                refine Qga (w1:=?_) (v:=?_) (by rfl) rfl ?_ ?_;rotate_left 2
                ·go_simp
                 constructor
                 ·rfl
                 ·rfl
                refine hK.out _ _ ⟨(Qcr (Qdc (Below.refl _ _) (Nat.le_refl _) 5 sk) a.1),(Qcr (Qdc (Below.refl _ _) (Nat.le_refl _) 5 sk) a.2)⟩ (fun a=>?_);clear hK K;refine nzp_ 51 ?_;exact Qfw qq_1 (hJ6 (_,_,0,0) _ ⟨a,HQ.out.new6⟩)
               ·skip
                refine Qga (w1:=?_) (v:=?_) (by rfl) rfl ?_ ?_;rotate_left 2
                ·go_simp
                 constructor
                 ·rfl
                 ·rfl
                refine hK.out _ _ ⟨(Qcr (Qdc (Below.refl _ _) (Nat.le_refl _) 5 sv) a.1),(Qcr (Qdc (Below.refl _ _) (Nat.le_refl _) 5 sv) a.2)⟩ (fun a=>?_);clear hK K;refine nzp_ 55 ?_;exact Qfw qq_1 (hJ10 (0,0,_,_) _ ⟨a,HQ.out.new10⟩)
              ·skip
               rintro⟨a_,ca_,b_,cb_⟩ wne_ ⟨hH_,HQ_⟩;clear a HQ;have a:=hH_;have HQ:=QA HQ_;clear HQ_ hH_;refine nza_ ?_;refine two_ (i:=1) (j:=6) (Ni:=some 46) (Nj:=some 51) (bm 12 1847) (bm 12 1909) rfl rfl rfl rfl qq_6 (by decide) (by decide) (fun K hK=>?_) (fun K hK=>?_)
               ·skip
                refine Qfy Tryz.func142 qq_6 rfl #[.pointer (some ⟨gB,0,none⟩),.int .u32 k] (by rfl) rfl rfl qq_11 ?_;with_reducible refine(Q9.goFour k HQ.out HKR.out.1 HKR.out.2 HSZ.out qq_25).mono ?_
                rintro ee wt_ ⟨rfl,hI_,hB_,hO_⟩;refine⟨_,rfl,?_⟩;refine hK.out _ _ ⟨(Qob hB_.1 HP.out a.1),(Qob hB_.1 HP.out a.2)⟩ (fun a=>?_);clear hK K;refine nzp_ 46 ?_;exact Qfw qq_1 (hJ1_10 (a_,ca_,b_,cb_) _ ⟨a,HQ.out.step hI_ hB_ hO_⟩)
               ·skip
                refine Qga (w1:=?_) (v:=?_) (by rfl) rfl ?_ ?_;rotate_left 2
                ·go_simp
                 constructor
                 ·rfl
                 ·rfl
                refine hK.out _ _ ⟨(Qcr (Qdc (Below.refl _ _) (Nat.le_refl _) 5 sk) a.1),(Qcr (Qdc (Below.refl _ _) (Nat.le_refl _) 5 sk) a.2)⟩ (fun a=>?_);clear hK K;refine nzp_ 51 ?_;exact Qfw qq_1 (hJ6_10 (_,_,b_,cb_) _ ⟨a,HQ.out.new6⟩)
             ·skip
              rintro⟨a_,ca_,b_,cb_⟩ wnc_ ⟨hH_,HQ_⟩;clear a HQ;have a:=hH_;have HQ:=QA HQ_;clear HQ_ hH_;refine nza_ ?_;refine two_ (i:=1) (j:=10) (Ni:=some 46) (Nj:=some 55) (bm 12 887) (bm 12 1909) rfl rfl rfl rfl qq_6 (by decide) (by decide) (fun K hK=>?_) (fun K hK=>?_)
              ·skip
               refine Qfy Tryz.func142 qq_6 rfl #[.pointer (some ⟨gB,0,none⟩),.int .u32 k] (by rfl) rfl rfl qq_11 ?_;with_reducible refine(Q9.goFour k HQ.out HKR.out.1 HKR.out.2 HSZ.out qq_25).mono ?_
               rintro ee wt_ ⟨rfl,hI_,hB_,hO_⟩;refine⟨_,rfl,?_⟩;refine hK.out _ _ ⟨(Qob hB_.1 HP.out a.1),(Qob hB_.1 HP.out a.2)⟩ (fun a=>?_);clear hK K;refine nzp_ 46 ?_;exact Qfw qq_1 (hJ1_6 (a_,ca_,b_,cb_) _ ⟨a,HQ.out.step hI_ hB_ hO_⟩)
              ·skip
               refine Qga (w1:=?_) (v:=?_) (by rfl) rfl ?_ ?_;rotate_left 2
               ·go_simp
                constructor
                ·rfl
                ·rfl
               refine hK.out _ _ ⟨(Qcr (Qdc (Below.refl _ _) (Nat.le_refl _) 5 sv) a.1),(Qcr (Qdc (Below.refl _ _) (Nat.le_refl _) 5 sv) a.2)⟩ (fun a=>?_);clear hK K;refine nzp_ 55 ?_;exact Qfw qq_1 (hJ6_10 (a_,ca_,_,_) _ ⟨a,HQ.out.new10⟩)
            ·skip
             rintro⟨a_,ca_,b_,cb_⟩ wna_ ⟨hH_,HQ_⟩;clear a HQ;have a:=hH_;have HQ:=QA HQ_;clear HQ_ hH_;refine nza_ ?_;refine Qft (i:=3) (j:=6) (k:=10) (Ni:=some 48) (Nj:=some 51) (Nk:=some 55) (bm 12 831) (bm 12 887) (bm 12 1847) rfl rfl rfl rfl rfl rfl qq_6 (by decide) (by decide) (by decide) (fun K hK=>?_) (fun K hK=>?_) (fun K hK=>?_)
             ·skip
              refine Qfy Tryz.func142 qq_6 rfl #[.pointer (some ⟨gB,0,none⟩),.int .u32 v] (by rfl) rfl rfl qq_11 ?_;with_reducible refine(Q9.goFour v HQ.out HVR.out.1 HVR.out.2 HSZ.out qq_25).mono ?_
              rintro ee wt_ ⟨rfl,hI_,hB_,hO_⟩;refine⟨_,rfl,?_⟩;refine hK.out _ _ ⟨(Qob hB_.1 HP.out a.1),(Qob hB_.1 HP.out a.2)⟩ (fun a=>?_);clear hK K;refine nzp_ 48 ?_;exact Qfw qq_1 (hJ1_3 (a_,ca_,b_,cb_) _ ⟨a,HQ.out.step hI_ hB_ hO_⟩)
             ·skip
              refine Qga (w1:=?_) (v:=?_) (by rfl) rfl ?_ ?_;rotate_left 2
              ·go_simp
               constructor
               ·rfl
               ·rfl
              refine hK.out _ _ ⟨(Qcr (Qdc (Below.refl _ _) (Nat.le_refl _) 5 sk) a.1),(Qcr (Qdc (Below.refl _ _) (Nat.le_refl _) 5 sk) a.2)⟩ (fun a=>?_);clear hK K;refine nzp_ 51 ?_;exact Qfw qq_1 (hJ1_6 (_,_,b_,cb_) _ ⟨a,HQ.out.new6⟩)
             ·skip
              refine Qga (w1:=?_) (v:=?_) (by rfl) rfl ?_ ?_;rotate_left 2
              ·go_simp
               constructor
               ·rfl
               ·rfl
              refine hK.out _ _ ⟨(Qcr (Qdc (Below.refl _ _) (Nat.le_refl _) 5 sv) a.1),(Qcr (Qdc (Below.refl _ _) (Nat.le_refl _) 5 sv) a.2)⟩ (fun a=>?_);clear hK K;refine nzp_ 55 ?_;exact Qfw qq_1 (hJ1_10 (a_,ca_,_,_) _ ⟨a,HQ.out.new10⟩)
           ·skip
            rintro⟨a_,ca_,b_,cb_⟩ wnce_ ⟨hH_,HQ_⟩;clear a HQ;have a:=hH_;have HQ:=QA HQ_;clear HQ_ hH_;refine nza_ ?_;refine one_ (i:=1) (N:=some 46) (bm 12 1911) rfl rfl qq_6 (by decide) (fun K hK=>?_);refine Qfy Tryz.func142 qq_6 rfl #[.pointer (some ⟨gB,0,none⟩),.int .u32 k] (by rfl) rfl rfl qq_11 ?_;with_reducible refine(Q9.goFour k HQ.out HKR.out.1 HKR.out.2 HSZ.out qq_25).mono ?_
            rintro ee wt_ ⟨rfl,hI_,hB_,hO_⟩;refine⟨_,rfl,?_⟩;refine hK.out _ _ ⟨(Qob hB_.1 HP.out a.1),(Qob hB_.1 HP.out a.2)⟩ (fun a=>?_);clear hK K;refine nzp_ 46 ?_;exact Qfw qq_1 (hJ1_6_10 (a_,ca_,b_,cb_) _ ⟨a,HQ.out.step hI_ hB_ hO_⟩)
          ·skip
           rintro⟨a_,ca_,b_,cb_⟩ wnae_ ⟨hH_,HQ_⟩;clear a HQ;have a:=hH_;have HQ:=QA HQ_;clear HQ_ hH_;refine nza_ ?_;refine two_ (i:=3) (j:=6) (Ni:=some 48) (Nj:=some 51) (bm 12 1855) (bm 12 1911) rfl rfl rfl rfl qq_6 (by decide) (by decide) (fun K hK=>?_) (fun K hK=>?_)
           ·skip
            refine Qfy Tryz.func142 qq_6 rfl #[.pointer (some ⟨gB,0,none⟩),.int .u32 v] (by rfl) rfl rfl qq_11 ?_;with_reducible refine(Q9.goFour v HQ.out HVR.out.1 HVR.out.2 HSZ.out qq_25).mono ?_
            rintro ee wt_ ⟨rfl,hI_,hB_,hO_⟩;refine⟨_,rfl,?_⟩;refine hK.out _ _ ⟨(Qob hB_.1 HP.out a.1),(Qob hB_.1 HP.out a.2)⟩ (fun a=>?_);clear hK K;refine nzp_ 48 ?_;exact Qfw qq_1 (hJ1_3_10 (a_,ca_,b_,cb_) _ ⟨a,HQ.out.step hI_ hB_ hO_⟩)
           ·skip
            refine Qga (w1:=?_) (v:=?_) (by rfl) rfl ?_ ?_;rotate_left 2
            ·go_simp
             constructor
             ·rfl
             ·rfl
            refine hK.out _ _ ⟨(Qcr (Qdc (Below.refl _ _) (Nat.le_refl _) 5 sk) a.1),(Qcr (Qdc (Below.refl _ _) (Nat.le_refl _) 5 sk) a.2)⟩ (fun a=>?_);clear hK K;refine nzp_ 51 ?_;exact Qfw qq_1 (hJ1_6_10 (_,_,b_,cb_) _ ⟨a,HQ.out.new6⟩)
         ·skip
          rintro⟨a_,ca_,b_,cb_⟩ wnac_ ⟨hH_,HQ_⟩;clear a HQ;have a:=hH_;have HQ:=QA HQ_;clear HQ_ hH_;refine nza_ ?_;refine two_ (i:=3) (j:=10) (Ni:=some 48) (Nj:=some 55) (bm 12 895) (bm 12 1911) rfl rfl rfl rfl qq_6 (by decide) (by decide) (fun K hK=>?_) (fun K hK=>?_)
          ·skip
           refine Qfy Tryz.func142 qq_6 rfl #[.pointer (some ⟨gB,0,none⟩),.int .u32 v] (by rfl) rfl rfl qq_11 ?_;with_reducible refine(Q9.goFour v HQ.out HVR.out.1 HVR.out.2 HSZ.out qq_25).mono ?_
           rintro ee wt_ ⟨rfl,hI_,hB_,hO_⟩;refine⟨_,rfl,?_⟩;refine hK.out _ _ ⟨(Qob hB_.1 HP.out a.1),(Qob hB_.1 HP.out a.2)⟩ (fun a=>?_);clear hK K;refine nzp_ 48 ?_;exact Qfw qq_1 (hJ1_3_6 (a_,ca_,b_,cb_) _ ⟨a,HQ.out.step hI_ hB_ hO_⟩)
          ·skip
           refine Qga (w1:=?_) (v:=?_) (by rfl) rfl ?_ ?_;rotate_left 2
           ·go_simp
            constructor
            ·rfl
            ·rfl
           refine hK.out _ _ ⟨(Qcr (Qdc (Below.refl _ _) (Nat.le_refl _) 5 sv) a.1),(Qcr (Qdc (Below.refl _ _) (Nat.le_refl _) 5 sv) a.2)⟩ (fun a=>?_);clear hK K;refine nzp_ 55 ?_;exact Qfw qq_1 (hJ1_6_10 (a_,ca_,_,_) _ ⟨a,HQ.out.new10⟩)
        ·skip
         rintro⟨a_,ca_,b_,cb_⟩ wnab_ ⟨hH_,HQ_⟩;clear a HQ;have a:=hH_;have HQ:=QA HQ_;clear HQ_ hH_;refine nza_ ?_;refine two_ (i:=6) (j:=10) (Ni:=some 51) (Nj:=some 55) (bm 12 895) (bm 12 1855) rfl rfl rfl rfl qq_6 (by decide) (by decide) (fun K hK=>?_) (fun K hK=>?_)
         ·skip
          refine Qga (w1:=?_) (v:=?_) (by rfl) rfl ?_ ?_;rotate_left 2
          ·go_simp
           constructor
           ·rfl
           ·rfl
          refine hK.out _ _ ⟨(Qcr (Qdc (Below.refl _ _) (Nat.le_refl _) 5 sk) a.1),(Qcr (Qdc (Below.refl _ _) (Nat.le_refl _) 5 sk) a.2)⟩ (fun a=>?_);clear hK K;refine nzp_ 51 ?_;exact Qfw qq_1 (hJ1_3_6 (_,_,b_,cb_) _ ⟨a,HQ.out.new6⟩)
         ·skip
          refine Qga (w1:=?_) (v:=?_) (by rfl) rfl ?_ ?_;rotate_left 2
          ·go_simp
           constructor
           ·rfl
           ·rfl
          refine hK.out _ _ ⟨(Qcr (Qdc (Below.refl _ _) (Nat.le_refl _) 5 sv) a.1),(Qcr (Qdc (Below.refl _ _) (Nat.le_refl _) 5 sv) a.2)⟩ (fun a=>?_);clear hK K;refine nzp_ 55 ?_;exact Qfw qq_1 (hJ1_3_10 (a_,ca_,_,_) _ ⟨a,HQ.out.new10⟩)
       ·skip
        rintro⟨a_,ca_,b_,cb_⟩ wnace_ ⟨hH_,HQ_⟩;clear a HQ;have a:=hH_;have HQ:=QA HQ_;clear HQ_ hH_;refine nza_ ?_;refine one_ (i:=3) (N:=some 48) (bm 12 1919) rfl rfl qq_6 (by decide) (fun K hK=>?_);refine Qfy Tryz.func142 qq_6 rfl #[.pointer (some ⟨gB,0,none⟩),.int .u32 v] (by rfl) rfl rfl qq_11 ?_;with_reducible refine(Q9.goFour v HQ.out HVR.out.1 HVR.out.2 HSZ.out qq_25).mono ?_
        rintro ee wt_ ⟨rfl,hI_,hB_,hO_⟩;refine⟨_,rfl,?_⟩;refine hK.out _ _ ⟨(Qob hB_.1 HP.out a.1),(Qob hB_.1 HP.out a.2)⟩ (fun a=>?_);clear hK K;refine nzp_ 48 ?_;exact Qfw qq_1 (hJ1_3_6_10 (a_,ca_,b_,cb_) _ ⟨a,HQ.out.step hI_ hB_ hO_⟩)
      ·skip
       rintro⟨a_,ca_,b_,cb_⟩ wnabe_ ⟨hH_,HQ_⟩;clear a HQ;have a:=hH_;have HQ:=QA HQ_;clear HQ_ hH_;refine nza_ ?_;refine one_ (i:=6) (N:=some 51) (bm 12 1919) rfl rfl qq_6 (by decide) (fun K hK=>?_);refine Qga (w1:=?_) (v:=?_) (by rfl) rfl ?_ ?_;rotate_left 2
       ·go_simp
        constructor
        ·rfl
        ·rfl
       refine hK.out _ _ ⟨(Qcr (Qdc (Below.refl _ _) (Nat.le_refl _) 5 sk) a.1),(Qcr (Qdc (Below.refl _ _) (Nat.le_refl _) 5 sk) a.2)⟩ (fun a=>?_);clear hK K;refine nzp_ 51 ?_;exact Qfw qq_1 (hJ1_3_6_10 (_,_,b_,cb_) _ ⟨a,HQ.out.new6⟩)
     ·skip
      rintro⟨a_,ca_,b_,cb_⟩ wnabc_ ⟨hH_,HQ_⟩;clear a HQ;have a:=hH_;have HQ:=QA HQ_;clear HQ_ hH_;refine nza_ ?_;refine two_ (i:=7) (j:=10) (Ni:=some 52) (Nj:=some 55) (bm 12 1023) (bm 12 1919) rfl rfl rfl rfl qq_6 (by decide) (by decide) (fun K hK=>?_) (fun K hK=>?_)
      ·skip
       refine Qfy Tryz.func117 qq_6 rfl #[.pointer (some ⟨gB,0,none⟩),.slice (some ⟨a_,0,none⟩) sk.size ca_] (by rfl) rfl rfl qq_11 ?_;with_reducible refine(Q9.goRaw ca_ HQ.out HQ.out.row6 HZK.out qq_22).mono ?_
       rintro ee wt_ ⟨rfl,hI_,hB_,hO_⟩;refine⟨_,rfl,?_⟩;refine hK.out _ _ ⟨(Qob hB_.1 HP.out a.1),(Qob hB_.1 HP.out a.2)⟩ (fun a=>?_);clear hK K;refine nzp_ 52 ?_;exact Qfw qq_1 (hJ1_3_6_7 (a_,ca_,b_,cb_) _ ⟨a,HQ.out.step hI_ hB_ hO_⟩)
      ·skip
       refine Qga (w1:=?_) (v:=?_) (by rfl) rfl ?_ ?_;rotate_left 2
       ·go_simp
        constructor
        ·rfl
        ·rfl
       refine hK.out _ _ ⟨(Qcr (Qdc (Below.refl _ _) (Nat.le_refl _) 5 sv) a.1),(Qcr (Qdc (Below.refl _ _) (Nat.le_refl _) 5 sv) a.2)⟩ (fun a=>?_);clear hK K;refine nzp_ 55 ?_;exact Qfw qq_1 (hJ1_3_6_10 (a_,ca_,_,_) _ ⟨a,HQ.out.new10⟩)
    ·skip
     rintro⟨a_,ca_,b_,cb_⟩ wnabce_ ⟨hH_,HQ_⟩;clear a HQ;have a:=hH_;have HQ:=QA HQ_;clear HQ_ hH_;refine nza_ ?_;refine one_ (i:=7) (N:=some 52) (bm 12 2047) rfl rfl qq_6 (by decide) (fun K hK=>?_);refine Qfy Tryz.func117 qq_6 rfl #[.pointer (some ⟨gB,0,none⟩),.slice (some ⟨a_,0,none⟩) sk.size ca_] (by rfl) rfl rfl qq_11 ?_;with_reducible refine(Q9.goRaw ca_ HQ.out HQ.out.row6 HZK.out qq_22).mono ?_
     rintro ee wt_ ⟨rfl,hI_,hB_,hO_⟩;refine⟨_,rfl,?_⟩;refine hK.out _ _ ⟨(Qob hB_.1 HP.out a.1),(Qob hB_.1 HP.out a.2)⟩ (fun a=>?_);clear hK K;refine nzp_ 52 ?_;exact Qfw qq_1 (hJ1_3_6_7_10 (a_,ca_,b_,cb_) _ ⟨a,HQ.out.step hI_ hB_ hO_⟩)
   ·skip
    rintro⟨a_,ca_,b_,cb_⟩ wnabcd_ ⟨hH_,HQ_⟩;clear a HQ;have a:=hH_;have HQ:=QA HQ_;clear HQ_ hH_;refine nza_ ?_;refine one_ (i:=10) (N:=some 55) (bm 12 2047) rfl rfl qq_6 (by decide) (fun K hK=>?_);refine Qga (w1:=?_) (v:=?_) (by rfl) rfl ?_ ?_;rotate_left 2
    ·go_simp
     constructor
     ·rfl
     ·rfl
    refine hK.out _ _ ⟨(Qcr (Qdc (Below.refl _ _) (Nat.le_refl _) 5 sv) a.1),(Qcr (Qdc (Below.refl _ _) (Nat.le_refl _) 5 sv) a.2)⟩ (fun a=>?_);clear hK K;refine nzp_ 55 ?_;exact Qfw qq_1 (hJ1_3_6_7_10 (a_,ca_,_,_) _ ⟨a,HQ.out.new10⟩)
  rintro⟨a_,ca_,b_,cb_⟩ wnabcde_ ⟨hH_,HQ_⟩;clear a HQ;have a:=hH_;have HQ:=QA HQ_;clear HQ_ hH_;refine nza_ ?_;refine one_ (i:=11) (N:=some 56) (bm 12 4095) rfl rfl qq_6 (by decide) (fun K hK=>?_);refine Qfy Tryz.func117 qq_6 rfl #[.pointer (some ⟨gB,0,none⟩),.slice (some ⟨b_,0,none⟩) sv.size cb_] (by rfl) rfl rfl qq_11 ?_;with_reducible refine(Q9.goRaw cb_ HQ.out HQ.out.row10 HZV.out qq_22).mono ?_
  rintro ee wt_ ⟨rfl,hI_,hB_,hO_⟩;refine⟨_,rfl,?_⟩;refine hK.out _ _ ⟨(Qob hB_.1 HP.out a.1),(Qob hB_.1 HP.out a.2)⟩ (fun a=>?_);clear hK K;refine nzp_ 56 ?_;refine Qfs qq_6 ?_;have hBW:Below wc.heap.size wc wt_:=HBA.out.trans (HGB.out ▸ (HQ.out.2.1.trans hB_).1);have OX:=QA (o.out.below hBW);have BX:=QA (Qdy HBP.out hBW);have IX:=QA hI_;have HYL:=QA (show(([]:List Int)++leb k 4++leb v 4++bytesOf sk++bytesOf sv).length≤140737488355328 by simp[Qin,Qcy];have:=HSZ.out;omega);obtain⟨ys,hys⟩:∃ys,ys=(([]:List Int)++leb k 4++leb v 4++bytesOf sk++bytesOf sv):=⟨_,rfl⟩;rw[← hys]at IX HYL;have HYS:=QA hys;clear hBW hI_ hB_ hO_ HQ a hys;obtain⟨ok,hok⟩:∃ok,ok=(Qmc 0 ys == x):=⟨_,rfl⟩;have HCK:=QA (show Qch.f 0 ys x=some ok by unfold Qch.f Qci.f;rw[if_pos HYL.out,hok];rfl);have HOK:=QA hok;clear hok
  cases ok with
  | false =>
   go_wp2_with (first
    |(go_at_call 220;have gate:=O12.out;clear gate;refine(Qld lo g bs ((i:Int)+4+4+k+v+4) 5 (by decide) _ O12.out.1).mono ?_;rintro ee q ⟨rfl,rfl⟩)
    |(go_at_call 224;have gate:=O11.out;clear gate;refine(Qch.calls 0 m c10 ys x _ _ c.out b HCK.out).mono ?_;rintro ee r ⟨rfl,hb12⟩;have O12:=QA (O11.out.below hb12);have B12:=QA (Qdy B11.out hb12);clear hb12;obtain⟨y0,y1,_,_⟩:=Qnz B12.out;obtain⟨z0,z1,z2,z3⟩:=Qnz O12.out.2.2.2)
    |(go_at_call 221;have gate:=O10.out;clear gate;refine(Qnt lo g bs ((i:Int)+4+4+k+v) x HX.out HB.out l.out.1 hll l.out.2 hlg _ O10.out.2.1 O10.out.1).mono ?_;rintro ee s ⟨rfl,hI11,hB11,hK11⟩;have B11:=QA (O10.out.far B10.out hB11);have O11:=QA (O10.out.cur hI11 hB11);have c:=QA (Kd.R_reads' (hK11 _ _ _ d.out)).2.2;clear hI11 hB11 hK11)
    |(go_at_call 118;refine(Qja gB gB ys _ IX.out HYL.out).mono ?_;rintro ee u ⟨vb,rfl,hRb,hb10⟩;obtain⟨m,c10,hvb,b,_⟩:=Kd.R_reads hRb;subst hvb;have d:=QA hRb;have O10:=QA (OX.out.below hb10);have B10:=QA (Qdy BX.out hb10);clear hRb hb10))
   have hne:Qmc 0 (leb k 4++leb v 4++bytesOf (strOfNums xk)++bytesOf (strOfNums xv))≠x:=by
    intro h;have h2:=HOK.out;rw[← HSK.out.1,← HSK.out.2]at h;rw[HYS.out,List.nil_append,h,beq_self_eq_true]at h2
    cases h2
   exact⟨rfl,O12.out.end_,.inr ⟨hne,rfl⟩⟩
  | true =>
   go_wp2_with (first
    |(go_at_call 220;have gate:=O12.out;clear gate;refine(Qld lo g bs ((i:Int)+4+4+k+v+4) 5 (by decide) _ O12.out.1).mono ?_;rintro ee q ⟨rfl,rfl⟩)
    |(go_at_call 224;have gate:=O11.out;clear gate;refine(Qch.calls 0 m c10 ys x _ _ c.out b HCK.out).mono ?_;rintro ee r ⟨rfl,hb12⟩;have O12:=QA (O11.out.below hb12);have B12:=QA (Qdy B11.out hb12);clear hb12;obtain⟨y0,y1,_,_⟩:=Qnz B12.out;obtain⟨z0,z1,z2,z3⟩:=Qnz O12.out.2.2.2)
    |(go_at_call 221;have gate:=O10.out;clear gate;refine(Qnt lo g bs ((i:Int)+4+4+k+v) x HX.out HB.out l.out.1 hll l.out.2 hlg _ O10.out.2.1 O10.out.1).mono ?_;rintro ee s ⟨rfl,hI11,hB11,hK11⟩;have B11:=QA (O10.out.far B10.out hB11);have O11:=QA (O10.out.cur hI11 hB11);have c:=QA (Kd.R_reads' (hK11 _ _ _ d.out)).2.2;clear hI11 hB11 hK11)
    |(go_at_call 118;refine(Qja gB gB ys _ IX.out HYL.out).mono ?_;rintro ee u ⟨vb,rfl,hRb,hb10⟩;obtain⟨m,c10,hvb,b,_⟩:=Kd.R_reads hRb;subst hvb;have d:=QA hRb;have O10:=QA (OX.out.below hb10);have B10:=QA (Qdy BX.out hb10);clear hRb hb10))
   have heq:Qmc 0 (leb k 4++leb v 4++bytesOf (strOfNums xk)++bytesOf (strOfNums xv))=x:=by
    have h2:=HOK.out;rw[HYS.out,List.nil_append,HSK.out.1,HSK.out.2]at h2;exact beq_iff_eq.1 h2.symm
   have r1:=Qdi (Qdi O12.out.2.2.2 0 (.string sk)) 1 (.string sv);refine bodyPost_ret (results_cell_row rfl _ _ w.heap.size 132 #[.string sk,.string sv] (0,0) _ rfl r1 Tryz.underlying132 rfl qq_6) rfl ?_;obtain⟨⟨vv,q1,q2⟩,q3,q4,q5⟩:=O12.out;have hrb:=Qdi q5 0 (.string sk);refine⟨⟨⟨vv,Qdj (Qdj q1 (p:=⟨w.heap.size,0,none⟩) (Qdo q1 q5 (by decide)) _) (p:=⟨w.heap.size,1,none⟩) (Qdo q1 q5 (by decide)) _,(q2.set q5 (by decide) 0 _).set hrb (by decide) 1 _⟩,⟨Qio (Qio q4.1 HLO.out) HLO.out,fun kk cs t g1 g2 g3=>?_⟩⟩,.inl ⟨heq,by rw[HSK.out.1,HSK.out.2]⟩⟩;have hk:=Qdk g1;exact Qdj (Qdj (q4.2 _ _ _ g1 g2 g3) (p:=⟨w.heap.size,0,none⟩) (by show kk≠w.heap.size;omega) _) (p:=⟨w.heap.size,1,none⟩) (by show kk≠w.heap.size;omega) _
end Go.Proofs.YtepkfjmjidjedaaGreat.C
end
