/- Merged texts. -/
import Derived.Test.YtnnofopfbeklbaaGreatML01
import Derived.WalkLawsBesides
import Derived.Recover
import Derived.Defers
import Derived.Test.YtnnofopfbeklbaaGreatML04
import Derived.Test.YtnnofopfbeklbaaGreatML05
import Derived.Test.YtnnofopfbeklbaaGreatML07
import Derived.Test.YtnnofopfbeklbaaGreatML08
import Derived.Test.YtnnofopfbeklbaaGreatML06
import Derived.Deep.RegionLaw
import Derived.Shelf.SlSortCmp.NoneTotal
import Derived.Shelf.SlicesQ.IndexFunc
import Derived.Shelf.SlicesE.Clone
import Derived.Ground.SlsfProg
import Derived.Ground.SlgfProg
import Derived.Ground.SlgnProg
import Derived.Shelf.SlGeneric
import Derived.Test.YtnnofopfbeklbaaGreatProg
import Derived.Test.YtnnofopfbeklbaaGreatML03
set_option linter.unusedVariables false
set_option linter.unusedSimpArgs false
set_option maxHeartbeats 8000000
set_option maxRecDepth 100000
section
namespace Go.Proofs.YtnnofopfbeklbaaGreat.C
open Go.RowKit Go.Proofs.YtnnofopfbeklbaaGreatW.PrintWords Go.Proofs.YtnnofopfbeklbaaGreatW.PrintLast Go.Proofs.YtnnofopfbeklbaaGreatW.PrintMore
theorem IsCur.far{W:World}{b g rb j:Nat}{bs:List Int}{i:Int}{u:Value}{cs:Array Value}(h:IsCur W b g bs i)(hr:W.heap[rb]? = some (.cells cs 39 (0,0))):IsCur (W.setCell ⟨rb,j,none⟩ u) b g bs i:=by
 obtain⟨v,h1,h2⟩:=h;exact⟨v,Qdt h1 (p:=⟨rb,j,none⟩) (Qdy h1 hr (by decide)) u,h2.set hr (by decide) j u⟩
def RS(w W:World)(rb lo g:Nat)(bs:List Int)(i:Int)(d:Bool)(q:Int)(a b:ByteArray):Prop :=
 IsCur W lo g bs i∧W.heap[rb]? = some (.cells #[.bool d,.int .u64 q,.string a,.string b] 39 (0,0))∧Below rb w W∧Tl lo g w W∧lo≤W.heap.size∧rb<lo
section
variable {w W W':World} {rb lo g:Nat} {bs:List Int} {i j q:Int} {d:Bool} {a b:ByteArray}
theorem RS.cur(h:RS w W rb lo g bs i d q a b)(hw:rb≤W.heap.size)(hI:IsCur W' lo g bs j)(hb:Bw lo g W W'):RS w W' rb lo g bs j d q a b :=
 ⟨hI,(hb.1.block rb h.2.2.2.2.2).trans h.2.1,h.2.2.1.trans (Qjp hb.1 (Nat.le_of_lt h.2.2.2.2.2)),fun k cs t h1 h2 h3 h4=>hb.2 _ _ _ (h.2.2.2.1 _ _ _ h1 h2 h3 h4) h3 h4,Nat.le_trans h.2.2.2.2.1 hb.size,h.2.2.2.2.2⟩
theorem RS.lt(h:RS w W rb lo g bs i d q a b):rb≤W.heap.size:=Nat.le_of_lt (Qdu h.2.1)
theorem RS.tl(h:RS w W rb lo g bs i d q a b)(n:Nat)(u:Value):Tl lo g w (W.setCell ⟨rb,n,none⟩ u):=fun k cs t h1 h2 h3 h4=>Qdt (h.2.2.2.1 _ _ _ h1 h2 h3 h4) (p:=⟨rb,n,none⟩) (by have:=h.2.2.2.2.2;show k≠rb;omega) u
theorem RS.size(h:RS w W rb lo g bs i d q a b)(n:Nat)(u:Value):lo≤(W.setCell ⟨rb,n,none⟩ u).heap.size:=by simpa [World.setCell]using h.2.2.2.2.1
theorem RS.sd(h:RS w W rb lo g bs i d q a b)(x:Bool):RS w (W.setCell ⟨rb,0,none⟩ (.bool x)) rb lo g bs i x q a b:=⟨h.1.far h.2.1,Qds h.2.1 0 _,Qjo h.2.2.1 (Nat.le_refl _),h.tl _ _,h.size _ _,h.2.2.2.2.2⟩
theorem RS.sq(h:RS w W rb lo g bs i d q a b)(x:Int):RS w (W.setCell ⟨rb,1,none⟩ (.int .u64 x)) rb lo g bs i d x a b:=⟨h.1.far h.2.1,Qds h.2.1 1 _,Qjo h.2.2.1 (Nat.le_refl _),h.tl _ _,h.size _ _,h.2.2.2.2.2⟩
theorem RS.sa(h:RS w W rb lo g bs i d q a b)(x:ByteArray):RS w (W.setCell ⟨rb,2,none⟩ (.string x)) rb lo g bs i d q x b:=⟨h.1.far h.2.1,Qds h.2.1 2 _,Qjo h.2.2.1 (Nat.le_refl _),h.tl _ _,h.size _ _,h.2.2.2.2.2⟩
theorem RS.sb(h:RS w W rb lo g bs i d q a b)(x:ByteArray):RS w (W.setCell ⟨rb,3,none⟩ (.string x)) rb lo g bs i d q a x:=⟨h.1.far h.2.1,Qds h.2.1 3 _,Qjo h.2.2.1 (Nat.le_refl _),h.tl _ _,h.size _ _,h.2.2.2.2.2⟩
theorem RS.cells(h:RS w W rb lo g bs i d q a b):(W.cell? ⟨rb,0,none⟩=some (.bool d)∧W.cell? ⟨rb,1,none⟩=some (.int .u64 q)∧W.cell? ⟨rb,2,none⟩=some (.string a)∧W.cell? ⟨rb,3,none⟩=some (.string b))∧(W.frozen? ⟨rb,0,none⟩=false∧W.frozen? ⟨rb,1,none⟩=false∧W.frozen? ⟨rb,2,none⟩=false∧W.frozen? ⟨rb,3,none⟩=false) :=
 ⟨⟨(Qdv h.2.1 0).trans rfl,(Qdv h.2.1 1).trans rfl,(Qdv h.2.1 2).trans rfl,(Qdv h.2.1 3).trans rfl⟩,Qdw h.2.1 0,Qdw h.2.1 1,Qdw h.2.1 2,Qdw h.2.1 3⟩
end
theorem Qqn(rb lo g:Nat)(bs:List Int)(hb:CodecP.Bytes bs)(hl:bs.length≤140737488355328)(hlg:lo≤g)(w:World)(hS:RS w w rb lo g bs 0 false 0 (⟨#[]⟩:ByteArray) (⟨#[]⟩:ByteArray))(h0:¬(0:Int)<(bs.length:Int)) :
  Calls Tryz.prog 173 #[.pointer (some ⟨g,0,none⟩),.pointer (some ⟨rb,0,none⟩)] w fun e W'=>e=.panicked [Qpc g 2]∧∃d q a b,RS w W' rb lo g bs 0 d q a b:=by
 have HS:=QA hS;have HB:=QA hb;have hu:=Tryz.underlying39;have dA:(0:Int)≤1∧(1:Int)≤4611686018427387904:=⟨by decide,by decide⟩;have dB:(0:Int)≤4096∧(4096:Int)≤4611686018427387904:=⟨by decide,by decide⟩;have dC:(0:Int)≤0∧(0:Int)≤4611686018427387904:=⟨by decide,by decide⟩;have dD:(0:Int)≤1048576∧(1048576:Int)≤4611686018427387904:=⟨by decide,by decide⟩;have DD:=QA (And.intro dA (And.intro dB (And.intro dC dD)));clear hS hb dA dB dC dD
 go_enter Tryz.func173,Tryz.ntmps173
 go_wp2_with (go_at_call 174;refine(Qpo lo g bs 0 ⟨Int.le_refl _,by omega⟩ hl (by omega) _ HS.out.2.2.2.2.1 HS.out.1).mono ?_;rintro ee w1 ⟨rfl,hI1,hB1⟩)
 exact⟨rfl,rfl,_,_,_,_,HS.out.cur HS.out.lt hI1 hB1⟩
theorem Qqo(rb lo g:Nat)(bs:List Int)(hb:CodecP.Bytes bs)(hl:bs.length≤140737488355328)(hlg:lo≤g)(w:World)(hS:RS w w rb lo g bs 0 false 0 (⟨#[]⟩:ByteArray) (⟨#[]⟩:ByteArray))(h0:(0:Int)<(bs.length:Int))(y:Int)(hy:y=YtnnofopfbeklbaaGreatW.PrintWords.rd bs 0)(h2:y≠2)(h3:y≠3) :
  Calls Tryz.prog 173 #[.pointer (some ⟨g,0,none⟩),.pointer (some ⟨rb,0,none⟩)] w fun e W'=>e=.panicked [Qpc g 4]∧∃d q a b,RS w W' rb lo g bs (0+1) d q a b:=by
 have HS:=QA hS;have HB:=QA hb;have hu:=Tryz.underlying39;have dA:(0:Int)≤1∧(1:Int)≤4611686018427387904:=⟨by decide,by decide⟩;have dB:(0:Int)≤4096∧(4096:Int)≤4611686018427387904:=⟨by decide,by decide⟩;have dC:(0:Int)≤0∧(0:Int)≤4611686018427387904:=⟨by decide,by decide⟩;have dD:(0:Int)≤1048576∧(1048576:Int)≤4611686018427387904:=⟨by decide,by decide⟩;have DD:=QA (And.intro dA (And.intro dB (And.intro dC dD)));clear hS hb dA dB dC dD;have hk2:(y != 2)=true:=bne_iff_ne.2 h2;have hk3:(y != 3)=true:=bne_iff_ne.2 h3;have HY:=QA hy;clear hy
 go_enter Tryz.func173,Tryz.ntmps173
 go_wp2_with (first
  |(go_at_call 174;refine(Qqh lo g bs 0 y HY.out HB.out (Int.le_refl _) hl h0 hlg _ HS.out.2.2.2.2.1 HS.out.1).mono ?_;rintro ee w1 ⟨rfl,hI1,hB1⟩;have S1:=QA (HS.out.cur HS.out.lt hI1 hB1);obtain⟨⟨c10,c,h,j⟩,f10,f11,f12,f13⟩:=S1.out.cells;have T1:=QA (S1.out.sd (y == 3)))
  |(go_at_call 175;refine(Qpe lo g bs (0+1) 4 (by decide) _ S1.out.1).mono ?_;rintro ee w2 ⟨rfl,rfl⟩))
 exact⟨rfl,rfl,_,_,_,_,S1.out⟩
theorem Qqp(rb lo g:Nat)(bs:List Int)(hb:CodecP.Bytes bs)(hl:bs.length≤140737488355328)(hlg:lo≤g)(w:World)(hS:RS w w rb lo g bs 0 false 0 (⟨#[]⟩:ByteArray) (⟨#[]⟩:ByteArray))(h0:(0:Int)<(bs.length:Int))(hy:(2:Int)=YtnnofopfbeklbaaGreatW.PrintWords.rd bs 0)(er i2:Int)(hvf:(Qqi bs 10 0 (0+1) 0).map (fun p=>(Value.int .u64 p.1,p.2))=.error (er,i2)) :
  Calls Tryz.prog 173 #[.pointer (some ⟨g,0,none⟩),.pointer (some ⟨rb,0,none⟩)] w fun e W'=>e=.panicked [Qpc g er]∧∃d q a b,RS w W' rb lo g bs i2 d q a b:=by
 have HS:=QA hS;have HB:=QA hb;have hu:=Tryz.underlying39;have dA:(0:Int)≤1∧(1:Int)≤4611686018427387904:=⟨by decide,by decide⟩;have dB:(0:Int)≤4096∧(4096:Int)≤4611686018427387904:=⟨by decide,by decide⟩;have dC:(0:Int)≤0∧(0:Int)≤4611686018427387904:=⟨by decide,by decide⟩;have dD:(0:Int)≤1048576∧(1048576:Int)≤4611686018427387904:=⟨by decide,by decide⟩;have DD:=QA (And.intro dA (And.intro dB (And.intro dC dD)));clear hS hb dA dB dC dD;have HY:=QA hy;clear hy;have HVF:=QA hvf;clear hvf
 go_enter Tryz.func173,Tryz.ntmps173
 go_wp2_with (first
  |(go_at_call 176;refine(Qqj lo g bs (0+1) HB.out ⟨by omega,by omega⟩ hl hlg _ PT1.out QT1.out (.error (er,i2)) HVF.out).mono ?_;rintro ee w2 ⟨rfl,hI2,hB2⟩)
  |(go_at_call 174;refine(Qqh lo g bs 0 2 HY.out HB.out (Int.le_refl _) hl h0 hlg _ HS.out.2.2.2.2.1 HS.out.1).mono ?_;rintro ee w1 ⟨rfl,hI1,hB1⟩;have S1:=QA (HS.out.cur HS.out.lt hI1 hB1);obtain⟨⟨c10,c,h,j⟩,f10,f11,f12,f13⟩:=S1.out.cells;have T1:=QA (S1.out.sd false);have PT1:=QA T1.out.2.2.2.2.1;have QT1:=QA T1.out.1))
 exact⟨rfl,rfl,_,_,_,_,T1.out.cur T1.out.lt hI2 hB2⟩
theorem Qqq(rb lo g:Nat)(bs:List Int)(hb:CodecP.Bytes bs)(hl:bs.length≤140737488355328)(hlg:lo≤g)(w:World)(hS:RS w w rb lo g bs 0 false 0 (⟨#[]⟩:ByteArray) (⟨#[]⟩:ByteArray))(h0:(0:Int)<(bs.length:Int))(hy:(2:Int)=YtnnofopfbeklbaaGreatW.PrintWords.rd bs 0)(q i2:Int)(hv2:(Qqi bs 10 0 (0+1) 0).map (fun p=>(Value.int .u64 p.1,p.2))=.ok (.int .u64 q,i2))(hi2:0≤i2∧i2≤(bs.length:Int))(er i3:Int)(hvf:(Qql bs 1 4096 i2).map (fun p=>(Value.string (strOfNums p.1),p.2))=.error (er,i3)) :
  Calls Tryz.prog 173 #[.pointer (some ⟨g,0,none⟩),.pointer (some ⟨rb,0,none⟩)] w fun e W'=>e=.panicked [Qpc g er]∧∃d q a b,RS w W' rb lo g bs i3 d q a b:=by
 have HS:=QA hS;have HB:=QA hb;have hu:=Tryz.underlying39;have dA:(0:Int)≤1∧(1:Int)≤4611686018427387904:=⟨by decide,by decide⟩;have dB:(0:Int)≤4096∧(4096:Int)≤4611686018427387904:=⟨by decide,by decide⟩;have dC:(0:Int)≤0∧(0:Int)≤4611686018427387904:=⟨by decide,by decide⟩;have dD:(0:Int)≤1048576∧(1048576:Int)≤4611686018427387904:=⟨by decide,by decide⟩;have DD:=QA (And.intro dA (And.intro dB (And.intro dC dD)));clear hS hb dA dB dC dD;have HY:=QA hy;clear hy;have HV2:=QA hv2;clear hv2;have HVF:=QA hvf;clear hvf
 go_enter Tryz.func173,Tryz.ntmps173
 go_wp2_with (first
  |(go_at_call 177;have dA:=DD.out.1;have dB:=DD.out.2.1;have dC:=DD.out.2.2.1;have dD:=DD.out.2.2.2;refine(Qqm lo g bs i2 1 4096 dA dB HB.out hi2 hl hlg _ PT2.out QT2.out (.error (er,i3)) HVF.out).mono ?_;rintro ee w3 ⟨rfl,hI3,hB3⟩)
  |(go_at_call 176;refine(Qqj lo g bs (0+1) HB.out ⟨by omega,by omega⟩ hl hlg _ PT1.out QT1.out (.ok (.int .u64 q,i2)) HV2.out).mono ?_;rintro ee w2 ⟨rfl,hI2,hB2⟩;have S2:=QA (T1.out.cur T1.out.lt hI2 hB2);obtain⟨⟨c,h,j,k⟩,f20,f21,f22,f23⟩:=S2.out.cells;have T2:=QA (S2.out.sq q);have PT2:=QA T2.out.2.2.2.2.1;have QT2:=QA T2.out.1)
  |(go_at_call 174;refine(Qqh lo g bs 0 2 HY.out HB.out (Int.le_refl _) hl h0 hlg _ HS.out.2.2.2.2.1 HS.out.1).mono ?_;rintro ee w1 ⟨rfl,hI1,hB1⟩;have S1:=QA (HS.out.cur HS.out.lt hI1 hB1);obtain⟨⟨c10,l,m,n⟩,f10,f11,f12,f13⟩:=S1.out.cells;have T1:=QA (S1.out.sd false);have PT1:=QA T1.out.2.2.2.2.1;have QT1:=QA T1.out.1))
 exact⟨rfl,rfl,_,_,_,_,T2.out.cur T2.out.lt hI3 hB3⟩
theorem Qqr(rb lo g:Nat)(bs:List Int)(hb:CodecP.Bytes bs)(hl:bs.length≤140737488355328)(hlg:lo≤g)(w:World)(hS:RS w w rb lo g bs 0 false 0 (⟨#[]⟩:ByteArray) (⟨#[]⟩:ByteArray))(h0:(0:Int)<(bs.length:Int))(hy:(2:Int)=YtnnofopfbeklbaaGreatW.PrintWords.rd bs 0)(q i2:Int)(hv2:(Qqi bs 10 0 (0+1) 0).map (fun p=>(Value.int .u64 p.1,p.2))=.ok (.int .u64 q,i2))(hi2:0≤i2∧i2≤(bs.length:Int))(a:List Int)(i3:Int)(hv3:(Qql bs 1 4096 i2).map (fun p=>(Value.string (strOfNums p.1),p.2))=.ok (.string (strOfNums a),i3))(hi3:0≤i3∧i3≤(bs.length:Int))(er i4:Int)(hvf:(Qql bs 0 1048576 i3).map (fun p=>(Value.string (strOfNums p.1),p.2))=.error (er,i4)) :
  Calls Tryz.prog 173 #[.pointer (some ⟨g,0,none⟩),.pointer (some ⟨rb,0,none⟩)] w fun e W'=>e=.panicked [Qpc g er]∧∃d q a b,RS w W' rb lo g bs i4 d q a b:=by
 have HS:=QA hS;have HB:=QA hb;have hu:=Tryz.underlying39;have dA:(0:Int)≤1∧(1:Int)≤4611686018427387904:=⟨by decide,by decide⟩;have dB:(0:Int)≤4096∧(4096:Int)≤4611686018427387904:=⟨by decide,by decide⟩;have dC:(0:Int)≤0∧(0:Int)≤4611686018427387904:=⟨by decide,by decide⟩;have dD:(0:Int)≤1048576∧(1048576:Int)≤4611686018427387904:=⟨by decide,by decide⟩;have DD:=QA (And.intro dA (And.intro dB (And.intro dC dD)));clear hS hb dA dB dC dD;have HY:=QA hy;clear hy;have HV2:=QA hv2;clear hv2;have HV3:=QA hv3;clear hv3;have HVF:=QA hvf;clear hvf
 go_enter Tryz.func173,Tryz.ntmps173
 go_wp2_with (first
  |(go_at_call 177;have dA:=DD.out.1;have dB:=DD.out.2.1;have dC:=DD.out.2.2.1;have dD:=DD.out.2.2.2;refine(Qqm lo g bs i3 0 1048576 dC dD HB.out hi3 hl hlg _ PT3.out QT3.out (.error (er,i4)) HVF.out).mono ?_;rintro ee w4 ⟨rfl,hI4,hB4⟩)
  |(go_at_call 177;have dA:=DD.out.1;have dB:=DD.out.2.1;have dC:=DD.out.2.2.1;have dD:=DD.out.2.2.2;refine(Qqm lo g bs i2 1 4096 dA dB HB.out hi2 hl hlg _ PT2.out QT2.out (.ok (.string (strOfNums a),i3)) HV3.out).mono ?_;rintro ee w3 ⟨rfl,hI3,hB3⟩;have S3:=QA (T2.out.cur T2.out.lt hI3 hB3);obtain⟨⟨c,h,j,k⟩,f30,f31,f32,f33⟩:=S3.out.cells;have T3:=QA (S3.out.sa (strOfNums a));have PT3:=QA T3.out.2.2.2.2.1;have QT3:=QA T3.out.1;obtain⟨⟨t0,t1,t2,t3⟩,_⟩:=T3.out.cells)
  |(go_at_call 176;refine(Qqj lo g bs (0+1) HB.out ⟨by omega,by omega⟩ hl hlg _ PT1.out QT1.out (.ok (.int .u64 q,i2)) HV2.out).mono ?_;rintro ee w2 ⟨rfl,hI2,hB2⟩;have S2:=QA (T1.out.cur T1.out.lt hI2 hB2);obtain⟨⟨l,m,n,o⟩,f20,f21,f22,f23⟩:=S2.out.cells;have T2:=QA (S2.out.sq q);have PT2:=QA T2.out.2.2.2.2.1;have QT2:=QA T2.out.1)
  |(go_at_call 174;refine(Qqh lo g bs 0 2 HY.out HB.out (Int.le_refl _) hl h0 hlg _ HS.out.2.2.2.2.1 HS.out.1).mono ?_;rintro ee w1 ⟨rfl,hI1,hB1⟩;have S1:=QA (HS.out.cur HS.out.lt hI1 hB1);obtain⟨⟨c10,r,s,t⟩,f10,f11,f12,f13⟩:=S1.out.cells;have T1:=QA (S1.out.sd false);have PT1:=QA T1.out.2.2.2.2.1;have QT1:=QA T1.out.1))
 exact⟨rfl,rfl,_,_,_,_,T3.out.cur T3.out.lt hI4 hB4⟩
theorem Qqs(rb lo g:Nat)(bs:List Int)(hb:CodecP.Bytes bs)(hl:bs.length≤140737488355328)(hlg:lo≤g)(w:World)(hS:RS w w rb lo g bs 0 false 0 (⟨#[]⟩:ByteArray) (⟨#[]⟩:ByteArray))(h0:(0:Int)<(bs.length:Int))(hy:(2:Int)=YtnnofopfbeklbaaGreatW.PrintWords.rd bs 0)(q i2:Int)(hv2:(Qqi bs 10 0 (0+1) 0).map (fun p=>(Value.int .u64 p.1,p.2))=.ok (.int .u64 q,i2))(hi2:0≤i2∧i2≤(bs.length:Int))(a:List Int)(i3:Int)(hv3:(Qql bs 1 4096 i2).map (fun p=>(Value.string (strOfNums p.1),p.2))=.ok (.string (strOfNums a),i3))(hi3:0≤i3∧i3≤(bs.length:Int))(v:List Int)(i4:Int)(hv4:(Qql bs 0 1048576 i3).map (fun p=>(Value.string (strOfNums p.1),p.2))=.ok (.string (strOfNums v),i4))(hi4:0≤i4∧i4≤(bs.length:Int))(hlt:0<(bs.length:Int)-i4) :
  Calls Tryz.prog 173 #[.pointer (some ⟨g,0,none⟩),.pointer (some ⟨rb,0,none⟩)] w fun e W'=>e=.panicked [Qpc g 3]∧∃d q a b,RS w W' rb lo g bs i4 d q a b:=by
 have HS:=QA hS;have HB:=QA hb;have hu:=Tryz.underlying39;have dA:(0:Int)≤1∧(1:Int)≤4611686018427387904:=⟨by decide,by decide⟩;have dB:(0:Int)≤4096∧(4096:Int)≤4611686018427387904:=⟨by decide,by decide⟩;have dC:(0:Int)≤0∧(0:Int)≤4611686018427387904:=⟨by decide,by decide⟩;have dD:(0:Int)≤1048576∧(1048576:Int)≤4611686018427387904:=⟨by decide,by decide⟩;have DD:=QA (And.intro dA (And.intro dB (And.intro dC dD)));clear hS hb dA dB dC dD;have HY:=QA hy;clear hy;have HV2:=QA hv2;clear hv2;have HV3:=QA hv3;clear hv3;have HV4:=QA hv4;clear hv4
 go_enter Tryz.func173,Tryz.ntmps173
 go_wp2_with (first
  |(go_at_call 178;refine(Qps lo g bs i4 hi4 hl hlt _ PT4.out QT4.out).mono ?_;rintro ee w5 ⟨rfl,hI5,hB5⟩)
  |(go_at_call 177;have dA:=DD.out.1;have dB:=DD.out.2.1;have dC:=DD.out.2.2.1;have dD:=DD.out.2.2.2;refine(Qqm lo g bs i3 0 1048576 dC dD HB.out hi3 hl hlg _ PT3.out QT3.out (.ok (.string (strOfNums v),i4)) HV4.out).mono ?_;rintro ee w4 ⟨rfl,hI4,hB4⟩;have S4:=QA (T3.out.cur T3.out.lt hI4 hB4);obtain⟨⟨c,h,j,k⟩,f40,f41,f42,f43⟩:=S4.out.cells;have T4:=QA (S4.out.sb (strOfNums v));have PT4:=QA T4.out.2.2.2.2.1;have QT4:=QA T4.out.1)
  |(go_at_call 177;have dA:=DD.out.1;have dB:=DD.out.2.1;have dC:=DD.out.2.2.1;have dD:=DD.out.2.2.2;refine(Qqm lo g bs i2 1 4096 dA dB HB.out hi2 hl hlg _ PT2.out QT2.out (.ok (.string (strOfNums a),i3)) HV3.out).mono ?_;rintro ee w3 ⟨rfl,hI3,hB3⟩;have S3:=QA (T2.out.cur T2.out.lt hI3 hB3);obtain⟨⟨l,m,n,o⟩,f30,f31,f32,f33⟩:=S3.out.cells;have T3:=QA (S3.out.sa (strOfNums a));have PT3:=QA T3.out.2.2.2.2.1;have QT3:=QA T3.out.1;obtain⟨⟨t0,t1,t2,t3⟩,_⟩:=T3.out.cells)
  |(go_at_call 176;refine(Qqj lo g bs (0+1) HB.out ⟨by omega,by omega⟩ hl hlg _ PT1.out QT1.out (.ok (.int .u64 q,i2)) HV2.out).mono ?_;rintro ee w2 ⟨rfl,hI2,hB2⟩;have S2:=QA (T1.out.cur T1.out.lt hI2 hB2);obtain⟨⟨r,s,t,u⟩,f20,f21,f22,f23⟩:=S2.out.cells;have T2:=QA (S2.out.sq q);have PT2:=QA T2.out.2.2.2.2.1;have QT2:=QA T2.out.1)
  |(go_at_call 174;refine(Qqh lo g bs 0 2 HY.out HB.out (Int.le_refl _) hl h0 hlg _ HS.out.2.2.2.2.1 HS.out.1).mono ?_;rintro ee w1 ⟨rfl,hI1,hB1⟩;have S1:=QA (HS.out.cur HS.out.lt hI1 hB1);obtain⟨⟨c10,x,y,z⟩,f10,f11,f12,f13⟩:=S1.out.cells;have T1:=QA (S1.out.sd false);have PT1:=QA T1.out.2.2.2.2.1;have QT1:=QA T1.out.1))
 exact⟨rfl,rfl,_,_,_,_,T4.out.cur T4.out.lt hI5 hB5⟩
theorem rec_ok2(rb lo g:Nat)(bs:List Int)(hb:CodecP.Bytes bs)(hl:bs.length≤140737488355328)(hlg:lo≤g)(w:World)(hS:RS w w rb lo g bs 0 false 0 (⟨#[]⟩:ByteArray) (⟨#[]⟩:ByteArray))(h0:(0:Int)<(bs.length:Int))(hy:(2:Int)=YtnnofopfbeklbaaGreatW.PrintWords.rd bs 0)(q i2:Int)(hv2:(Qqi bs 10 0 (0+1) 0).map (fun p=>(Value.int .u64 p.1,p.2))=.ok (.int .u64 q,i2))(hi2:0≤i2∧i2≤(bs.length:Int))(a:List Int)(i3:Int)(hv3:(Qql bs 1 4096 i2).map (fun p=>(Value.string (strOfNums p.1),p.2))=.ok (.string (strOfNums a),i3))(hi3:0≤i3∧i3≤(bs.length:Int))(v:List Int)(i4:Int)(hv4:(Qql bs 0 1048576 i3).map (fun p=>(Value.string (strOfNums p.1),p.2))=.ok (.string (strOfNums v),i4))(hi4:0≤i4∧i4≤(bs.length:Int))(hle:(bs.length:Int)-i4≤0) :
  Calls Tryz.prog 173 #[.pointer (some ⟨g,0,none⟩),.pointer (some ⟨rb,0,none⟩)] w fun e W'=>e=.returned (.tuple #[])∧RS w W' rb lo g bs i4 false q (strOfNums a) (strOfNums v):=by
 have HS:=QA hS;have HB:=QA hb;have hu:=Tryz.underlying39;have dA:(0:Int)≤1∧(1:Int)≤4611686018427387904:=⟨by decide,by decide⟩;have dB:(0:Int)≤4096∧(4096:Int)≤4611686018427387904:=⟨by decide,by decide⟩;have dC:(0:Int)≤0∧(0:Int)≤4611686018427387904:=⟨by decide,by decide⟩;have dD:(0:Int)≤1048576∧(1048576:Int)≤4611686018427387904:=⟨by decide,by decide⟩;have DD:=QA (And.intro dA (And.intro dB (And.intro dC dD)));clear hS hb dA dB dC dD;have HY:=QA hy;clear hy;have HV2:=QA hv2;clear hv2;have HV3:=QA hv3;clear hv3;have HV4:=QA hv4;clear hv4
 go_enter Tryz.func173,Tryz.ntmps173
 go_wp2_with (first
  |(go_at_call 178;refine(Qpr lo g bs i4 hi4 hl hle _ PT4.out QT4.out).mono ?_;rintro ee w5 ⟨rfl,hI5,hB5⟩)
  |(go_at_call 177;have dA:=DD.out.1;have dB:=DD.out.2.1;have dC:=DD.out.2.2.1;have dD:=DD.out.2.2.2;refine(Qqm lo g bs i3 0 1048576 dC dD HB.out hi3 hl hlg _ PT3.out QT3.out (.ok (.string (strOfNums v),i4)) HV4.out).mono ?_;rintro ee w4 ⟨rfl,hI4,hB4⟩;have S4:=QA (T3.out.cur T3.out.lt hI4 hB4);obtain⟨⟨b,c,d,h⟩,f40,f41,f42,f43⟩:=S4.out.cells;have T4:=QA (S4.out.sb (strOfNums v));have PT4:=QA T4.out.2.2.2.2.1;have QT4:=QA T4.out.1)
  |(go_at_call 177;have dA:=DD.out.1;have dB:=DD.out.2.1;have dC:=DD.out.2.2.1;have dD:=DD.out.2.2.2;refine(Qqm lo g bs i2 1 4096 dA dB HB.out hi2 hl hlg _ PT2.out QT2.out (.ok (.string (strOfNums a),i3)) HV3.out).mono ?_;rintro ee w3 ⟨rfl,hI3,hB3⟩;have S3:=QA (T2.out.cur T2.out.lt hI3 hB3);obtain⟨⟨j,k,l,m⟩,f30,f31,f32,f33⟩:=S3.out.cells;have T3:=QA (S3.out.sa (strOfNums a));have PT3:=QA T3.out.2.2.2.2.1;have QT3:=QA T3.out.1;obtain⟨⟨t0,t1,t2,t3⟩,_⟩:=T3.out.cells)
  |(go_at_call 176;refine(Qqj lo g bs (0+1) HB.out ⟨by omega,by omega⟩ hl hlg _ PT1.out QT1.out (.ok (.int .u64 q,i2)) HV2.out).mono ?_;rintro ee w2 ⟨rfl,hI2,hB2⟩;have S2:=QA (T1.out.cur T1.out.lt hI2 hB2);obtain⟨⟨n,o,r,s⟩,f20,f21,f22,f23⟩:=S2.out.cells;have T2:=QA (S2.out.sq q);have PT2:=QA T2.out.2.2.2.2.1;have QT2:=QA T2.out.1)
  |(go_at_call 174;refine(Qqh lo g bs 0 2 HY.out HB.out (Int.le_refl _) hl h0 hlg _ HS.out.2.2.2.2.1 HS.out.1).mono ?_;rintro ee w1 ⟨rfl,hI1,hB1⟩;have S1:=QA (HS.out.cur HS.out.lt hI1 hB1);obtain⟨⟨c10,t,u,x⟩,f10,f11,f12,f13⟩:=S1.out.cells;have T1:=QA (S1.out.sd false);have PT1:=QA T1.out.2.2.2.2.1;have QT1:=QA T1.out.1))
 go_end0
 exact⟨rfl,T4.out.cur T4.out.lt hI5 hB5⟩
theorem Qqt(rb lo g:Nat)(bs:List Int)(hb:CodecP.Bytes bs)(hl:bs.length≤140737488355328)(hlg:lo≤g)(w:World)(hS:RS w w rb lo g bs 0 false 0 (⟨#[]⟩:ByteArray) (⟨#[]⟩:ByteArray))(h0:(0:Int)<(bs.length:Int))(hy:(3:Int)=YtnnofopfbeklbaaGreatW.PrintWords.rd bs 0)(er i2:Int)(hvf:(Qqi bs 10 0 (0+1) 0).map (fun p=>(Value.int .u64 p.1,p.2))=.error (er,i2)) :
  Calls Tryz.prog 173 #[.pointer (some ⟨g,0,none⟩),.pointer (some ⟨rb,0,none⟩)] w fun e W'=>e=.panicked [Qpc g er]∧∃d q a b,RS w W' rb lo g bs i2 d q a b:=by
 have HS:=QA hS;have HB:=QA hb;have hu:=Tryz.underlying39;have dA:(0:Int)≤1∧(1:Int)≤4611686018427387904:=⟨by decide,by decide⟩;have dB:(0:Int)≤4096∧(4096:Int)≤4611686018427387904:=⟨by decide,by decide⟩;have dC:(0:Int)≤0∧(0:Int)≤4611686018427387904:=⟨by decide,by decide⟩;have dD:(0:Int)≤1048576∧(1048576:Int)≤4611686018427387904:=⟨by decide,by decide⟩;have DD:=QA (And.intro dA (And.intro dB (And.intro dC dD)));clear hS hb dA dB dC dD;have HY:=QA hy;clear hy;have HVF:=QA hvf;clear hvf
 go_enter Tryz.func173,Tryz.ntmps173
 go_wp2_with (first
  |(go_at_call 176;refine(Qqj lo g bs (0+1) HB.out ⟨by omega,by omega⟩ hl hlg _ PT1.out QT1.out (.error (er,i2)) HVF.out).mono ?_;rintro ee w2 ⟨rfl,hI2,hB2⟩)
  |(go_at_call 174;refine(Qqh lo g bs 0 3 HY.out HB.out (Int.le_refl _) hl h0 hlg _ HS.out.2.2.2.2.1 HS.out.1).mono ?_;rintro ee w1 ⟨rfl,hI1,hB1⟩;have S1:=QA (HS.out.cur HS.out.lt hI1 hB1);obtain⟨⟨c10,c,h,j⟩,f10,f11,f12,f13⟩:=S1.out.cells;have T1:=QA (S1.out.sd true);have PT1:=QA T1.out.2.2.2.2.1;have QT1:=QA T1.out.1))
 exact⟨rfl,rfl,_,_,_,_,T1.out.cur T1.out.lt hI2 hB2⟩
theorem Qqu(rb lo g:Nat)(bs:List Int)(hb:CodecP.Bytes bs)(hl:bs.length≤140737488355328)(hlg:lo≤g)(w:World)(hS:RS w w rb lo g bs 0 false 0 (⟨#[]⟩:ByteArray) (⟨#[]⟩:ByteArray))(h0:(0:Int)<(bs.length:Int))(hy:(3:Int)=YtnnofopfbeklbaaGreatW.PrintWords.rd bs 0)(q i2:Int)(hv2:(Qqi bs 10 0 (0+1) 0).map (fun p=>(Value.int .u64 p.1,p.2))=.ok (.int .u64 q,i2))(hi2:0≤i2∧i2≤(bs.length:Int))(er i3:Int)(hvf:(Qql bs 1 4096 i2).map (fun p=>(Value.string (strOfNums p.1),p.2))=.error (er,i3)) :
  Calls Tryz.prog 173 #[.pointer (some ⟨g,0,none⟩),.pointer (some ⟨rb,0,none⟩)] w fun e W'=>e=.panicked [Qpc g er]∧∃d q a b,RS w W' rb lo g bs i3 d q a b:=by
 have HS:=QA hS;have HB:=QA hb;have hu:=Tryz.underlying39;have dA:(0:Int)≤1∧(1:Int)≤4611686018427387904:=⟨by decide,by decide⟩;have dB:(0:Int)≤4096∧(4096:Int)≤4611686018427387904:=⟨by decide,by decide⟩;have dC:(0:Int)≤0∧(0:Int)≤4611686018427387904:=⟨by decide,by decide⟩;have dD:(0:Int)≤1048576∧(1048576:Int)≤4611686018427387904:=⟨by decide,by decide⟩;have DD:=QA (And.intro dA (And.intro dB (And.intro dC dD)));clear hS hb dA dB dC dD;have HY:=QA hy;clear hy;have HV2:=QA hv2;clear hv2;have HVF:=QA hvf;clear hvf
 go_enter Tryz.func173,Tryz.ntmps173
 go_wp2_with (first
  |(go_at_call 177;have dA:=DD.out.1;have dB:=DD.out.2.1;have dC:=DD.out.2.2.1;have dD:=DD.out.2.2.2;refine(Qqm lo g bs i2 1 4096 dA dB HB.out hi2 hl hlg _ PT2.out QT2.out (.error (er,i3)) HVF.out).mono ?_;rintro ee w3 ⟨rfl,hI3,hB3⟩)
  |(go_at_call 176;refine(Qqj lo g bs (0+1) HB.out ⟨by omega,by omega⟩ hl hlg _ PT1.out QT1.out (.ok (.int .u64 q,i2)) HV2.out).mono ?_;rintro ee w2 ⟨rfl,hI2,hB2⟩;have S2:=QA (T1.out.cur T1.out.lt hI2 hB2);obtain⟨⟨c,h,j,k⟩,f20,f21,f22,f23⟩:=S2.out.cells;have T2:=QA (S2.out.sq q);have PT2:=QA T2.out.2.2.2.2.1;have QT2:=QA T2.out.1)
  |(go_at_call 174;refine(Qqh lo g bs 0 3 HY.out HB.out (Int.le_refl _) hl h0 hlg _ HS.out.2.2.2.2.1 HS.out.1).mono ?_;rintro ee w1 ⟨rfl,hI1,hB1⟩;have S1:=QA (HS.out.cur HS.out.lt hI1 hB1);obtain⟨⟨c10,l,m,n⟩,f10,f11,f12,f13⟩:=S1.out.cells;have T1:=QA (S1.out.sd true);have PT1:=QA T1.out.2.2.2.2.1;have QT1:=QA T1.out.1))
 exact⟨rfl,rfl,_,_,_,_,T2.out.cur T2.out.lt hI3 hB3⟩
theorem Qqv(rb lo g:Nat)(bs:List Int)(hb:CodecP.Bytes bs)(hl:bs.length≤140737488355328)(hlg:lo≤g)(w:World)(hS:RS w w rb lo g bs 0 false 0 (⟨#[]⟩:ByteArray) (⟨#[]⟩:ByteArray))(h0:(0:Int)<(bs.length:Int))(hy:(3:Int)=YtnnofopfbeklbaaGreatW.PrintWords.rd bs 0)(q i2:Int)(hv2:(Qqi bs 10 0 (0+1) 0).map (fun p=>(Value.int .u64 p.1,p.2))=.ok (.int .u64 q,i2))(hi2:0≤i2∧i2≤(bs.length:Int))(a:List Int)(i3:Int)(hv3:(Qql bs 1 4096 i2).map (fun p=>(Value.string (strOfNums p.1),p.2))=.ok (.string (strOfNums a),i3))(hi3:0≤i3∧i3≤(bs.length:Int))(hlt:0<(bs.length:Int)-i3) :
  Calls Tryz.prog 173 #[.pointer (some ⟨g,0,none⟩),.pointer (some ⟨rb,0,none⟩)] w fun e W'=>e=.panicked [Qpc g 3]∧∃d q a b,RS w W' rb lo g bs i3 d q a b:=by
 have HS:=QA hS;have HB:=QA hb;have hu:=Tryz.underlying39;have dA:(0:Int)≤1∧(1:Int)≤4611686018427387904:=⟨by decide,by decide⟩;have dB:(0:Int)≤4096∧(4096:Int)≤4611686018427387904:=⟨by decide,by decide⟩;have dC:(0:Int)≤0∧(0:Int)≤4611686018427387904:=⟨by decide,by decide⟩;have dD:(0:Int)≤1048576∧(1048576:Int)≤4611686018427387904:=⟨by decide,by decide⟩;have DD:=QA (And.intro dA (And.intro dB (And.intro dC dD)));clear hS hb dA dB dC dD;have HY:=QA hy;clear hy;have HV2:=QA hv2;clear hv2;have HV3:=QA hv3;clear hv3
 go_enter Tryz.func173,Tryz.ntmps173
 go_wp2_with (first
  |(go_at_call 178;refine(Qps lo g bs i3 hi3 hl hlt _ PT3.out QT3.out).mono ?_;rintro ee w5 ⟨rfl,hI5,hB5⟩)
  |(go_at_call 177;have dA:=DD.out.1;have dB:=DD.out.2.1;have dC:=DD.out.2.2.1;have dD:=DD.out.2.2.2;refine(Qqm lo g bs i2 1 4096 dA dB HB.out hi2 hl hlg _ PT2.out QT2.out (.ok (.string (strOfNums a),i3)) HV3.out).mono ?_;rintro ee w3 ⟨rfl,hI3,hB3⟩;have S3:=QA (T2.out.cur T2.out.lt hI3 hB3);obtain⟨⟨c,h,j,k⟩,f30,f31,f32,f33⟩:=S3.out.cells;have T3:=QA (S3.out.sa (strOfNums a));have PT3:=QA T3.out.2.2.2.2.1;have QT3:=QA T3.out.1;obtain⟨⟨t0,t1,t2,t3⟩,_⟩:=T3.out.cells)
  |(go_at_call 176;refine(Qqj lo g bs (0+1) HB.out ⟨by omega,by omega⟩ hl hlg _ PT1.out QT1.out (.ok (.int .u64 q,i2)) HV2.out).mono ?_;rintro ee w2 ⟨rfl,hI2,hB2⟩;have S2:=QA (T1.out.cur T1.out.lt hI2 hB2);obtain⟨⟨l,m,n,o⟩,f20,f21,f22,f23⟩:=S2.out.cells;have T2:=QA (S2.out.sq q);have PT2:=QA T2.out.2.2.2.2.1;have QT2:=QA T2.out.1)
  |(go_at_call 174;refine(Qqh lo g bs 0 3 HY.out HB.out (Int.le_refl _) hl h0 hlg _ HS.out.2.2.2.2.1 HS.out.1).mono ?_;rintro ee w1 ⟨rfl,hI1,hB1⟩;have S1:=QA (HS.out.cur HS.out.lt hI1 hB1);obtain⟨⟨c10,r,s,t⟩,f10,f11,f12,f13⟩:=S1.out.cells;have T1:=QA (S1.out.sd true);have PT1:=QA T1.out.2.2.2.2.1;have QT1:=QA T1.out.1))
 exact⟨rfl,rfl,_,_,_,_,T3.out.cur T3.out.lt hI5 hB5⟩
theorem rec_ok3(rb lo g:Nat)(bs:List Int)(hb:CodecP.Bytes bs)(hl:bs.length≤140737488355328)(hlg:lo≤g)(w:World)(hS:RS w w rb lo g bs 0 false 0 (⟨#[]⟩:ByteArray) (⟨#[]⟩:ByteArray))(h0:(0:Int)<(bs.length:Int))(hy:(3:Int)=YtnnofopfbeklbaaGreatW.PrintWords.rd bs 0)(q i2:Int)(hv2:(Qqi bs 10 0 (0+1) 0).map (fun p=>(Value.int .u64 p.1,p.2))=.ok (.int .u64 q,i2))(hi2:0≤i2∧i2≤(bs.length:Int))(a:List Int)(i3:Int)(hv3:(Qql bs 1 4096 i2).map (fun p=>(Value.string (strOfNums p.1),p.2))=.ok (.string (strOfNums a),i3))(hi3:0≤i3∧i3≤(bs.length:Int))(hle:(bs.length:Int)-i3≤0) :
  Calls Tryz.prog 173 #[.pointer (some ⟨g,0,none⟩),.pointer (some ⟨rb,0,none⟩)] w fun e W'=>e=.returned (.tuple #[])∧RS w W' rb lo g bs i3 true q (strOfNums a) (⟨#[]⟩:ByteArray):=by
 have HS:=QA hS;have HB:=QA hb;have hu:=Tryz.underlying39;have dA:(0:Int)≤1∧(1:Int)≤4611686018427387904:=⟨by decide,by decide⟩;have dB:(0:Int)≤4096∧(4096:Int)≤4611686018427387904:=⟨by decide,by decide⟩;have dC:(0:Int)≤0∧(0:Int)≤4611686018427387904:=⟨by decide,by decide⟩;have dD:(0:Int)≤1048576∧(1048576:Int)≤4611686018427387904:=⟨by decide,by decide⟩;have DD:=QA (And.intro dA (And.intro dB (And.intro dC dD)));clear hS hb dA dB dC dD;have HY:=QA hy;clear hy;have HV2:=QA hv2;clear hv2;have HV3:=QA hv3;clear hv3
 go_enter Tryz.func173,Tryz.ntmps173
 go_wp2_with (first
  |(go_at_call 178;refine(Qpr lo g bs i3 hi3 hl hle _ PT3.out QT3.out).mono ?_;rintro ee w5 ⟨rfl,hI5,hB5⟩)
  |(go_at_call 177;have dA:=DD.out.1;have dB:=DD.out.2.1;have dC:=DD.out.2.2.1;have dD:=DD.out.2.2.2;refine(Qqm lo g bs i2 1 4096 dA dB HB.out hi2 hl hlg _ PT2.out QT2.out (.ok (.string (strOfNums a),i3)) HV3.out).mono ?_;rintro ee w3 ⟨rfl,hI3,hB3⟩;have S3:=QA (T2.out.cur T2.out.lt hI3 hB3);obtain⟨⟨b,c,d,h⟩,f30,f31,f32,f33⟩:=S3.out.cells;have T3:=QA (S3.out.sa (strOfNums a));have PT3:=QA T3.out.2.2.2.2.1;have QT3:=QA T3.out.1;obtain⟨⟨t0,t1,t2,t3⟩,_⟩:=T3.out.cells)
  |(go_at_call 176;refine(Qqj lo g bs (0+1) HB.out ⟨by omega,by omega⟩ hl hlg _ PT1.out QT1.out (.ok (.int .u64 q,i2)) HV2.out).mono ?_;rintro ee w2 ⟨rfl,hI2,hB2⟩;have S2:=QA (T1.out.cur T1.out.lt hI2 hB2);obtain⟨⟨j,k,l,m⟩,f20,f21,f22,f23⟩:=S2.out.cells;have T2:=QA (S2.out.sq q);have PT2:=QA T2.out.2.2.2.2.1;have QT2:=QA T2.out.1)
  |(go_at_call 174;refine(Qqh lo g bs 0 3 HY.out HB.out (Int.le_refl _) hl h0 hlg _ HS.out.2.2.2.2.1 HS.out.1).mono ?_;rintro ee w1 ⟨rfl,hI1,hB1⟩;have S1:=QA (HS.out.cur HS.out.lt hI1 hB1);obtain⟨⟨c10,n,o,r⟩,f10,f11,f12,f13⟩:=S1.out.cells;have T1:=QA (S1.out.sd true);have PT1:=QA T1.out.2.2.2.2.1;have QT1:=QA T1.out.1))
 go_end0
 exact⟨rfl,T3.out.cur T3.out.lt hI5 hB5⟩
def recL (bs:List Int):Except (Int × Int) ((Bool × Int × ByteArray × ByteArray) × Int) :=
 if (0:Int)<(bs.length:Int)then
  if YtnnofopfbeklbaaGreatW.PrintWords.rd bs 0≠2∧YtnnofopfbeklbaaGreatW.PrintWords.rd bs 0≠3 then .error (4,0+1)
  else match Qqi bs 10 0 (0+1) 0 with
   | .error p=>.error p
   | .ok (q,i2)=>match Qql bs 1 4096 i2 with
    | .error p=>.error p
    | .ok (a,i3) =>
     if YtnnofopfbeklbaaGreatW.PrintWords.rd bs 0=3 then(if 0<(bs.length:Int)-i3 then .error (3,i3)else .ok ((true,q,strOfNums a,(⟨#[]⟩:ByteArray)),i3))
     else match Qql bs 0 1048576 i3 with
      | .error p=>.error p
      | .ok (v,i4)=>if 0<(bs.length:Int)-i4 then .error (3,i4)else .ok ((false,q,strOfNums a,strOfNums v),i4)
 else .error (2,0)
theorem Qqw{bs:List Int}{least most i:Int}(h0:0≤i)(h1:i≤(bs.length:Int)){xs:List Int}{i2:Int}(h:Qql bs least most i=.ok (xs,i2)):0≤i2∧i2≤(bs.length:Int):=by
 have hr:=Qqk bs 10 0 i 0 h0 h1 (by decide) (by decide);unfold Qql at h
 cases hv:Qqi bs 10 0 i 0 with
 | error p=>rw[hv]at h;cases h
 | ok p =>
  obtain⟨n,i1⟩:=p;rw[hv]at h hr;dsimp only at h hr;split at h
  ·cases h
  ·split at h
   ·cases h
   ·split at h
    ·cases h;omega
    ·cases h
theorem rec_all (rb lo g:Nat) (bs:List Int) (hb:CodecP.Bytes bs) (hl:bs.length≤140737488355328) (hlg:lo≤g) (w:World) (hS:RS w w rb lo g bs 0 false 0 (⟨#[]⟩:ByteArray) (⟨#[]⟩:ByteArray)) :
  Calls Tryz.prog 173 #[.pointer (some ⟨g,0,none⟩),.pointer (some ⟨rb,0,none⟩)] w fun e W' =>
   match recL bs with
   | .ok ((d,q,a,b),i)=>e=.returned (.tuple #[])∧RS w W' rb lo g bs i d q a b
   | .error (er,i)=>e=.panicked [Qpc g er]∧∃d q a b,RS w W' rb lo g bs i d q a b:=by
 unfold recL
 by_cases h0:(0:Int)<(bs.length:Int)
 ·rw [if_pos h0]
  by_cases hk:YtnnofopfbeklbaaGreatW.PrintWords.rd bs 0≠2∧YtnnofopfbeklbaaGreatW.PrintWords.rd bs 0≠3
  ·rw[if_pos hk];exact Qqo rb lo g bs hb hl hlg w hS h0 _ rfl hk.1 hk.2
  ·rw [if_neg hk];have hg:=Qqk bs 10 0 (0+1) 0 (by omega) (by omega) (by decide) (by decide);have hcase:(2:Int)=YtnnofopfbeklbaaGreatW.PrintWords.rd bs 0∨(3:Int)=YtnnofopfbeklbaaGreatW.PrintWords.rd bs 0:=by omega
   cases hv:Qqi bs 10 0 (0+1) 0 with
   | error p =>
    obtain⟨er,i2⟩:=p
    rcases hcase with hy|hy
    ·exact Qqp rb lo g bs hb hl hlg w hS h0 hy er i2 (by rw[hv];rfl)
    ·exact Qqt rb lo g bs hb hl hlg w hS h0 hy er i2 (by rw[hv];rfl)
   | ok p =>
    obtain⟨q,i2⟩:=p;rw[hv]at hg;have hi2:0≤i2∧i2≤(bs.length:Int):=⟨by have:=hg.2.2.1;omega,hg.2.2.2⟩;have hv2:(Qqi bs 10 0 (0+1) 0).map (fun p=>(Value.int .u64 p.1,p.2))=.ok (.int .u64 q,i2):=by rw[hv];rfl
    dsimp only
    cases ht:Qql bs 1 4096 i2 with
    | error p =>
     obtain⟨er,i3⟩:=p
     rcases hcase with hy|hy
     ·exact Qqq rb lo g bs hb hl hlg w hS h0 hy q i2 hv2 hi2 er i3 (by rw[ht];rfl)
     ·exact Qqu rb lo g bs hb hl hlg w hS h0 hy q i2 hv2 hi2 er i3 (by rw[ht];rfl)
    | ok p =>
     obtain⟨a,i3⟩:=p;have hi3:=Qqw hi2.1 hi2.2 ht;have hv3:(Qql bs 1 4096 i2).map (fun p=>(Value.string (strOfNums p.1),p.2))=.ok (.string (strOfNums a),i3):=by rw[ht];rfl
     dsimp only
     rcases hcase with hy|hy
     ·rw[if_neg (by omega)]
      cases hu:Qql bs 0 1048576 i3 with
      | error p =>
       obtain⟨er,i4⟩:=p;exact Qqr rb lo g bs hb hl hlg w hS h0 hy q i2 hv2 hi2 a i3 hv3 hi3 er i4 (by rw[hu];rfl)
      | ok p =>
       obtain⟨v,i4⟩:=p;have hi4:=Qqw hi3.1 hi3.2 hu;have hv4:(Qql bs 0 1048576 i3).map (fun p=>(Value.string (strOfNums p.1),p.2))=.ok (.string (strOfNums v),i4):=by rw[hu];rfl
       dsimp only
       by_cases hlt:0<(bs.length:Int)-i4
       ·rw[if_pos hlt];exact Qqs rb lo g bs hb hl hlg w hS h0 hy q i2 hv2 hi2 a i3 hv3 hi3 v i4 hv4 hi4 hlt
       ·rw[if_neg hlt];exact rec_ok2 rb lo g bs hb hl hlg w hS h0 hy q i2 hv2 hi2 a i3 hv3 hi3 v i4 hv4 hi4 (by omega)
     ·rw[if_pos hy.symm]
      by_cases hlt:0<(bs.length:Int)-i3
      ·rw[if_pos hlt];exact Qqv rb lo g bs hb hl hlg w hS h0 hy q i2 hv2 hi2 a i3 hv3 hi3 hlt
      ·rw[if_neg hlt];exact rec_ok3 rb lo g bs hb hl hlg w hS h0 hy q i2 hv2 hi2 a i3 hv3 hi3 (by omega)
 ·rw[if_neg h0];exact Qqn rb lo g bs hb hl hlg w hS h0
noncomputable def Qcn.f(l0:List Int):Option (Bool × Int × ByteArray × ByteArray × Int) :=
 @ite _ (CodecP.Bytes l0∧l0.length≤140737488355328) (Classical.propDecidable _) (match recL l0 with
  | .ok ((d,q,a,b),_)=>some (d,q,a,b,0)
  | .error (er,_)=>some (false,0,(⟨#[]⟩:ByteArray),(⟨#[]⟩:ByteArray),er)) none
theorem Qqx(bs:List Int):∀(f:Nat) (j i x:Int) (er i1:Int),Qqi bs f j i x=.error (er,i1)→er≠0
 | 0,_,_,_,_,_=>fun h=>by cases h
 | f+1,j,i,x,er,i1=>fun h=>by
  unfold Qqi at h
  repeat' split at h
  all_goals first |(cases h;decide)|exact Qqx bs f _ _ _ _ _ h|cases h
theorem Qqy{bs:List Int}{least most i er i1:Int}(h:Qql bs least most i=.error (er,i1)):er≠0:=by
 unfold Qql at h
 cases hv:Qqi bs 10 0 i 0 with
 | error p=>rw[hv]at h;cases h;exact Qqx bs 10 0 i 0 er i1 hv
 | ok p =>
  rw[hv]at h;dsimp only at h
  repeat' split at h
  all_goals first |(cases h;decide)|cases h
theorem Qqz{bs:List Int}{er i:Int}(h:recL bs=.error (er,i)):er≠0:=by
 unfold recL at h;split at h
 ·split at h
  ·cases h;decide
  ·cases hv:Qqi bs 10 0 (0+1) 0 with
   | error p=>rw[hv]at h;cases h;exact Qqx bs 10 0 _ 0 er i hv
   | ok p =>
    rw[hv]at h;dsimp only at h
    cases ht:Qql bs 1 4096 p.2 with
    | error p=>rw[ht]at h;cases h;exact Qqy ht
    | ok p2 =>
     rw[ht]at h;dsimp only at h;split at h
     ·split at h
      ·cases h;decide
      ·cases h
     ·cases hu:Qql bs 0 1048576 p2.2 with
      | error p=>rw[hu]at h;cases h;exact Qqy hu
      | ok p3 =>
       rw[hu]at h;dsimp only at h;split at h
       ·cases h;decide
       ·cases h
 ·cases h;decide
theorem Qra(as_:Array Value)(W:World):(callFunc 173 as_).run Tryz.prog W=.ok (.enter 173 as_) W:=by
 simp[callFunc,Tryz.func173,Tryz.f173]
theorem Qrb{W:World}{rb lo g:Nat}{bs:List Int}(hI:IsCur W lo g bs 0)(hk:W.heap[rb]? = some (.cells #[.bool false,.int .u64 0,.string (⟨#[]⟩:ByteArray),.string (⟨#[]⟩:ByteArray)] 39 (0,0)))(hlt:rb<lo)(hg:lo≤g):RS W W rb lo g bs 0 false 0 (⟨#[]⟩:ByteArray) (⟨#[]⟩:ByteArray) :=
 ⟨hI,hk,Below.refl _ _,fun k cs t _ h _ _=>h,Nat.le_of_lt (Nat.lt_of_le_of_lt hg hI.lt),hlt⟩
theorem rec_run(A0:Option Addr)(c0:Nat)(l0:List Int)(rb:Nat)(w:World)(hb:CodecP.Bytes l0)(hl:l0.length≤140737488355328)(hr0:Kd.C (Kd.int .u8) w A0 l0.length l0)
  (hk:w.heap[rb]? = some (.cells #[.bool false,.int .u64 0,.string (⟨#[]⟩:ByteArray),.string (⟨#[]⟩:ByteArray)] 39 (0,0))) :
  Calls Tryz.prog 137 #[.slice A0 l0.length c0,.func (.func 173) #[] #[.pointer (some ⟨rb,0,none⟩)]] w fun e w'=>∃er i,e=.returned (.tuple #[.int .i64 i,.int .i64 er])∧Below rb w w' ∧
   match recL l0 with
   | .ok ((d,q,a,b),_)=>er=0∧w'.heap[rb]? = some (.cells #[.bool d,.int .u64 q,.string a,.string b] 39 (0,0))
   | .error (e0,_)=>er=e0∧∃cs,w'.heap[rb]? = some (.cells cs 39 (0,0)):=by
 have hlt:=Qdu hk;refine Qqa 173 #[.pointer (some ⟨rb,0,none⟩)] A0 c0 l0 w hr0 hl Qra (fun er _ W'=>Below rb w W' ∧
   match recL l0 with
   | .ok ((d,q,a,b),_)=>er=0∧W'.heap[rb]? = some (.cells #[.bool d,.int .u64 q,.string a,.string b] 39 (0,0))
   | .error (e0,_)=>er=e0∧∃cs,W'.heap[rb]? = some (.cells cs 39 (0,0))) ?_ ?_
 ·rintro er i W W' ⟨h1,h2⟩ h3;refine⟨h1.trans (Qjp h3 (Nat.le_of_lt hlt)),?_⟩
  cases hrec:recL l0 with
  | ok p =>
   obtain⟨⟨d,q,a,b⟩,j⟩:=p;rw[hrec]at h2;exact⟨h2.1,(h3.block rb hlt).trans h2.2⟩
  | error p =>
   rw[hrec]at h2;obtain⟨h4,cs,h5⟩:=h2;exact⟨h4,cs,(h3.block rb hlt).trans h5⟩
 ·intro W g hg hB hI;have hk2:=(hB.block rb hlt).trans hk;refine(rec_all rb w.heap.size g l0 hb hl hg W (Qrb hI hk2 hlt hg)).mono ?_;intro e W' h;have hB2:Below rb w W:=Qjp hB (Nat.le_of_lt hlt)
  cases hrec:recL l0 with
  | ok p =>
   obtain⟨⟨d,q,a,b⟩,j⟩:=p;rw[hrec]at h;obtain⟨h1,h2⟩:=h;exact⟨j,h2.1,h2.2.2.2.1,.inl ⟨h1,hB2.trans h2.2.2.1,rfl,h2.2.1⟩⟩
  | error p =>
   obtain⟨e0,j⟩:=p;rw[hrec]at h;obtain⟨h1,d,q,a,b,h2⟩:=h;exact⟨j,h2.1,h2.2.2.2.1,.inr ⟨e0,h1,hB2.trans h2.2.2.1,rfl,_,h2.2.1⟩⟩
theorem Qcn.calls(A0:Option Addr)(c0:Nat)(l0:List Int)(r1:Bool)(r2:Int)(r3 r4:ByteArray)(r5:Int)(w:World)(hr0:Kd.C (Kd.int .u8) w A0 l0.length l0)(hc0:l0.length≤c0)(h:Qcn.f l0=some (r1,r2,r3,r4,r5)) :
  Calls Tryz.prog 129 #[.slice A0 l0.length c0] w fun e w'=>e=.returned (.tuple #[.agg #[.bool r1,.int .u64 r2,.string r3,.string r4],.int .i64 r5])∧Below w.heap.size w w':=by
 unfold Qcn.f at h
 by_cases hg:CodecP.Bytes l0∧l0.length≤140737488355328
 ·rw[if_pos hg]at h;have hu:=Tryz.underlying39;have HG:=QA hg;have c:=QA hr0;obtain⟨z0,hz0⟩:∃z:Obj,z=.cells #[.bool false,.int .u64 0,.string (⟨#[]⟩:ByteArray),.string (⟨#[]⟩:ByteArray)] 39 (0,0):=⟨_,rfl⟩;have b0:Below w.heap.size w ((w.alloc z0).alloc z0):=Qcw (Qcw (Below.refl _ _) _) _;have hsz:((w.alloc z0).alloc z0).heap.size=w.heap.size+2:=by simp[World.size_alloc]
  have k1:=Qef (Qej w z0) z0;have k2:=Qej (w.alloc z0) z0;rw[World.size_alloc]at k2;subst hz0;have RUN:=QA (rec_run A0 c0 l0 (w.heap.size+1) _ hg.1 hg.2 (Kd.C_below hr0 b0) k2);have B0:=QA b0;have K1:=QA k1;clear hg hr0 b0 k1 k2 hsz
  cases hrec:recL l0 with
  | ok p =>
   obtain⟨⟨d,q,a,b⟩,i0⟩:=p;rw[hrec]at h;simp only[Option.some.injEq,Prod.mk.injEq]at h;obtain⟨rfl,rfl,rfl,rfl,rfl⟩:=h;rw[hrec]at RUN;clear hrec
   go_enter Tryz.func129,Tryz.ntmps129
   go_wp2_with (go_at_call 137;refine RUN.out.mono ?_;rintro ee w3 ⟨er,i,rfl,hb3,rfl,hk3⟩;have hr3:=(hb3.block w.heap.size (Nat.lt_succ_self _)).trans K1.out;obtain⟨d0,d1,d2,d3⟩:=box4 hk3;obtain⟨e0,e1,e2,e3⟩:=box4 hr3;have g0:=Qdw hr3 0;have g1:=Qdw hr3 1;have g2:=Qdw hr3 2;have g3:=Qdw hr3 3)
   have hbb:Below w.heap.size w w3:=B0.out.trans (Qjp hb3 (Nat.le_succ _));refine bodyPost_ret (Qek rfl _ _ w.heap.size 39 #[.bool d,.int .u64 q,.string a,.string b] (0,0) _ rfl (Qds (Qds (Qds (Qds hr3 0 _) 1 _) 2 _) 3 _) hu rfl qq_7) rfl ?_;exact⟨rfl,Qjo (Qjo (Qjo (Qjo hbb (Nat.le_refl _)) (Nat.le_refl _)) (Nat.le_refl _)) (Nat.le_refl _)⟩
  | error p =>
   obtain⟨y0,i0⟩:=p;rw[hrec]at h;simp only[Option.some.injEq,Prod.mk.injEq]at h;obtain⟨rfl,rfl,rfl,rfl,rfl⟩:=h;have hne:(y0 != 0)=true:=bne_iff_ne.2 (Qqz hrec);rw[hrec]at RUN;clear hrec
   go_enter Tryz.func129,Tryz.ntmps129
   go_wp2_with (go_at_call 137;refine RUN.out.mono ?_;rintro ee w3 ⟨er,i,rfl,hb3,rfl,cs,hk3⟩;have hr3:=(hb3.block w.heap.size (Nat.lt_succ_self _)).trans K1.out;obtain⟨e0,e1,e2,e3⟩:=box4 hr3;have g0:=Qdw hr3 0;have g1:=Qdw hr3 1;have g2:=Qdw hr3 2;have g3:=Qdw hr3 3)
   have hbb:Below w.heap.size w w3:=B0.out.trans (Qjp hb3 (Nat.le_succ _));refine bodyPost_ret (Qek rfl _ _ w.heap.size 39 #[.bool false,.int .u64 0,.string (⟨#[]⟩:ByteArray),.string (⟨#[]⟩:ByteArray)] (0,0) _ rfl (Qds (Qds (Qds (Qds hr3 0 _) 1 _) 2 _) 3 _) hu rfl qq_7) rfl ?_;exact⟨rfl,Qjo (Qjo (Qjo (Qjo hbb (Nat.le_refl _)) (Nat.le_refl _)) (Nat.le_refl _)) (Nat.le_refl _)⟩
 ·rw[if_neg hg]at h;cases h
noncomputable def Qbw.f(k:Nat)(l0:List Int):Option (Bool × Int × ByteArray × ByteArray × Int):=(Qbx.f k l0).bind fun t=>if t.2=0 then Qcn.f t.1 else some (false,0,(⟨#[]⟩:ByteArray),(⟨#[]⟩:ByteArray),t.2)
theorem Qbw.calls(k:Nat)(A0:Option Addr)(c0:Nat)(l0:List Int)(r1:Bool)(r2:Int)(r3 r4:ByteArray)(r5:Int)(w:World)(hr0:Kd.C (Kd.int .u8) w A0 l0.length l0)(hc0:l0.length≤c0)(h:Qbw.f k l0=some (r1,r2,r3,r4,r5)) :
  Calls Tryz.prog 81 #[.slice A0 l0.length c0] w fun e w'=>e=.returned (.tuple #[.agg #[.bool r1,.int .u64 r2,.string r3,.string r4],.int .i64 r5])∧Below w.heap.size w w':=by
 unfold Qbw.f at h;obtain⟨⟨out,e0⟩,hU,h⟩:=Option.bind_eq_some_iff.mp h;dsimp only at h;have hu:=Tryz.underlying39;obtain⟨z0,hz0⟩:∃z:Obj,z=.cells #[.bool false,.int .u64 0,.string (⟨#[]⟩:ByteArray),.string (⟨#[]⟩:ByteArray)] 39 (0,0):=⟨_,rfl⟩;have b0:Below w.heap.size w (w.alloc z0):=Qcw (Below.refl _ _) _;have k1:=Qej w z0;subst hz0;have HU:=QA (Qbx.calls k A0 c0 l0 out e0 _ (Kd.C_below hr0 b0) hc0 hU);have B0:=QA b0;have K1:=QA k1;clear hU hr0 b0 k1 hc0
 by_cases he:e0=0
 ·subst he;rw[if_pos rfl]at h;have HH:=QA h;clear h
  go_enter Tryz.func81,Tryz.ntmps81
  go_wp2_with (first
   |(go_at_call 128;refine HU.out.mono ?_;rintro ee w1 ⟨A1,c1,rfl,hC1,hlc1,hb1⟩;have b:=QA hC1;have HLC1:=QA hlc1;clear hC1 hlc1)
   |(go_at_call 129;refine(Qcn.calls A1 c1 out r1 r2 r3 r4 r5 _ b.out HLC1.out HH.out).mono ?_;rintro ee w2 ⟨rfl,hb2⟩;have a:=QA (hb1.trans (Qjp hb2 hb1.size));have hr3:=(a.out.block w.heap.size (Qdu K1.out)).trans K1.out;obtain⟨q0,q1,q2,q3⟩:=box4 hr3;have g0:=Qdw hr3 0;have g1:=Qdw hr3 1;have g2:=Qdw hr3 2;have g3:=Qdw hr3 3;clear hb2 hb1))
  have hbb:Below w.heap.size w w2:=B0.out.trans (Qjp a.out B0.out.size);refine bodyPost_ret (Qek rfl _ _ w.heap.size 39 #[.bool r1,.int .u64 r2,.string r3,.string r4] (0,0) _ rfl (Qds (Qds (Qds (Qds hr3 0 _) 1 _) 2 _) 3 _) hu rfl qq_7) rfl ?_;exact⟨rfl,Qjo (Qjo (Qjo (Qjo hbb (Nat.le_refl _)) (Nat.le_refl _)) (Nat.le_refl _)) (Nat.le_refl _)⟩
 ·rw[if_neg he]at h;simp only[Option.some.injEq,Prod.mk.injEq]at h;obtain⟨rfl,rfl,rfl,rfl,rfl⟩:=h;have hne:(e0 != 0)=true:=bne_iff_ne.2 he
  go_enter Tryz.func81,Tryz.ntmps81
  go_wp2_with (first
   |(go_at_call 128;refine HU.out.mono ?_;rintro ee w1 ⟨A1,c1,rfl,hC1,hlc1,hb1⟩;have a:=QA hb1;have hr3:=(hb1.block w.heap.size (Qdu K1.out)).trans K1.out;obtain⟨q0,q1,q2,q3⟩:=box4 hr3;have g0:=Qdw hr3 0;have g1:=Qdw hr3 1;have g2:=Qdw hr3 2;have g3:=Qdw hr3 3;clear hb1 hC1 hlc1))
  have hbb:Below w.heap.size w w1:=B0.out.trans (Qjp a.out B0.out.size);refine bodyPost_ret (Qek rfl _ _ w.heap.size 39 #[.bool false,.int .u64 0,.string (⟨#[]⟩:ByteArray),.string (⟨#[]⟩:ByteArray)] (0,0) _ rfl (Qds (Qds (Qds (Qds hr3 0 _) 1 _) 2 _) 3 _) hu rfl qq_7) rfl ?_;exact⟨rfl,Qjo (Qjo (Qjo (Qjo hbb (Nat.le_refl _)) (Nat.le_refl _)) (Nat.le_refl _)) (Nat.le_refl _)⟩
abbrev Fd:=S97
def RF(W:World)(b:Nat)(v:Value)(xs:List Fd):Prop:=(k97).R 97 W b (fun _=>True) v xs
theorem info_fd:(Tryz.prog.info? 97).map (fun i=>(i.zero,i.size,i.bytes))=some (some (.agg #[.bool false,.int .u64 0,.string (⟨#[]⟩:ByteArray),.string (⟨#[]⟩:ByteArray),.int .u64 0,.int .i64 0,.int .i64 0]),7,72):=by kernel_rfl
theorem R8.kt{W W':World}{b:Nat}{v:Value}{xs:List Int}(h:R8 W b v xs)(hT:KT W W'):R8 W' b v xs:=by
 refine Kd.R_mono (Kd.R_step (Kd.R_bound h) (fun k hk _=>?_)) (fun _ _=>trivial);obtain⟨q,hq,cells,hc⟩:=hk.2.2.2;have hq':q=5:=by simpa [Kd.int,Kd.scalar]using hq
 subst hq';rw[hc];exact hT k cells _ hc (by decide) (by decide)
theorem RF.kt{W W':World}{b:Nat}{v:Value}{xs:List Fd}(h:RF W b v xs)(hT:KT W W'):RF W' b v xs:=by
 refine Kd.R_mono (Kd.R_step (Kd.R_bound h) (fun k hk _=>?_)) (fun _ _=>trivial);obtain⟨q,hq,cells,hc⟩:=hk.2.2.2;have ht:∀q,q∈97 :: (k97).E→q=97:=by decide
 obtain rfl:=ht q hq;rw[hc];exact hT k cells _ hc (by decide) (by decide)
def Qrc(kc:Nat)(vh:Value)(ch fo em:Int):Array Value:=#[.pointer (some ⟨kc,0,none⟩),vh,.bool false,.int .i64 ch,.int .i64 fo,.int .i64 em]
structure SSt (w W:World) (b kc sb:Nat) (K:KS) (held:List Int) (ch fo em:Int) (out:List Fd) (vh vo:Value):Prop where
  k:IsK W kc K
  s:W.heap[sb]? = some (.cells (Qrc kc vh ch fo em) 216 (0,0))
  h:R8 W b vh held
  o:RF W b vo out
  low:Below b w W
  bk:b≤kc
  bs:b≤sb
section
variable {w W W':World} {b kc sb:Nat} {K K':KS} {held held':List Int} {ch fo em ch' fo' em':Int} {out out':List Fd} {vh vh' vo vo':Value}
theorem SSt.below(h:SSt w W b kc sb K held ch fo em out vh vo)(hb:Below W.heap.size W W')(hbw:b≤W.heap.size):SSt w W' b kc sb K held ch fo em out vh vo :=
 ⟨Qei h.k hb,Qei h.s hb,Kd.R_below h.h hb,Kd.R_below h.o hb,h.low.trans (Qjp hb hbw),h.bk,h.bs⟩
theorem SSt.cut(h:SSt w W b kc sb K held ch fo em out vh vo)(hk:IsK W' kc K')(hT:KT W W')(hB:Below b W W'):SSt w W' b kc sb K' held ch fo em out vh vo :=
 ⟨hk,hT _ _ _ h.s (by decide) (by decide),h.h.kt hT,h.o.kt hT,h.low.trans hB,h.bk,h.bs⟩
theorem SSt.set(h:SSt w W b kc sb K held ch fo em out vh vo)(j:Nat)(u:Value)(hs:(Qrc kc vh ch fo em).setIfInBounds j u=Qrc kc vh' ch' fo' em')(hh:R8 W b vh' held'):SSt w (W.setCell ⟨sb,j,none⟩ u) b kc sb K held' ch' fo' em' out vh' vo:=by
 have hs':=Qds h.s j u;rw[hs]at hs';exact⟨Qdt h.k (p:=⟨sb,j,none⟩) (Qdy h.k h.s (by decide)) u,hs',Kd.R_set hh h.s (by decide) j u,Kd.R_set h.o h.s (by decide) j u,Qjo h.low h.bs,h.bk,h.bs⟩
theorem SSt.cells(h:SSt w W b kc sb K held ch fo em out vh vo):(W.cell? ⟨sb,0,none⟩=some (.pointer (some ⟨kc,0,none⟩))∧W.cell? ⟨sb,1,none⟩=some vh∧W.cell? ⟨sb,2,none⟩=some (.bool false)∧W.cell? ⟨sb,3,none⟩=some (.int .i64 ch)∧W.cell? ⟨sb,4,none⟩=some (.int .i64 fo)∧W.cell? ⟨sb,5,none⟩=some (.int .i64 em))∧W.frozen? ⟨sb,1,none⟩=false∧W.frozen? ⟨sb,2,none⟩=false∧W.frozen? ⟨sb,3,none⟩=false∧W.frozen? ⟨sb,4,none⟩=false∧W.frozen? ⟨sb,5,none⟩=false :=
 ⟨⟨(Qdv h.s 0).trans rfl,(Qdv h.s 1).trans rfl,(Qdv h.s 2).trans rfl,(Qdv h.s 3).trans rfl,(Qdv h.s 4).trans rfl,(Qdv h.s 5).trans rfl⟩,Qdw h.s 1,Qdw h.s 2,Qdw h.s 3,Qdw h.s 4,Qdw h.s 5⟩
end
theorem R8.nil{W:World}{b n c:Nat}{A:Option Addr}{xs:List Int}(h:R8 W b (.slice A n c) xs):R8 W b (.slice A 0 c) []:=by
 obtain⟨A',c',hv⟩:=Kd.R_slice h
 cases hv
 exact Kd.R_take h (Nat.zero_le _)
theorem Qrd(b kc sb c:Nat)(K:KS)(held:List Int)(ch fo em:Int)(out:List Fd)(A:Option Addr)(vo:Value)(w0 w:World)(hS:SSt w0 w b kc sb K held ch fo em out (.slice A held.length c) vo) :
  (∀u,CallsD Tryz.prog 148 #[.pointer (some ⟨sb,0,none⟩)] u w fun e u' w'=>u'=u∧(e=.returned (.tuple #[])∧SSt w0 w' b kc sb K [] ch fo em out (.slice A 0 c) vo)) ∧
  Calls Tryz.prog 148 #[.pointer (some ⟨sb,0,none⟩)] w fun e w'=>e=.returned (.tuple #[])∧SSt w0 w' b kc sb K [] ch fo em out (.slice A 0 c) vo:=by
 have hu:=Tryz.underlying216;have t1:=hS.set (vh':=.slice A 0 c) (held':=[]) (ch':=ch) (fo':=fo) (em':=em) 1 (.slice A 0 c) rfl hS.h.nil;have t2:=t1.set (vh':=.slice A 0 c) (held':=[]) (ch':=ch) (fo':=fo) (em':=em) 2 (.bool false) rfl t1.h;obtain⟨⟨c0,c1,c2,c3,c4,c5⟩,f1,f2,f3,f4,f5⟩:=hS.cells;obtain⟨⟨d0,d1,d2,d3,d4,d5⟩,g1,g2,g3,g4,g5⟩:=t1.cells;obtain⟨i0,hii,_,hsz,_⟩:=info_parts Qiq;have hlen:=(Kd.R_reads' hS.h).2.1;have T2:=QA t2;have hcut:=Qeu (P:=Tryz.prog) 52 5 .i64 Tryz.underlying52 hii A held.length c 0 (by decide) (by omega) hlen;clear hS t1 t2 hlen hii
 constructor
 ·intro u
  go_enter_d Tryz.func148,Tryz.ntmps148
  go_wp2;go_end0
  exact⟨rfl,T2.out⟩
 ·go_enter Tryz.func148,Tryz.ntmps148
  go_wp2;go_end0
  exact⟨rfl,T2.out⟩
theorem SSt.app8{w W w1:World}{b kc sb:Nat}{K:KS}{held held1:List Int}{ch fo em:Int}{out:List Fd}{vh v1 vo:Value}(h:SSt w W b kc sb K held ch fo em out vh vo)(HR:R8 w1 b v1 held1)(hb:Below b W w1)(hg:W.grownBy w1 vh.ownBlock) :
  w1.heap[sb]? = some (.cells (Qrc kc vh ch fo em) 216 (0,0))∧SSt w (w1.setCell ⟨sb,1,none⟩ v1) b kc sb K held1 ch fo em out v1 vo:=by
 have hs:=Qdx h.s hg (Kd.R_ne h.h h.s (by decide));have hk:IsK w1 kc K:=Qdx h.k hg (Kd.R_ne h.h h.k (by decide));have hs':=Qds hs 1 v1;exact⟨hs,Qdt hk (p:=⟨sb,1,none⟩) (Qdy hk hs (by decide)) v1,hs',Kd.R_set HR hs (by decide) 1 v1,Kd.R_set (Kd.R_over' h.o (Kd.R_typed h.h) (by decide) hg) hs (by decide) 1 v1,Qjo (h.low.trans hb) h.bs,h.bk,h.bs⟩
theorem Qre(b kc sb c:Nat)(K:KS)(held:List Int)(ch fo em x:Int)(out:List Fd)(A:Option Addr)(vo:Value)(w0 w:World)(hS:SSt w0 w b kc sb K held ch fo em out (.slice A held.length c) vo)(hbw:b≤w.heap.size)(hl:held.length<1060000) :
  Calls Tryz.prog 146 #[.pointer (some ⟨sb,0,none⟩),.int .u8 x] w fun e w'=>∃vh',e=.returned (.tuple #[])∧SSt w0 w' b kc sb K (held++[x]) ch fo em out vh' vo:=by
 have hu:=Tryz.underlying216;have HS:=QA hS;obtain⟨⟨c0,c1,c2,c3,c4,c5⟩,f1,f2,f3,f4,f5⟩:=hS.cells;have hd:decide ((1060000:Int)≤(held.length:Int))=false:=decide_eq_false (by omega);clear hS
 go_enter Tryz.func146,Tryz.ntmps146
 go_wp2_with (at_builtin;refine Kd.R_append (Kd.int .u8) (w0:=w) b rfl (.tmp 25) (.tmp 27) 52 5 (.int .u8 0) 1 rfl Tryz.underlying52 Qiq rfl (by decide) (by omega) (.slice A held.length c) held x [.int .u8 x] (fun _=>True) (fun _=>False) rfl ?ax ?aP (fun _ hk=>hk.elim) ?aF ?aO ?aB ?aS ?aL ?_;(case ax=>rfl);(case aP=>rfl);(case aF=>exact fun _ _=>trivial);(case aO=>exact HS.out.h);(case aB=>exact Below.refl _ _);(case aS=>exact hbw);(case aL=>omega);intro v3 w3 a hb3 d hat3;obtain⟨A3,c3,hv3⟩:=Kd.R_slice a;rw[show(held++[x]).length=held.length+1 from List.length_append]at hv3;subst hv3;have HP:=HS.out.app8 a hb3 d;have HS3:=QA HP.2;have q1:w3.cell? ⟨sb,1,none⟩=some (.slice A held.length c):=(Qdv HP.1 1).trans rfl;have q2:w3.frozen? ⟨sb,1,none⟩=false:=Qdw HP.1 1;clear HP a hb3 d hat3)
 go_end0
 exact⟨_,rfl,HS3.out⟩
theorem Qrf(g:Nat)(K:KS)(w:World)(hK:IsK w g K)(h:0≤K.2.2.2∧K.2.2.2≤K.2.2.1∧K.2.2.1≤1000000000000) :
  Calls Tryz.prog 147 #[.pointer (some ⟨g,0,none⟩)] w fun e w'=>e=.returned (.int .i64 (K.2.2.1-K.2.2.2))∧Below w.heap.size w w':=by
 have hu:=Tryz.underlying271;obtain⟨⟨c0,c1,c2,c3⟩,f1,f2,f3⟩:=hK.cells;have d2:w.drew.cell? ⟨g,2,none⟩=some (.int .i64 K.2.2.1):=c2;have d3:w.drew.cell? ⟨g,3,none⟩=some (.int .i64 K.2.2.2):=c3;have hw:IntKind.i64.wrap (K.2.2.1-K.2.2.2)=K.2.2.1-K.2.2.2:=IntWalk.i64_in _ (by omega)
 go_enter Tryz.func147,Tryz.ntmps147
 go_upto_region 1 with fail
 go_region
 all_goals
  go_wp2;go_ret
  exact⟨rfl,Qcx (Below.refl _ _)⟩
def endO(out:List Fd)(er:Int)(d:Bool)(q:Int)(ka va:ByteArray)(sg fr tt:Int):List Fd:=if er=0 then out++[(⟨⟨d,q,ka,va⟩,sg,fr,tt-fr+1⟩:Fd)]else out
theorem SSt.app97{w W w1:World}{b kc sb:Nat}{K:KS}{held:List Int}{ch fo em:Int}{out out1:List Fd}{vh v1 vo:Value}(h:SSt w W b kc sb K held ch fo em out vh vo)(HR:RF w1 b v1 out1)(hb:Below b W w1)(hg:W.grownBy w1 vo.ownBlock):SSt w w1 b kc sb K held ch fo em out1 vh v1 :=
 ⟨Qdx h.k hg (Kd.R_ne h.o h.k (by decide)),Qdx h.s hg (Kd.R_ne h.o h.s (by decide)),Kd.R_over' h.h (Kd.R_typed h.o) (by decide) hg,HR,h.low.trans hb,h.bk,h.bs⟩
theorem sv_end(k b kc sb c:Nat)(K:KS)(held:List Int)(ch fo em sg fr tt:Int)(out:List Fd)(A:Option Addr)(vo:Value)(d:Bool)(q:Int)(ka va:ByteArray)(er:Int)(w:World)(hS:SSt w w b kc sb K held ch fo em out (.slice A held.length c) vo)(hbw:b≤w.heap.size)
  (hr:Qbw.f k held=some (d,q,ka,va,er)) (hn:(0≤ch∧ch≤1000000000000)∧(0≤fo∧fo≤1000000000000)∧(0≤em∧em≤1000000000000)) (hft:0≤fr∧fr≤tt∧tt≤1000000000000) (hl:out.length≤1000000000) :
  Calls Tryz.prog 145 #[.pointer (some ⟨sb,0,none⟩),.agg #[.int .u64 sg,.int .i64 fr,.int .i64 tt],vo] w fun e w'=>∃vo' vh',e=.returned vo' ∧
   SSt w w' b kc sb K [] (ch+1) (if er=0 then fo+1 else fo) (if fr=tt then em+1 else em) (endO out er d q ka va sg fr tt) vh' vo':=by
 have hu:=Tryz.underlying216;have hu2:=Tryz.underlying219;have hu3:=Tryz.underlying39;have hcc:=(Kd.R_reads' hS.h).2.1;obtain⟨Ao,co,hvo⟩:=Kd.R_slice hS.o;subst hvo;have HR:=QA hr;have hw1:IntKind.i64.wrap (ch+1)=ch+1:=IntWalk.i64_in _ (by omega);have hw2:IntKind.i64.wrap (fo+1)=fo+1:=IntWalk.i64_in _ (by omega);have hw3:IntKind.i64.wrap (em+1)=em+1:=IntWalk.i64_in _ (by omega);have hw4:IntKind.i64.wrap (tt-fr)=tt-fr:=IntWalk.i64_in _ (by omega);have hw5:IntKind.i64.wrap (tt-fr+1)=tt-fr+1:=IntWalk.i64_in _ (by omega);have s0:=hS.below (W':=w.alloc (.cells #[.int .u64 sg,.int .i64 fr,.int .i64 tt] 219 (0,0))) (Qcw (Below.refl _ _) _) hbw;have kz:=Qej w (.cells #[.int .u64 sg,.int .i64 fr,.int .i64 tt] 219 (0,0));have hb0:b≤(w.alloc (.cells #[.int .u64 sg,.int .i64 fr,.int .i64 tt] 219 (0,0))).heap.size:=by rw[World.size_alloc];omega
 have s1:=s0.set (vh':=.slice A held.length c) (held':=held) (ch':=ch+1) (fo':=fo) (em':=em) 3 (.int .i64 (ch+1)) rfl s0.h;have kz1:=Qdt kz (p:=⟨sb,3,none⟩) (Qdy kz s0.s (by decide)) (.int .i64 (ch+1));have s2:=s1.set (vh':=.slice A held.length c) (held':=held) (ch':=ch+1) (fo':=fo) (em':=em+1) 5 (.int .i64 (em+1)) rfl s1.h;have kz2:=Qdt kz1 (p:=⟨sb,5,none⟩) (Qdy kz1 s1.s (by decide)) (.int .i64 (em+1));obtain⟨⟨a0,a1,a2,a3,a4,a5⟩,f1,f2,f3,f4,f5⟩:=s0.cells;obtain⟨⟨b0,b1,b2,b3,b4,b5⟩,g1,g2,g3,g4,g5⟩:=s1.cells;obtain⟨⟨c0,c1,c2,c3,c4,c5⟩,h1,h2,h3,h4,h5⟩:=s2.cells;have x1:=(Qdv kz1 1).trans (rfl:_=some (Value.int .i64 fr));have x2:=(Qdv kz1 2).trans (rfl:_=some (Value.int .i64 tt));obtain⟨em',hem⟩:∃em',em'=(if fr=tt then em+1 else em):=⟨_,rfl⟩;obtain⟨W2,hW2⟩:∃W2,W2=(if fr=tt then((w.alloc (.cells #[.int .u64 sg,.int .i64 fr,.int .i64 tt] 219 (0,0))).setCell ⟨sb,3,none⟩ (.int .i64 (ch+1))).setCell ⟨sb,5,none⟩ (.int .i64 (em+1))else(w.alloc (.cells #[.int .u64 sg,.int .i64 fr,.int .i64 tt] 219 (0,0))).setCell ⟨sb,3,none⟩ (.int .i64 (ch+1))):=⟨_,rfl⟩;have S2:Aside0 (SSt w W2 b kc sb K held (ch+1) fo em' out (.slice A held.length c) (.slice Ao out.length co)):=⟨by rw[hW2,hem];split;exact s2;exact s1⟩;have KZ2:Aside0 (W2.heap[w.heap.size]? = some (.cells #[.int .u64 sg,.int .i64 fr,.int .i64 tt] 219 (0,0))):=⟨by rw[hW2];split;exact kz2;exact kz1⟩;have hb2:b≤W2.heap.size:=by rw[hW2];split<;>simpa [World.setCell]using hb0
 rw[← hem];have HEM:=QA hem;clear hem;have HC:=QA (Kd.R_reads' S2.out.h).2.2;have HCC:=QA hcc;have HBW:=QA hbw;have HL:=QA hl;have HW2:=QA hW2;clear hS s0 s1 s2 kz kz1 kz2 hr hbw hl hW2
 go_enter_defers Tryz.func145,Tryz.ntmps145
 go_upto_if 21 with fail
 go_cut [22] from 9 to 66 (fun j w'=>w'=W2)
 case first =>
  by_cases hq:fr=tt
  ·have hqb:(fr == tt)=true:=beq_iff_eq.2 hq;have HQ:=QA hq;clear hq;go_wp2
   go_meet
   case rel=>rw[HW2.out,if_pos HQ.out]
  ·have hqb:(fr == tt)=false:=beq_eq_false_iff_ne.2 hq;go_wp2
   go_meet
   case rel=>rw[HW2.out,if_neg hq]
 case rest =>
  have hcut':wc=W2:=hcut;subst hcut';clear hcut HW2 a0 a1 a2 a3 a4 a5 f1 f2 f3 f4 f5 b0 b1 b2 b3 b4 b5 g1 g2 g3 g4 g5 c0 c1 c2 c3 c4 c5 h1 h2 h3 h4 h5 x1 x2;obtain⟨⟨c0,c1,c2,c3,c4,c5⟩,h1,h2,h3,h4,h5⟩:=S2.out.cells;have GR:=Qbw.calls k A c held d q ka va er wc HC.out HCC.out HR.out;have HGR:=QA GR;clear GR
  go_upto_if 43 with(go_at_call 81;refine HGR.out.mono ?_;rintro ee w3 ⟨rfl,hb3⟩;have S3:=QA ((S2.out.below hb3 hb2).below (W':=w3.alloc (.cells #[.bool d,.int .u64 q,.string ka,.string va] 39 (0,0))) (Qcw (Below.refl _ _) _) (Nat.le_trans hb2 hb3.size));have KZ3:=QA (Qef (Qei KZ2.out hb3) (.cells #[.bool d,.int .u64 q,.string ka,.string va] 39 (0,0)));have KR3:=QA (Qej w3 (.cells #[.bool d,.int .u64 q,.string ka,.string va] 39 (0,0)));have hb4:b≤(w3.alloc (.cells #[.bool d,.int .u64 q,.string ka,.string va] 39 (0,0))).heap.size:=by rw[World.size_alloc];exact Nat.le_trans hb2 (Nat.le_trans hb3.size (Nat.le_succ _)))
  obtain⟨W4,hW4⟩:∃W4,W4=w3.alloc (.cells #[.bool d,.int .u64 q,.string ka,.string va] 39 (0,0)):=⟨_,rfl⟩;rw[← hW4]at S3 KZ3 KR3 hb4 ⊢;have hsz4:b≤W4.heap.size:=hb4;clear hW4 hb3 c0 c1 c2 c3 c4 c5 h1 h2 h3 h4 h5 hb2 hb4 S2 KZ2;obtain⟨⟨c0,c1,c2,c3,c4,c5⟩,h1,h2,h3,h4,h5⟩:=S3.out.cells
  by_cases he:er=0
  ·subst he;have s5:=S3.out.set (vh':=.slice A held.length c) (held':=held) (ch':=ch+1) (fo':=fo+1) (em':=em') 4 (.int .i64 (fo+1)) rfl S3.out.h;have kz5:=Qdt KZ3.out (p:=⟨sb,4,none⟩) (Qdy KZ3.out S3.out.s (by decide)) (.int .i64 (fo+1));have kr5:=Qdt KR3.out (p:=⟨sb,4,none⟩) (Qdy KR3.out S3.out.s (by decide)) (.int .i64 (fo+1));have S5:=QA s5;have y0:=(Qdv kz5 0).trans (rfl:_=some (Value.int .u64 sg));have y1:=(Qdv kz5 1).trans (rfl:_=some (Value.int .i64 fr));have y2:=(Qdv kz5 2).trans (rfl:_=some (Value.int .i64 tt));have z0:=(Qdv kr5 0).trans (rfl:_=some (Value.bool d));have z1:=(Qdv kr5 1).trans (rfl:_=some (Value.int .u64 q));have z2:=(Qdv kr5 2).trans (rfl:_=some (Value.string ka));have z3:=(Qdv kr5 3).trans (rfl:_=some (Value.string va));have hsz5:b≤(W4.setCell ⟨sb,4,none⟩ (.int .i64 (fo+1))).heap.size:=by simpa [World.setCell]using hsz4
   clear s5 kz5 kr5
   go_wp2_with (at_builtin;refine Kd.R_append k97 (w0:=W4.setCell ⟨sb,4,none⟩ (.int .i64 (fo+1))) b rfl (.tmp 52) (.tmp 65) 94 97 (.agg #[.bool false,.int .u64 0,.string (⟨#[]⟩:ByteArray),.string (⟨#[]⟩:ByteArray),.int .u64 0,.int .i64 0,.int .i64 0]) 72 rfl Tryz.underlying94 info_fd rfl (by decide) (by omega) (.slice Ao out.length co) out (⟨⟨d,q,ka,va⟩,sg,fr,tt-fr+1⟩:Fd) [.bool d,.int .u64 q,.string ka,.string va,.int .u64 sg,.int .i64 fr,.int .i64 (tt-fr+1)] (fun _=>True) (fun _=>False) rfl ?ax ?aP (fun _ hk=>hk.elim) ?aF ?aO ?aB ?aS ?aL ?_;(case ax=>first |(go_simp;done) |(go_simp;rfl));(case aP=>exact k97_mkM _ _ _ (⟨⟨d,q,ka,va⟩,sg,fr,tt-fr+1⟩:Fd));(case aF=>exact fun _ _=>trivial);(case aO=>exact S5.out.o);(case aB=>exact Below.refl _ _);(case aS=>exact hsz5);(case aL=>have:=HL.out;omega);intro v6 w6 a hb6 g hat6;obtain⟨A6,c6,hv6⟩:=Kd.R_slice a;rw[show(out++[(⟨⟨d,q,ka,va⟩,sg,fr,tt-fr+1⟩:Fd)]).length=out.length+1 from List.length_append]at hv6;subst hv6;have S6:=QA (S5.out.app97 a hb6 g);clear a hb6 g hat6)
   refine leaves_cons (f:=148) (args:=#[.pointer (some ⟨sb,0,none⟩)]) (by simp) (by simp[go_sem]) ?_;refine((Qrd b kc sb c K held _ _ _ _ A _ w w6 S6.out).1 _).mono ?_;rintro e u' w'' ⟨rfl,rfl,hD⟩;show Leaves _ _ _ _ [] .returning _;refine⟨_,results_tmp rfl _ _ w'',_,rfl,.slice A 0 c,?_⟩;unfold endO;rw[if_pos rfl];exact hD
  ·have hne:(er != 0)=true:=bne_iff_ne.2 he;go_wp2;refine leaves_cons (f:=148) (args:=#[.pointer (some ⟨sb,0,none⟩)]) (by simp) (by simp[go_sem]) ?_;refine((Qrd b kc sb c K held _ _ _ _ A _ w W4 S3.out).1 _).mono ?_;rintro e u' w'' ⟨rfl,rfl,hD⟩;show Leaves _ _ _ _ [] .returning _;refine⟨_,results_tmp rfl _ _ w'',_,rfl,.slice A 0 c,?_⟩;unfold endO;rw[if_neg he];exact hD
end Go.Proofs.YtnnofopfbeklbaaGreat.C
end
section
namespace Go.Proofs
open Go.Shelf
def Tryz.sortEnt_ren:Go.Shelf.Ren:=⟨fun|6=>117|15=>164|14=>163|28=>213|29=>214|20=>205|21=>206|22=>207|23=>208|24=>209|25=>210|26=>211|27=>212|46=>227|47=>228|48=>229|49=>230|50=>231|57=>239|n=>n,fun|22=>106|24=>117|25=>186|3=>3|39=>223|0=>0|53=>22|55=>34|4=>4|46=>279|45=>278|50=>283|5=>5|9=>9|66=>300|70=>303|76=>310|77=>311|n=>n,fun|n=>n⟩
theorem Tryz.sortEnt:Go.Proofs.SlLaysF0.n6 Tryz.prog Tryz.sortEnt_ren:={
 mixed:=by kernel_rfl
 f6:=⟨Tryz.f117.name,by decide,Tryz.func117.trans (congrArg some (by kernel_rfl))⟩
 f14:=⟨Tryz.f163.name,by decide,Tryz.func163.trans (congrArg some (by kernel_rfl))⟩
 f15:=Tryz.func164.trans (congrArg some (by kernel_rfl))
 f20:=⟨Tryz.f205.name,by decide,Tryz.func205.trans (congrArg some (by kernel_rfl))⟩
 f21:=⟨Tryz.f206.name,by decide,Tryz.func206.trans (congrArg some (by kernel_rfl))⟩
 f22:=⟨Tryz.f207.name,by decide,Tryz.func207.trans (congrArg some (by kernel_rfl))⟩
 f23:=⟨Tryz.f208.name,by decide,Tryz.func208.trans (congrArg some (by kernel_rfl))⟩
 f24:=⟨Tryz.f209.name,by decide,Tryz.func209.trans (congrArg some (by kernel_rfl))⟩
 f25:=⟨Tryz.f210.name,by decide,Tryz.func210.trans (congrArg some (by kernel_rfl))⟩
 f26:=⟨Tryz.f211.name,by decide,Tryz.func211.trans (congrArg some (by kernel_rfl))⟩
 f27:=⟨Tryz.f212.name,by decide,Tryz.func212.trans (congrArg some (by kernel_rfl))⟩
 f28:=Tryz.func213.trans (congrArg some (by kernel_rfl))
 f29:=Tryz.func214.trans (congrArg some (by kernel_rfl))
 f46:=⟨Tryz.f227.name,by decide,Tryz.func227.trans (congrArg some (by kernel_rfl))⟩
 f47:=Tryz.func228.trans (congrArg some (by kernel_rfl))
 f48:=Tryz.func229.trans (congrArg some (by kernel_rfl))
 f49:=⟨Tryz.f230.name,by decide,Tryz.func230.trans (congrArg some (by kernel_rfl))⟩
 f50:=⟨Tryz.f231.name,by decide,Tryz.func231.trans (congrArg some (by kernel_rfl))⟩
 f57:=⟨Tryz.f239.name,by decide,Tryz.func239.trans (congrArg some (by kernel_rfl))⟩
 t0:=Tryz.underlying0
 a0:=Tryz.isAgg0
 z0:=Tryz.sizeOf0
 v0:=Tryz.zeroValue0
 t3:=Tryz.underlying3
 a3:=Tryz.isAgg3
 z3:=Tryz.sizeOf3
 v3:=Tryz.zeroValue3
 t4:=Tryz.underlying4
 a4:=Tryz.isAgg4
 z4:=Tryz.sizeOf4
 v4:=Tryz.zeroValue4
 t5:=Tryz.underlying5
 a5:=Tryz.isAgg5
 z5:=Tryz.sizeOf5
 v5:=Tryz.zeroValue5
 t9:=Tryz.underlying9
 a9:=Tryz.isAgg9
 z9:=Tryz.sizeOf9
 v9:=Tryz.zeroValue9
 t22:=Tryz.underlying106
 a22:=Tryz.isAgg106
 z22:=Tryz.sizeOf106
 v22:=Tryz.zeroValue106
 t25:=Tryz.underlying186
 a25:=Tryz.isAgg186
 z25:=Tryz.sizeOf186
 v25:=Tryz.zeroValue186
 t39:=Tryz.underlying223
 a39:=Tryz.isAgg223
 z39:=Tryz.sizeOf223
 v39:=Tryz.zeroValue223
 t45:=Tryz.underlying278
 a45:=Tryz.isAgg278
 z45:=Tryz.sizeOf278
 v45:=Tryz.zeroValue278
 t46:=Tryz.underlying279
 a46:=Tryz.isAgg279
 z46:=Tryz.sizeOf279
 v46:=Tryz.zeroValue279
 t50:=Tryz.underlying283
 a50:=Tryz.isAgg283
 z50:=Tryz.sizeOf283
 v50:=Tryz.zeroValue283
 t53:=Tryz.underlying22
 a53:=Tryz.isAgg22
 z53:=Tryz.sizeOf22
 v53:=Tryz.zeroValue22
 t55:=Tryz.underlying34
 a55:=Tryz.isAgg34
 z55:=Tryz.sizeOf34
 v55:=Tryz.zeroValue34
 t66:=Tryz.underlying300
 a66:=Tryz.isAgg300
 z66:=Tryz.sizeOf300
 v66:=Tryz.zeroValue300
 t70:=Tryz.underlying303
 a70:=Tryz.isAgg303
 z70:=Tryz.sizeOf303
 v70:=Tryz.zeroValue303
 t76:=Tryz.underlying310
 a76:=Tryz.isAgg310
 z76:=Tryz.sizeOf310
 v76:=Tryz.zeroValue310
 t77:=Tryz.underlying311
 a77:=Tryz.isAgg311
 z77:=Tryz.sizeOf311
 v77:=Tryz.zeroValue311 }
def Tryz.hasEnt_ren:Go.Shelf.Ren:=⟨fun|8=>161|6=>203|n=>n,fun|22=>106|23=>117|25=>233|4=>4|3=>3|0=>0|n=>n,fun|n=>n⟩
theorem Tryz.hasEnt:Go.Proofs.SlLaysH0.n8 Tryz.prog Tryz.hasEnt_ren:={
 mixed:=by kernel_rfl
 f6:=⟨Tryz.f203.name,by decide,Tryz.func203.trans (congrArg some (by kernel_rfl))⟩
 f8:=⟨Tryz.f161.name,by decide,Tryz.func161.trans (congrArg some (by kernel_rfl))⟩
 t0:=Tryz.underlying0
 a0:=Tryz.isAgg0
 z0:=Tryz.sizeOf0
 v0:=Tryz.zeroValue0
 t3:=Tryz.underlying3
 a3:=Tryz.isAgg3
 z3:=Tryz.sizeOf3
 v3:=Tryz.zeroValue3
 t4:=Tryz.underlying4
 a4:=Tryz.isAgg4
 z4:=Tryz.sizeOf4
 v4:=Tryz.zeroValue4
 t22:=Tryz.underlying106
 a22:=Tryz.isAgg106
 z22:=Tryz.sizeOf106
 v22:=Tryz.zeroValue106
 t25:=Tryz.underlying233
 a25:=Tryz.isAgg233
 z25:=Tryz.sizeOf233
 v25:=Tryz.zeroValue233 }
def Tryz.cloneEnt_ren:Go.Shelf.Ren:=⟨fun|41=>116|n=>n,fun|22=>106|23=>117|4=>4|n=>n,fun|n=>n⟩
theorem Tryz.cloneEnt:Go.Proofs.SlLaysE0.n41 Tryz.prog Tryz.cloneEnt_ren:={
 mixed:=by kernel_rfl
 f41:=⟨Tryz.f116.name,by decide,Tryz.func116.trans (congrArg some (by kernel_rfl))⟩
 t4:=Tryz.underlying4
 a4:=Tryz.isAgg4
 z4:=Tryz.sizeOf4
 v4:=Tryz.zeroValue4
 t22:=Tryz.underlying106
 a22:=Tryz.isAgg106
 z22:=Tryz.sizeOf106
 v22:=Tryz.zeroValue106 }
end Go.Proofs
end
section
namespace Go.Proofs.YtnnofopfbeklbaaGreat.C
open Go.RowKit Go.Proofs.YtnnofopfbeklbaaGreatW.PrintWords Go.Proofs.YtnnofopfbeklbaaGreatW.PrintLast Go.Proofs.YtnnofopfbeklbaaGreatW.PrintMore
open Go.Sort
abbrev Ent:=S117
def cfE(x y:Ent):Int:=if x.f0<y.f0 then -1 else if y.f0<x.f0 then 1 else if x.f1<y.f1 then -1 else if y.f1<x.f1 then 1 else 0
def ci(a b:Int):Int:=if a<b then -1 else if b<a then 1 else 0
theorem Qrg(a b:Int):Qag.f a b=some (ci a b):=by
 unfold Qag.f Qaj.f ci;simp;split
 ·rfl
 ·split<;>rfl
theorem Qrh(a b:Int):Qaf.f a b=some (ci a b):=by
 unfold Qaf.f Qai.f ci;simp;split
 ·rfl
 ·split<;>rfl
def orI(a b:Int):Int:=if a=0 then b else a
theorem or_is(a b:Int):Qah.f 4 [a,b]=some (orI a b):=by
 have r0:YtnnofopfbeklbaaGreatW.PrintWords.rd [a,b] 0=a:=rfl;have r1:YtnnofopfbeklbaaGreatW.PrintWords.rd [a,b] 1=b:=rfl;simp[Qah.f,Qah.l0,wrap64,r0,r1,orI];split
 ·split<;>simp_all
 ·rfl
theorem Qri(x y:Ent):orI (ci x.f0 y.f0) (ci x.f1 y.f1)=cfE x y:=by
 unfold orI ci cfE
 by_cases h1:x.f0<y.f0
 ·simp[h1]
 ·by_cases h2:y.f0<x.f0<;>simp[h1,h2]
def Gr(w w':World):Prop:=∃q os,w'=grow (w.drewN q) os
theorem Gr.refl(w:World):Gr w w:=⟨0,#[],by simp;rfl⟩
theorem Gr.drewN{w w':World}(h:Gr w w')(n:Nat):Gr w (w'.drewN n):=by
 obtain⟨q,os,rfl⟩:=h;exact⟨q+n,os,by simp[grow,World.drewN,Nat.add_assoc]⟩
theorem Gr.drew{w w':World}(h:Gr w w'):Gr w w'.drew:=h.drewN 1
theorem Gr.alloc{w w':World}(h:Gr w w')(o:Obj):Gr w (w'.alloc o):=by
 obtain⟨q,os,rfl⟩:=h;exact⟨q,os++#[o],by rw[alloc_eq_grow,grow_grow]⟩
theorem Qrj(a b:Int)(W:World):Calls Tryz.prog 166 #[.int .u64 a,.int .u64 b] W fun e w'=>e=.returned (.int .i64 (ci a b))∧Drawn0 W w':=Qag.calls a b _ W (Qrg a b)
theorem Qrk(a b:Int)(W:World):Calls Tryz.prog 167 #[.int .u32 a,.int .u32 b] W fun e w'=>e=.returned (.int .i64 (ci a b))∧Drawn0 W w':=Qaf.calls a b _ W (Qrh a b)
theorem or_at(a b:Int)(W:World):Calls Tryz.prog 165 #[.slice (some ⟨W.heap.size,0,none⟩) 2 2] (W.alloc (.cells #[.int .i64 a,.int .i64 b] 3)) fun e w'=>e=.returned (.int .i64 (orI a b))∧Drawn0 (W.alloc (.cells #[.int .i64 a,.int .i64 b] 3)) w':=by
 have hC:Kd.C (Kd.int .i64) (W.alloc (.cells #[.int .i64 a,.int .i64 b] 3)) (some ⟨W.heap.size,0,none⟩) [a,b].length [a,b] :=
  Kd.C_of_reads (d:=(0:Int)) ⟨rfl,by simp,fun _=>⟨_,rfl,fun j hj=>by
   have hj':j<2:=hj;have hb:=Qdv (Qej W (.cells #[.int .i64 a,.int .i64 b] 3)) j;rw[Qdb,hb];have:j=0∨j=1:=by omega
   rcases this with rfl|rfl<;>rfl⟩⟩
 exact Qah.calls 4 _ 2 [a,b] _ _ hC (by simp) (or_is a b)
theorem cmp_gr(x y:Ent)(w:World):Calls Tryz.prog 118 #[.agg #[.int .u64 x.f0,.int .u32 x.f1],.agg #[.int .u64 y.f0,.int .u32 y.f1]] w fun e w'=>e=.returned (.int .i64 (cfE x y))∧Gr w w':=by
 have hu:=Tryz.underlying117;have b1:=Qej w (.cells #[.int .u64 x.f0,.int .u32 x.f1] 117);have b1':=Qef b1 (.cells #[.int .u64 y.f0,.int .u32 y.f1] 117);have b2:=Qej (w.alloc (.cells #[.int .u64 x.f0,.int .u32 x.f1] 117)) (.cells #[.int .u64 y.f0,.int .u32 y.f1] 117);have hg:Gr w ((w.alloc (.cells #[.int .u64 x.f0,.int .u32 x.f1] 117)).alloc (.cells #[.int .u64 y.f0,.int .u32 y.f1] 117)):=((Gr.refl w).alloc _).alloc _;rw[World.size_alloc]at b2;obtain⟨W,hW⟩:∃W,W=(w.alloc (.cells #[.int .u64 x.f0,.int .u32 x.f1] 117)).alloc (.cells #[.int .u64 y.f0,.int .u32 y.f1] 117):=⟨_,rfl⟩;rw[← hW]at b1' b2 hg;have c0:W.cell? ⟨w.heap.size,0,none⟩=some (.int .u64 x.f0):=(Qdv b1' 0).trans rfl;have c1:W.cell? ⟨w.heap.size,1,none⟩=some (.int .u32 x.f1):=(Qdv b1' 1).trans rfl;have c2:W.cell? ⟨w.heap.size+1,0,none⟩=some (.int .u64 y.f0):=(Qdv b2 0).trans rfl;have c3:W.cell? ⟨w.heap.size+1,1,none⟩=some (.int .u32 y.f1):=(Qdv b2 1).trans rfl;have HW:=QA hW;clear hW b1 b1' b2
 go_enter Tryz.func118,Tryz.ntmps118
 go_wp2_with fail
 rw[← HW.out]
 go_region_held3 (fun w'=>w'.cell? ⟨w.heap.size,0,none⟩=some (.int .u64 x.f0)∧w'.cell? ⟨w.heap.size,1,none⟩=some (.int .u32 x.f1)∧w'.cell? ⟨w.heap.size+1,0,none⟩=some (.int .u64 y.f0)∧w'.cell? ⟨w.heap.size+1,1,none⟩=some (.int .u32 y.f1)) (go_keep) (first
  |(go_at_call 166;refine(Qrj _ _ _).mono ?_;rintro e w7 ⟨rfl,hd⟩;obtain⟨q1,rfl⟩:=hd.out;clear hd)
  |(go_at_call 167;refine(Qrk _ _ _).mono ?_;rintro e w7 ⟨rfl,hd⟩;obtain⟨q2,rfl⟩:=hd.out;clear hd)
  |(go_at_call 165;refine(or_at _ _ _).mono ?_;rintro e w7 ⟨rfl,hd⟩;obtain⟨q3,rfl⟩:=hd.out;clear hd))
 all_goals
  go_wp2;go_ret
  refine⟨by(rw[← Qri];rfl),?_⟩
  repeat(first|exact hg|apply Gr.drewN|apply Gr.drew|apply Gr.alloc)
end Go.Proofs.YtnnofopfbeklbaaGreat.C
end
section
namespace Go.Proofs.YtnnofopfbeklbaaGreat.C
open Go.RowKit Go.Proofs.YtnnofopfbeklbaaGreatW.PrintWords Go.Proofs.YtnnofopfbeklbaaGreatW.PrintLast Go.Proofs.YtnnofopfbeklbaaGreatW.PrintMore
abbrev SvS:=KS × List Int × Int × Int × Int × List Fd
noncomputable def Qrl(k:Nat)(S:SvS)(x:Int):Option SvS :=
 if x=0 then(Qbw.f k S.2.1).bind fun r=>some (cutN S.1 x,[],S.2.2.1+1,(if r.2.2.2.2=0 then S.2.2.2.1+1 else S.2.2.2.1),(if S.1.2.2.2=S.1.2.2.1 then S.2.2.2.2.1+1 else S.2.2.2.2.1),endO S.2.2.2.2.2 r.2.2.2.2 r.1 r.2.1 r.2.2.1 r.2.2.2.1 S.1.2.1 S.1.2.2.2 S.1.2.2.1)
 else some (cutN S.1 x,(if(cutN S.1 x).2.2.1-(cutN S.1 x).2.2.2=0 then []else S.2.1++[x]),S.2.2.1,S.2.2.2.1,S.2.2.2.2.1,S.2.2.2.2.2)
noncomputable def Qrm(k:Nat):SvS→List Int→Option SvS
 | S,[]=>some S
 | S,x :: l=>(Qrl k S x).bind fun S'=>Qrm k S' l
def svB(S:SvS)(i:Int):Prop:=(0≤S.1.2.2.2∧S.1.2.2.2≤S.1.2.2.1∧S.1.2.2.1≤1000000+i)∧(0≤S.1.2.1∧S.1.2.1<18446744073709551616)∧((S.2.1.length:Int)≤i)∧(0≤S.2.2.1∧S.2.2.1≤1000000+i)∧(0≤S.2.2.2.1∧S.2.2.2.1≤1000000+i)∧(0≤S.2.2.2.2.1∧S.2.2.2.2.1≤1000000+i)∧((S.2.2.2.2.2.length:Int)≤i)
theorem Qrn{K:KS}{x:Int}{m:Int}(h:0≤K.2.2.2∧K.2.2.2≤K.2.2.1∧K.2.2.1≤m)(hs:0≤K.2.1∧K.2.1<18446744073709551616)(hm:0≤m):(0≤(cutN K x).2.2.2∧(cutN K x).2.2.2≤(cutN K x).2.2.1∧(cutN K x).2.2.1≤m+1)∧0≤(cutN K x).2.1∧(cutN K x).2.1<18446744073709551616:=by
 unfold cutN cutF;split
 ·dsimp only;omega
 ·dsimp only;split<;>omega
theorem svOne_B{k:Nat}{S S':SvS}{x i:Int}(h:svB S i)(hi:0≤i)(hs:Qrl k S x=some S'):svB S' (i+1):=by
 obtain⟨K,held,ch,fo,em,out⟩:=S;obtain⟨h1,h2,h3,h4,h5,h6,h7⟩:=h;obtain⟨c1,c2⟩:=Qrn (x:=x) h1 h2 (by omega);unfold Qrl at hs;dsimp only at hs h1 h2 h3 h4 h5 h6 h7 c1 c2;split at hs
 ·obtain⟨r,hr,hs⟩:=Option.bind_eq_some_iff.mp hs;simp only[Option.some.injEq]at hs;subst hs;unfold svB endO;dsimp only;refine⟨by omega,c2,by simp;omega,by omega,?_,?_,?_⟩
  ·split<;>omega
  ·split<;>omega
  ·split
   ·rw[List.length_append];simp only[List.length_singleton];omega
   ·omega
 ·simp only[Option.some.injEq]at hs;subst hs;unfold svB;dsimp only;refine⟨by omega,c2,?_,by omega,by omega,by omega,by omega⟩;split
  ·simp;omega
  ·rw[List.length_append];simp only[List.length_singleton];omega
def SvAt(w W:World)(b kc sb:Nat)(S:SvS)(vo:Value):Prop:=∃vh,SSt w W b kc sb S.1 S.2.1 S.2.2.1 S.2.2.2.1 S.2.2.2.2.1 S.2.2.2.2.2 vh vo
theorem at_Ck{w:World}{A:Option Addr}{n:Nat}{xs:List Ck}(h:Kd.C kCk w A n xs)(i:Int)(h0:0≤i)(h1:i<n):∃ad , A=some ad∧w.cell? (ad.add (i.toNat*3))=some (.int .u64 (xs.getD i.toNat (0,0,0)).1)∧w.cell? ⟨(ad.add (i.toNat*3)).block,(ad.add (i.toNat*3)).off+1,none⟩=some (.int .i64 (xs.getD i.toNat (0,0,0)).2.1)∧w.cell? ⟨(ad.add (i.toNat*3)).block,(ad.add (i.toNat*3)).off+2,none⟩=some (.int .i64 (xs.getD i.toNat (0,0,0)).2.2):=by
 obtain⟨ad,c,e,_,hK,hc0⟩:=Kd.C_get h (0,0,0) i h0 h1;have hc:∀j u,c[j]? = some u→w.cell? (ad.add (i.toNat*3+j))=some u:=hc0;obtain rfl:=Qoz hK;exact⟨ad,e,hc 0 _ rfl,by rw[← Qdq _ _ 1 (by omega)];exact hc 1 _ rfl,by rw[← Qdq _ _ 2 (by omega)];exact hc 2 _ rfl⟩
theorem SSt.rebase{w W:World}{b kc sb:Nat}{K:KS}{held:List Int}{ch fo em:Int}{out:List Fd}{vh vo:Value}(h:SSt w W b kc sb K held ch fo em out vh vo):SSt W W b kc sb K held ch fo em out vh vo:=⟨h.k,h.s,h.h,h.o,Below.refl _ _,h.bk,h.bs⟩
theorem SSt.over{w W W':World}{b kc sb:Nat}{K:KS}{held:List Int}{ch fo em:Int}{out:List Fd}{vh vo:Value}(h:SSt W W' b kc sb K held ch fo em out vh vo)(hb:Below b w W):SSt w W' b kc sb K held ch fo em out vh vo:=⟨h.k,h.s,h.h,h.o,hb.trans h.low,h.bk,h.bs⟩
theorem Qro (k b kc sb:Nat) (S0 S1:SvS) (A:Option Addr) (c:Nat) (l:List Int) (w:World) (hS:SvAt w w b kc sb S0 (.slice none 0 0)) (hbw:b≤w.heap.size) (hC:∀W,Below b w W→Kd.C (Kd.int .u8) W A l.length l) (hlc:l.length≤c) (hB:svB S0 1000) (hl:l.length≤100000) (h:Qrm k S0 l=some S1) :
  Calls Tryz.prog 91 #[.pointer (some ⟨sb,0,none⟩),.slice A l.length c] w fun e w'=>∃vo,e=.returned vo∧SvAt w w' b kc sb S1 vo:=by
 have hu:=Tryz.underlying216;have HS:=QA hS;have HC:=QA hC;have HB:=QA hB;have HH:=QA h;clear hS hC hB h
 go_enter Tryz.func91,Tryz.ntmps91
 go_wp2_with fail
 go_loopw [5,6,8,11,25] (fun v5 v6 v8 p a wr=>∃(i:Nat) (iv:Int) (S:SvS),p=.int .i64 iv∧i≤l.length∧Aside0 (iv=(i:Int))∧Aside0 (Qrm k S (l.drop i)=some S1)∧Aside0 (svB S (1000+(i:Int)))∧Aside0 (SvAt w wr b kc sb S v5))
  (fun _ _ _ p _ _=>l.length-(intOf p).toNat)
 case atStart=>exact⟨0,0,S0,rfl,Nat.zero_le _,⟨rfl⟩,⟨by rw[List.drop_zero];exact HH.out⟩,⟨HB.out⟩,HS⟩
 case round =>
  clear HS HB HH;obtain⟨i,iv,S,rfl,hi,HI,HA,HB,HSv⟩:=hrel;obtain⟨vh,hSS⟩:=HSv.out
  by_cases hlt:i<l.length
  ·have hge:0≤iv:=by have:=HI.out;omega
   have hl2:iv<(l.length:Int):=by have:=HI.out;omega
   have hwi:IntKind.i64.wrap (iv+1)=iv+1:=IntWalk.i64_in _ (by omega);obtain⟨K,held,ch,fo,em,out⟩:=S;obtain⟨sz,sg,at_,fr⟩:=K;obtain⟨Ah,chh,hvh⟩:=Kd.R_slice hSS.h;subst hvh;obtain⟨Ao,co,hvo⟩:=Kd.R_slice hSS.o;subst hvo;have q:=QA hSS;have hlow:=hSS.low;obtain⟨x,hx⟩:∃x,x=YtnnofopfbeklbaaGreatW.PrintWords.rd l iv:=⟨_,rfl⟩;have HX:=QA hx;have hdrop:l.drop i=x :: l.drop (i+1):=by
    rw[hx,HI.out,List.drop_eq_getElem_cons hlt];simp[YtnnofopfbeklbaaGreatW.PrintWords.rd,List.getD_eq_getElem?_getD,List.getElem?_eq_getElem hlt]
   have hmid:(l.take (iv+1).toNat).drop iv.toNat=[x]:=by
    rw[List.drop_take,show iv.toNat=i by have:=HI.out;omega,show(iv+1).toNat-i=1 by have:=HI.out;omega,hdrop];rfl
   have ha:=HA.out;rw[hdrop]at ha;obtain⟨S2,hs2,ha2⟩:=Option.bind_eq_some_iff.mp (show(Qrl k ((sz,sg,at_,fr),held,ch,fo,em,out) x).bind (fun S'=>Qrm k S' (l.drop (i+1)))=some S1 from ha);have r:=QA (svOne_B HB.out (by omega) hs2);have HA2:=QA ha2;have HS2:=QA hs2;obtain⟨i0,hii,_,hsz,_⟩:=info_parts Qiq;have hcut:=Qfg (P:=Tryz.prog) 52 5 .i64 .i64 Tryz.underlying52 hii 1 hsz A l.length c iv (iv+1) hge (by omega) (by omega) hlc;obtain⟨A3,hA3⟩:∃A3,A3=(if c=iv.toNat then A else A.map (·.add (iv.toNat*1))):=⟨_,rfl⟩;obtain⟨c3,hc3⟩:∃c3,c3=c-iv.toNat:=⟨_,rfl⟩;have HCx:=QA (show ∀W',Below b wr.drew W'→Kd.C (Kd.int .u8) W' A3 [x].length [x] from fun W' hb'=>by
    have hCC:=Kd.C_mid (lo:=iv.toNat) (hi:=(iv+1).toNat) (HC.out W' ((hlow.trans (Qcx (Below.refl _ _))).trans hb')) (by omega) (by omega) hlc;rw[hmid]at hCC;rw[hA3];exact hCC)
   rw[← hA3,← hc3,show(iv+1).toNat-iv.toNat=[x].length by simp;omega]at hcut;have hbr:b≤wr.drew.heap.size:=Nat.le_trans hbw hlow.size;obtain⟨⟨c0,c1,c2,m,c4,c5⟩,f1,f2,f3,f4,f5⟩:=hSS.cells;have d0:wr.drew.cell? ⟨sb,0,none⟩=some (.pointer (some ⟨kc,0,none⟩)):=c0;have HK:=QA (show IsK wr.drew kc (sz,sg,at_,fr) from hSS.k);have HBB:=QA HB.out;clear ha ha2 hs2 hdrop hmid hA3 hc3 hii hsz hx hSS HA HSv HB c1 c2 m c4 c5 f1 f2 f3 f4 f5 hlow
   go_upto_region 5 with fail
   go_region_law (first
    |(go_simp;go_at_call 144;refine(Qpb b kc (sz,sg,at_,fr) A3 c3 [x] _ HK.out q.out.bk hbr HCx.out (by simp) (by have:=HBB.out.1;dsimp only at this ⊢;omega) HBB.out.2.1).mono ?_;rintro ee w2 ⟨v2,rfl,h2⟩;obtain⟨A2,c2,hv2⟩:=Kd.R_slice h2.row;subst hv2;have HK2:=QA h2;clear h2))
   all_goals
    have hcs:(cutA (sz,sg,at_,fr) [x]).1=cutO (sz,sg,at_,fr) x:=by simp[cutA]
    have hcn:(cutA (sz,sg,at_,fr) [x]).2=cutN (sz,sg,at_,fr) x:=rfl;have s2:=q.out.below (W':=wr.drew) (Qcx (Below.refl _ _)) (Nat.le_trans hbw q.out.low.size);have s3:=s2.cut HK2.out.k HK2.out.kt HK2.out.low;rw[hcn]at s3;have HS3:=QA s3;have hb3:b≤w2.heap.size:=Nat.le_trans hbr HK2.out.low.size;clear s2 s3 hcn d0 hcut hb3
    by_cases d:x=0
    ·subst d;have hA3:=HS2.out;unfold Qrl at hA3;rw[if_pos rfl]at hA3;obtain⟨⟨rd,rq,rk,rv,re⟩,hgr,hA4⟩:=Option.bind_eq_some_iff.mp hA3;have HA4:=QA (Option.some.inj hA4);have hn:cutO (sz,sg,at_,fr) 0=[(sg,fr,at_)]:=rfl;have hrow:=HK2.out.row;rw[hcs,hn]at hrow;have HGR:=QA (show Qbw.f k held=some (rd,rq,rk,rv,re) from hgr);rw[hcs,hn];clear hcs hn hA3 hA4 hgr;obtain⟨ad,hAd,g⟩:=Kd.at_int (HC.out w2 HS3.out.low) iv hge hl2;rw[← HX.out]at g;subst hAd;have hkb:=(Qrn (x:=0) HBB.out.1 HBB.out.2.1 (by omega)).1;have hop:(cutN (sz,sg,at_,fr) 0).2.2.1-(cutN (sz,sg,at_,fr) 0).2.2.2=0:=by
      unfold cutN cutF;split
      ·rfl
      ·simp
     obtain⟨Kn,hKn⟩:∃Kn,Kn=cutN (sz,sg,at_,fr) 0:=⟨_,rfl⟩;dsimp only at hkb;rw[← hKn]at hkb HS3 HA4 hop;have n:=QA (show 0≤Kn.2.2.2∧Kn.2.2.2≤Kn.2.2.1∧Kn.2.2.1≤1000000000000 from⟨hkb.1,hkb.2.1,by omega⟩);have HROW:=QA hrow;have HOP:=QA hop;have hob:(Kn.2.2.1-Kn.2.2.2 == 0)=true:=beq_iff_eq.2 hop;have HS2K:=QA (show S2.1=Kn∧S2.2.1=[]by rw[← HA4.out];exact⟨rfl,rfl⟩);have HAT:=QA HBB.out;clear hkb hKn hrow hop hob g
     go_wp2_with fail
     go_loopw [5,8,25] (fun v5 v8 a wi=>∃(j:Nat) (jv:Int) (S':SvS),a=.int .i64 jv∧Aside0 (jv=(j:Int))∧Aside0 ((j=0∧S'=(Kn,held,ch,fo,em,out)∧wi=w2∧v5=.slice Ao out.length co)∨(j=1∧S'=S2))∧Aside0 (SvAt w wi b kc sb S' v5))
      (fun _ _ a _=>1-(intOf a).toNat)
     case atStart=>exact⟨0,0,_,rfl,⟨rfl⟩,⟨.inl ⟨rfl,rfl,rfl,rfl⟩⟩,⟨_,HS3.out⟩⟩
     case round =>
      obtain⟨j,jv,S',rfl,HJ,HCASE,HSi⟩:=hrel
      rcases HCASE.out with⟨hj,hS',hwi2,hv5⟩ |⟨hj,hS'⟩
      ·subst hS' hwi2 hv5;clear HCASE HSi;have hgej:0≤jv:=by have:=HJ.out;omega
       have hltj:jv<1:=by have:=HJ.out;omega
       have hwj:IntKind.i64.wrap (jv+1)=jv+1:=IntWalk.i64_in _ (by omega);obtain⟨adk,hAk,k0,k1,k2⟩:=at_Ck (Kd.R_reads' HROW.out).2.2 jv hgej qq_20;have hgd:[(sg,fr,at_)].getD jv.toNat (0,0,0)=(sg,fr,at_):=by
        rw[show jv.toNat=0 by have:=HJ.out;omega];rfl
       rw[hgd]at k0 k1 k2;subst hAk;have HJ1:=QA (show jv=0 by have:=HJ.out;omega);have kn:=Qej wr (.cells #[.int .u64 sg,.int .i64 fr,.int .i64 at_] 219 (0,0));have n0:=(Qdv kn 0).trans (rfl:_=some (Value.int .u64 sg));have n1:=(Qdv kn 1).trans (rfl:_=some (Value.int .i64 fr));have n2:=(Qdv kn 2).trans (rfl:_=some (Value.int .i64 at_));have HEND:=QA (sv_end k b kc sb chh Kn held ch fo em sg fr at_ out Ah (.slice Ao out.length co) rd rq rk rv re _ (HS3.out.below (W':=wr.alloc (.cells #[.int .u64 sg,.int .i64 fr,.int .i64 at_] 219 (0,0))) (Qcw (Below.refl _ _) _) (Nat.le_trans hbw HS3.out.low.size)).rebase (by rw[World.size_alloc];exact Nat.le_succ_of_le (Nat.le_trans hbw HS3.out.low.size)) HGR.out (by have:=HAT.out;dsimp only[svB]at this;omega) (by have:=HAT.out.1;dsimp only at this;omega) (by have:=HAT.out.2.2.2.2.2.2;dsimp only at this;omega));clear hgd kn hj
       go_wp2_with (go_at_call 145;refine HEND.out.mono ?_;rintro ee w5 ⟨vo5,vh5,rfl,h5⟩;have HS5:=QA (h5.over (HS3.out.low.trans (Qjp (Qcw (Below.refl _ _) _) (Nat.le_trans hbw HS3.out.low.size))));clear h5)
       go_roundw
       case rel=>exact⟨1,jv+1,S2,rfl,⟨by have:=HJ1.out;omega⟩,⟨.inr ⟨rfl,rfl⟩⟩,⟨_,by rw[← HA4.out];exact HS5.out⟩⟩
       case measure=>have:=HJ1.out;simp[intOf];omega
      ·have hS2:=hS';subst hS2;obtain⟨vhi,hsi⟩:=HSi.out;obtain⟨Ai,ci,hvi⟩:=Kd.R_slice hsi.h;subst hvi;have hltj:¬jv<1:=by have:=HJ.out;omega
       have hltd:decide (jv<1)=false:=decide_eq_false hltj;obtain⟨ad',hAd',g⟩:=Kd.at_int (HC.out wr hsi.low) iv hge hl2
       cases hAd'
       rw[← HX.out]at g;obtain⟨⟨c0,c1,c2,m,c4,c5⟩,f1,f2,f3,f4,f5⟩:=hsi.cells;have HSI:=QA hsi;have hob:(S'.1.2.2.1-S'.1.2.2.2 == 0)=true:=by rw[HS2K.out.1];exact beq_iff_eq.2 HOP.out
       clear HCASE HSi hsi hj hltj c1 c2 m c4 c5 f1 f2 f3 f4 f5
       go_wp2_with (first
        |(go_at_call 148;refine(Qrd b kc sb ci _ S'.2.1 _ _ _ _ Ai _ w _ HS6.out).2.mono ?_;rintro ee w7 ⟨rfl,h7⟩;have HS7:=QA h7;clear h7)
        |(go_at_call 147;refine(Qrf kc _ _ HSI.out.k (by rw[HS2K.out.1];exact n.out)).mono ?_;rintro ee w6 ⟨rfl,hb6⟩;have HS6:=QA (HSI.out.below hb6 (Nat.le_trans hbw HSI.out.low.size));clear hb6))
       go_roundw
       case rel =>
        refine⟨i+1,iv+1,S',rfl,hlt,⟨by have:=HI.out;omega⟩,HA2,⟨by have:=r.out;rw[show(1000:Int)+((i+1:Nat):Int)=1000+(i:Int)+1 by omega];exact this⟩,⟨.slice Ai 0 ci,?_⟩⟩;rw[HS2K.out.2];exact HS7.out
       case measure=>have:=HI.out;simp[intOf];omega
    ·have hn:cutO (sz,sg,at_,fr) x=[]:=by unfold cutO;rw[if_neg d]
     have hxb:(x != 0)=true:=bne_iff_ne.2 d;have HX0:=QA d;have hA3:=HS2.out;unfold Qrl at hA3;rw[if_neg d]at hA3;have hA4:=Option.some.inj hA3;have HA4:=QA hA4;rw[hcs,hn];clear hcs hn d hA3 hA4;obtain⟨ad,hAd,g⟩:=Kd.at_int (HC.out w2 HS3.out.low) iv hge hl2;rw[← HX.out]at g;subst hAd;have hkb:=(Qrn (x:=x) HBB.out.1 HBB.out.2.1 (by omega)).1;obtain⟨Kn,hKn⟩:∃Kn,Kn=cutN (sz,sg,at_,fr) x:=⟨_,rfl⟩;dsimp only at hkb;rw[← hKn]at hkb HS3 HA4;have n:=QA (show 0≤Kn.2.2.2∧Kn.2.2.2≤Kn.2.2.1∧Kn.2.2.1≤1000000000000 from⟨hkb.1,hkb.2.1,by omega⟩);have HLH:=QA (show held.length<1060000 by have:=HBB.out.2.2.1;dsimp only at this;omega);clear hkb hKn
     go_wp2_with fail
     go_loopw [5,8,25] (fun v5 v8 a wi=>v5=.slice Ao out.length co∧a=.int .i64 0∧wi=w2)
      (fun _ _ _ _=>0)
     case atStart=>exact⟨rfl,rfl,rfl⟩
     case round =>
      obtain⟨rfl,rfl,rfl⟩:=hrel;obtain⟨⟨c0,c1,c2,m,c4,c5⟩,f1,f2,f3,f4,f5⟩:=HS3.out.cells;obtain⟨oo,hoo⟩:∃oo,oo=Kn.2.2.1-Kn.2.2.2:=⟨_,rfl⟩
      by_cases ho:Kn.2.2.1-Kn.2.2.2=0
      ·have hob:(Kn.2.2.1-Kn.2.2.2 == 0)=true:=beq_iff_eq.2 ho
       go_wp2_with (first
        |(go_at_call 148;obtain⟨A7,c7,hv7⟩:=Kd.R_slice HS6.out.h;refine(Qrd b kc sb c7 _ (held++[x]) _ _ _ _ A7 _ w _ (by rw[← hv7];exact HS6.out)).2.mono ?_;rintro ee w7 ⟨rfl,h7⟩;have HS7:=QA h7;clear h7 hv7)
        |(go_at_call 147;refine(Qrf kc _ _ HS5.out.k (by have:=n.out;exact this)).mono ?_;rintro ee w6 ⟨rfl,hb6⟩;have HS6:=QA (HS5.out.below hb6 (Nat.le_trans hbw HS5.out.low.size));clear hb6)
        |(go_at_call 146;refine(Qre b kc sb chh Kn held ch fo em x out Ah _ w _ HS3.out (Nat.le_trans hbw HS3.out.low.size) HLH.out).mono ?_;rintro ee w5 ⟨s,rfl,h5⟩;have HS5:=QA h5;clear h5;obtain⟨⟨q0,_,_,_,_,_⟩,_⟩:=HS5.out.cells))
       go_roundw
       case rel =>
        refine⟨i+1,iv+1,S2,rfl,hlt,⟨by have:=HI.out;omega⟩,HA2,⟨by have:=r.out;rw[show(1000:Int)+((i+1:Nat):Int)=1000+(i:Int)+1 by omega];exact this⟩,⟨?_⟩⟩;rw[← HA4.out];refine⟨.slice A7 0 c7,?_⟩;(try dsimp only);rw[if_pos ho];exact HS7.out
       case measure=>have:=HI.out;simp[intOf];omega
      ·have hob:(Kn.2.2.1-Kn.2.2.2 == 0)=false:=beq_eq_false_iff_ne.2 ho
       go_wp2_with (first
        |(go_at_call 147;refine(Qrf kc _ _ HS5.out.k (by have:=n.out;exact this)).mono ?_;rintro ee w6 ⟨rfl,hb6⟩;have HS6:=QA (HS5.out.below hb6 (Nat.le_trans hbw HS5.out.low.size));clear hb6)
        |(go_at_call 146;refine(Qre b kc sb chh Kn held ch fo em x out Ah _ w _ HS3.out (Nat.le_trans hbw HS3.out.low.size) HLH.out).mono ?_;rintro ee w5 ⟨s,rfl,h5⟩;have HS5:=QA h5;clear h5;obtain⟨⟨q0,_,_,_,_,_⟩,_⟩:=HS5.out.cells))
       go_roundw
       case rel =>
        refine⟨i+1,iv+1,S2,rfl,hlt,⟨by have:=HI.out;omega⟩,HA2,⟨by have:=r.out;rw[show(1000:Int)+((i+1:Nat):Int)=1000+(i:Int)+1 by omega];exact this⟩,⟨?_⟩⟩;rw[← HA4.out];refine⟨s,?_⟩;(try dsimp only);rw[if_neg ho];exact HS6.out
       case measure=>have:=HI.out;simp[intOf];omega
  ·obtain rfl:i=l.length:=by omega
   have e1:iv=_:=HI.out;subst e1;have ha:=HA.out;rw[List.drop_of_length_le (Nat.le_refl _)]at ha;have e2:S=S1:=Option.some.inj ha;subst e2;clear ha;go_wp2;go_ret
   exact⟨_,rfl,HSv.out⟩
end Go.Proofs.YtnnofopfbeklbaaGreat.C
end
section
namespace Go.Proofs.YtnnofopfbeklbaaGreat.C
open Go.RowKit Go.Proofs.YtnnofopfbeklbaaGreatW.PrintWords Go.Proofs.YtnnofopfbeklbaaGreatW.PrintLast Go.Proofs.YtnnofopfbeklbaaGreatW.PrintMore
attribute [local go_sem] Qib Qic Qid Qie
def Qrp(a0:Int):SvS:=((if 1<a0 then a0 else 1,0,0,0),[],0,0,0,[])
noncomputable def Qcq.f(k:Nat)(a0:Int)(l1:List Int):Option (List Fd):=if l1.length≤100000 then(Qrm k (Qrp a0) l1).bind fun S=>some S.2.2.2.2.2 else none
theorem cut_New(a0:Int)(w:World) :
  Calls Tryz.prog 143 #[.int .i64 a0] w fun e w'=>e=.returned (.pointer (some ⟨w.heap.size,0,none⟩))∧IsK w' w.heap.size (if 1<a0 then a0 else 1,0,0,0)∧Below w.heap.size w w':=by
 have hu:=Tryz.underlying271;obtain⟨m,hm⟩:∃m,m=(if 1<a0 then a0 else 1):=⟨_,rfl⟩;rw[← hm];have hm2:=hm.symm;clear hm
 go_enter Tryz.func143,Tryz.ntmps143
 go_wp2;go_ret
 exact⟨rfl,Qej w _,Qcw (Below.refl _ _) _⟩
theorem sv_New(a0:Int)(w:World) :
  Calls Tryz.prog 90 #[.int .i64 a0] w fun e w'=>∃sb,e=.returned (.pointer (some ⟨sb,0,none⟩))∧SvAt w w' w.heap.size w.heap.size sb (Qrp a0) (.slice none 0 0):=by
 have hu:=Tryz.underlying216
 go_enter Tryz.func90,Tryz.ntmps90
 go_wp2_with (go_at_call 143;refine(cut_New a0 _).mono ?_;rintro ee w1 ⟨rfl,hK,hb1⟩;have HK:=QA hK;have HB1:=QA hb1;clear hK hb1)
 go_ret
 have hb2:Below w1.heap.size w1 (w1.alloc (.cells (Qrc w.heap.size (.slice none 0 0) 0 0 0) 216 (0,0))):=Qcw (Below.refl _ _) _;exact⟨w1.heap.size,rfl,.slice none 0 0,Qei HK.out hb2,Qej w1 _,Kd.R_nil _ _ _ _ _,Kd.R_nil _ _ _ _ _,HB1.out.trans (Qjp hb2 HB1.out.size),Nat.le_refl _,HB1.out.size⟩
theorem Qcq.calls(k:Nat)(a0:Int)(A1:Option Addr)(c1:Nat)(l1:List Int)(r:List Fd)(w:World)(hr1:Kd.C (Kd.int .u8) w A1 l1.length l1)(hc1:l1.length≤c1)(h:Qcq.f k a0 l1=some r) :
  Calls Tryz.prog 48 #[.int .i64 a0,.slice A1 l1.length c1] w fun e w'=>∃v0_:Value,e=.returned (v0_)∧Kd.R k97 97 w' w.heap.size (fun _=>True) v0_ r∧Below w.heap.size w w':=by
 unfold Qcq.f at h
 by_cases hl:l1.length≤100000
 ·rw[if_pos hl]at h;obtain⟨S,hS,hr⟩:=Option.bind_eq_some_iff.mp h;have hr':=Option.some.inj hr;have HR:=QA hr';have HS:=QA hS;have HC:=QA hr1;have hB:svB (Qrp a0) 1000:=by
   unfold svB Qrp;dsimp only;refine⟨by omega,by omega,by simp,by omega,by omega,by omega,by simp⟩
  clear h hS hr hr' hr1
  go_enter Tryz.func48,Tryz.ntmps48
  go_wp2_with (first
   |(go_at_call 91;obtain⟨vh,hs⟩:=HN.out;refine(Qro k w.heap.size w.heap.size sb (Qrp a0) S A1 c1 l1 _ ⟨vh,hs.rebase⟩ hs.low.size (fun W hW=>Kd.C_below HC.out (hs.low.trans hW)) hc1 hB hl HS.out).mono ?_;rintro ee w2 ⟨vo,rfl,vh2,h2⟩;have HW:=QA (h2.over hs.low);clear h2 hs)
   |(go_at_call 90;refine(sv_New a0 _).mono ?_;rintro ee w1 ⟨sb,rfl,hN⟩;have HN:=QA hN;clear hN))
  go_ret
  rw[← HR.out];exact⟨_,rfl,HW.out.o,HW.out.low⟩
 ·rw[if_neg hl]at h;cases h
end Go.Proofs.YtnnofopfbeklbaaGreat.C
end
