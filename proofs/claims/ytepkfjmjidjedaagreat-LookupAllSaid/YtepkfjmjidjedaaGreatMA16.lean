/- Merged texts. -/
import Derived.Test.YtepkfjmjidjedaaGreatMA02
import Derived.WalkLawsBesides
import Derived.Recover
import Derived.Defers
import Derived.Test.YtepkfjmjidjedaaGreatMA06
import Derived.Test.YtepkfjmjidjedaaGreatMA07
import Derived.Test.YtepkfjmjidjedaaGreatMA15
import Derived.Test.YtepkfjmjidjedaaGreatMA08
set_option linter.unusedVariables false
set_option linter.unusedSimpArgs false
set_option maxHeartbeats 8000000
set_option maxRecDepth 100000
section
namespace Go.Proofs.YtepkfjmjidjedaaGreat.C
open Go.RowKit Go.Proofs.YtepkfjmjidjedaaGreatW.PrintWords Go.Proofs.YtepkfjmjidjedaaGreatW.PrintLast Go.Proofs.YtepkfjmjidjedaaGreatW.PrintMore
theorem IsCur.far{W:World}{b g rb j:Nat}{bs:List Int}{i:Int}{u:Value}{cs:Array Value}(h:IsCur W b g bs i)(hr:W.heap[rb]? = some (.cells cs 36 (0,0))):IsCur (W.setCell ⟨rb,j,none⟩ u) b g bs i:=by
 obtain⟨v,h1,h2⟩:=h;exact⟨v,Qdd h1 (p:=⟨rb,j,none⟩) (Qdi h1 hr (by decide)) u,h2.set hr (by decide) j u⟩
def RS(w W:World)(rb lo g:Nat)(bs:List Int)(i:Int)(d:Bool)(q:Int)(a b:ByteArray):Prop :=
 IsCur W lo g bs i∧W.heap[rb]? = some (.cells #[.bool d,.int .u64 q,.string a,.string b] 36 (0,0))∧Below rb w W∧Tl lo g w W∧lo≤W.heap.size∧rb<lo
section
variable {w W W':World} {rb lo g:Nat} {bs:List Int} {i j q:Int} {d:Bool} {a b:ByteArray}
theorem RS.cur(h:RS w W rb lo g bs i d q a b)(hw:rb≤W.heap.size)(hI:IsCur W' lo g bs j)(hb:Bw lo g W W'):RS w W' rb lo g bs j d q a b :=
 ⟨hI,(hb.1.block rb h.2.2.2.2.2).trans h.2.1,h.2.2.1.trans (Qis hb.1 (Nat.le_of_lt h.2.2.2.2.2)),fun k cs t h1 h2 h3 h4=>hb.2 _ _ _ (h.2.2.2.1 _ _ _ h1 h2 h3 h4) h3 h4,Nat.le_trans h.2.2.2.2.1 hb.size,h.2.2.2.2.2⟩
theorem RS.lt(h:RS w W rb lo g bs i d q a b):rb≤W.heap.size:=Nat.le_of_lt (Qde h.2.1)
theorem RS.tl(h:RS w W rb lo g bs i d q a b)(n:Nat)(u:Value):Tl lo g w (W.setCell ⟨rb,n,none⟩ u):=fun k cs t h1 h2 h3 h4=>Qdd (h.2.2.2.1 _ _ _ h1 h2 h3 h4) (p:=⟨rb,n,none⟩) (by have:=h.2.2.2.2.2;show k≠rb;omega) u
theorem RS.size(h:RS w W rb lo g bs i d q a b)(n:Nat)(u:Value):lo≤(W.setCell ⟨rb,n,none⟩ u).heap.size:=by simpa [World.setCell]using h.2.2.2.2.1
theorem RS.sd(h:RS w W rb lo g bs i d q a b)(x:Bool):RS w (W.setCell ⟨rb,0,none⟩ (.bool x)) rb lo g bs i x q a b:=⟨h.1.far h.2.1,Qdc h.2.1 0 _,Qir h.2.2.1 (Nat.le_refl _),h.tl _ _,h.size _ _,h.2.2.2.2.2⟩
theorem RS.sq(h:RS w W rb lo g bs i d q a b)(x:Int):RS w (W.setCell ⟨rb,1,none⟩ (.int .u64 x)) rb lo g bs i d x a b:=⟨h.1.far h.2.1,Qdc h.2.1 1 _,Qir h.2.2.1 (Nat.le_refl _),h.tl _ _,h.size _ _,h.2.2.2.2.2⟩
theorem RS.sa(h:RS w W rb lo g bs i d q a b)(x:ByteArray):RS w (W.setCell ⟨rb,2,none⟩ (.string x)) rb lo g bs i d q x b:=⟨h.1.far h.2.1,Qdc h.2.1 2 _,Qir h.2.2.1 (Nat.le_refl _),h.tl _ _,h.size _ _,h.2.2.2.2.2⟩
theorem RS.sb(h:RS w W rb lo g bs i d q a b)(x:ByteArray):RS w (W.setCell ⟨rb,3,none⟩ (.string x)) rb lo g bs i d q a x:=⟨h.1.far h.2.1,Qdc h.2.1 3 _,Qir h.2.2.1 (Nat.le_refl _),h.tl _ _,h.size _ _,h.2.2.2.2.2⟩
theorem RS.cells(h:RS w W rb lo g bs i d q a b):(W.cell? ⟨rb,0,none⟩=some (.bool d)∧W.cell? ⟨rb,1,none⟩=some (.int .u64 q)∧W.cell? ⟨rb,2,none⟩=some (.string a)∧W.cell? ⟨rb,3,none⟩=some (.string b))∧(W.frozen? ⟨rb,0,none⟩=false∧W.frozen? ⟨rb,1,none⟩=false∧W.frozen? ⟨rb,2,none⟩=false∧W.frozen? ⟨rb,3,none⟩=false) :=
 ⟨⟨(Qdf h.2.1 0).trans rfl,(Qdf h.2.1 1).trans rfl,(Qdf h.2.1 2).trans rfl,(Qdf h.2.1 3).trans rfl⟩,Qdg h.2.1 0,Qdg h.2.1 1,Qdg h.2.1 2,Qdg h.2.1 3⟩
end
theorem Qqm(rb lo g:Nat)(bs:List Int)(hb:CodecP.Bytes bs)(hl:bs.length≤140737488355328)(hlg:lo≤g)(w:World)(hS:RS w w rb lo g bs 0 false 0 (⟨#[]⟩:ByteArray) (⟨#[]⟩:ByteArray))(h0:¬(0:Int)<(bs.length:Int)) :
  Calls Tryz.prog 231 #[.pointer (some ⟨g,0,none⟩),.pointer (some ⟨rb,0,none⟩)] w fun e W'=>e=.panicked [Qlq g 2]∧∃d q a b,RS w W' rb lo g bs 0 d q a b:=by
 have HS:=QA hS;have HB:=QA hb;have hu:=Tryz.underlying36;have dA:(0:Int)≤1∧(1:Int)≤4611686018427387904:=⟨by decide,by decide⟩;have dB:(0:Int)≤4096∧(4096:Int)≤4611686018427387904:=⟨by decide,by decide⟩;have dC:(0:Int)≤0∧(0:Int)≤4611686018427387904:=⟨by decide,by decide⟩;have dD:(0:Int)≤1048576∧(1048576:Int)≤4611686018427387904:=⟨by decide,by decide⟩;have DD:=QA (And.intro dA (And.intro dB (And.intro dC dD)));clear hS hb dA dB dC dD
 go_enter Tryz.func231,Tryz.ntmps231
 go_wp2_with (go_at_call 232;refine(Qpo lo g bs 0 ⟨Int.le_refl _,by omega⟩ hl (by omega) _ HS.out.2.2.2.2.1 HS.out.1).mono ?_;rintro ee w1 ⟨rfl,hI1,hB1⟩)
 exact⟨rfl,rfl,_,_,_,_,HS.out.cur HS.out.lt hI1 hB1⟩
theorem Qqn(rb lo g:Nat)(bs:List Int)(hb:CodecP.Bytes bs)(hl:bs.length≤140737488355328)(hlg:lo≤g)(w:World)(hS:RS w w rb lo g bs 0 false 0 (⟨#[]⟩:ByteArray) (⟨#[]⟩:ByteArray))(h0:(0:Int)<(bs.length:Int))(y:Int)(hy:y=YtepkfjmjidjedaaGreatW.PrintWords.rd bs 0)(h2:y≠2)(h3:y≠3) :
  Calls Tryz.prog 231 #[.pointer (some ⟨g,0,none⟩),.pointer (some ⟨rb,0,none⟩)] w fun e W'=>e=.panicked [Qlq g 4]∧∃d q a b,RS w W' rb lo g bs (0+1) d q a b:=by
 have HS:=QA hS;have HB:=QA hb;have hu:=Tryz.underlying36;have dA:(0:Int)≤1∧(1:Int)≤4611686018427387904:=⟨by decide,by decide⟩;have dB:(0:Int)≤4096∧(4096:Int)≤4611686018427387904:=⟨by decide,by decide⟩;have dC:(0:Int)≤0∧(0:Int)≤4611686018427387904:=⟨by decide,by decide⟩;have dD:(0:Int)≤1048576∧(1048576:Int)≤4611686018427387904:=⟨by decide,by decide⟩;have DD:=QA (And.intro dA (And.intro dB (And.intro dC dD)));clear hS hb dA dB dC dD;have hk2:(y != 2)=true:=bne_iff_ne.2 h2;have hk3:(y != 3)=true:=bne_iff_ne.2 h3;have HY:=QA hy;clear hy
 go_enter Tryz.func231,Tryz.ntmps231
 go_wp2_with (first
  |(go_at_call 232;refine(Qqg lo g bs 0 y HY.out HB.out (Int.le_refl _) hl h0 hlg _ HS.out.2.2.2.2.1 HS.out.1).mono ?_;rintro ee w1 ⟨rfl,hI1,hB1⟩;have S1:=QA (HS.out.cur HS.out.lt hI1 hB1);obtain⟨⟨c10,c,h,j⟩,f10,f11,f12,f13⟩:=S1.out.cells;have T1:=QA (S1.out.sd (y == 3)))
  |(go_at_call 220;refine(Qls lo g bs (0+1) 4 (by decide) _ S1.out.1).mono ?_;rintro ee w2 ⟨rfl,rfl⟩))
 exact⟨rfl,rfl,_,_,_,_,S1.out⟩
theorem Qqo(rb lo g:Nat)(bs:List Int)(hb:CodecP.Bytes bs)(hl:bs.length≤140737488355328)(hlg:lo≤g)(w:World)(hS:RS w w rb lo g bs 0 false 0 (⟨#[]⟩:ByteArray) (⟨#[]⟩:ByteArray))(h0:(0:Int)<(bs.length:Int))(hy:(2:Int)=YtepkfjmjidjedaaGreatW.PrintWords.rd bs 0)(er i2:Int)(hvf:(Qqh bs 10 0 (0+1) 0).map (fun p=>(Value.int .u64 p.1,p.2))=.error (er,i2)) :
  Calls Tryz.prog 231 #[.pointer (some ⟨g,0,none⟩),.pointer (some ⟨rb,0,none⟩)] w fun e W'=>e=.panicked [Qlq g er]∧∃d q a b,RS w W' rb lo g bs i2 d q a b:=by
 have HS:=QA hS;have HB:=QA hb;have hu:=Tryz.underlying36;have dA:(0:Int)≤1∧(1:Int)≤4611686018427387904:=⟨by decide,by decide⟩;have dB:(0:Int)≤4096∧(4096:Int)≤4611686018427387904:=⟨by decide,by decide⟩;have dC:(0:Int)≤0∧(0:Int)≤4611686018427387904:=⟨by decide,by decide⟩;have dD:(0:Int)≤1048576∧(1048576:Int)≤4611686018427387904:=⟨by decide,by decide⟩;have DD:=QA (And.intro dA (And.intro dB (And.intro dC dD)));clear hS hb dA dB dC dD;have HY:=QA hy;clear hy;have HVF:=QA hvf;clear hvf
 go_enter Tryz.func231,Tryz.ntmps231
 go_wp2_with (first
  |(go_at_call 233;refine(Qqi lo g bs (0+1) HB.out ⟨by omega,by omega⟩ hl hlg _ PT1.out QT1.out (.error (er,i2)) HVF.out).mono ?_;rintro ee w2 ⟨rfl,hI2,hB2⟩)
  |(go_at_call 232;refine(Qqg lo g bs 0 2 HY.out HB.out (Int.le_refl _) hl h0 hlg _ HS.out.2.2.2.2.1 HS.out.1).mono ?_;rintro ee w1 ⟨rfl,hI1,hB1⟩;have S1:=QA (HS.out.cur HS.out.lt hI1 hB1);obtain⟨⟨c10,c,h,j⟩,f10,f11,f12,f13⟩:=S1.out.cells;have T1:=QA (S1.out.sd false);have PT1:=QA T1.out.2.2.2.2.1;have QT1:=QA T1.out.1))
 exact⟨rfl,rfl,_,_,_,_,T1.out.cur T1.out.lt hI2 hB2⟩
theorem Qqp(rb lo g:Nat)(bs:List Int)(hb:CodecP.Bytes bs)(hl:bs.length≤140737488355328)(hlg:lo≤g)(w:World)(hS:RS w w rb lo g bs 0 false 0 (⟨#[]⟩:ByteArray) (⟨#[]⟩:ByteArray))(h0:(0:Int)<(bs.length:Int))(hy:(2:Int)=YtepkfjmjidjedaaGreatW.PrintWords.rd bs 0)(q i2:Int)(hv2:(Qqh bs 10 0 (0+1) 0).map (fun p=>(Value.int .u64 p.1,p.2))=.ok (.int .u64 q,i2))(hi2:0≤i2∧i2≤(bs.length:Int))(er i3:Int)(hvf:(Qqk bs 1 4096 i2).map (fun p=>(Value.string (strOfNums p.1),p.2))=.error (er,i3)) :
  Calls Tryz.prog 231 #[.pointer (some ⟨g,0,none⟩),.pointer (some ⟨rb,0,none⟩)] w fun e W'=>e=.panicked [Qlq g er]∧∃d q a b,RS w W' rb lo g bs i3 d q a b:=by
 have HS:=QA hS;have HB:=QA hb;have hu:=Tryz.underlying36;have dA:(0:Int)≤1∧(1:Int)≤4611686018427387904:=⟨by decide,by decide⟩;have dB:(0:Int)≤4096∧(4096:Int)≤4611686018427387904:=⟨by decide,by decide⟩;have dC:(0:Int)≤0∧(0:Int)≤4611686018427387904:=⟨by decide,by decide⟩;have dD:(0:Int)≤1048576∧(1048576:Int)≤4611686018427387904:=⟨by decide,by decide⟩;have DD:=QA (And.intro dA (And.intro dB (And.intro dC dD)));clear hS hb dA dB dC dD;have HY:=QA hy;clear hy;have HV2:=QA hv2;clear hv2;have HVF:=QA hvf;clear hvf
 go_enter Tryz.func231,Tryz.ntmps231
 go_wp2_with (first
  |(go_at_call 234;have dA:=DD.out.1;have dB:=DD.out.2.1;have dC:=DD.out.2.2.1;have dD:=DD.out.2.2.2;refine(Qql lo g bs i2 1 4096 dA dB HB.out hi2 hl hlg _ PT2.out QT2.out (.error (er,i3)) HVF.out).mono ?_;rintro ee w3 ⟨rfl,hI3,hB3⟩)
  |(go_at_call 233;refine(Qqi lo g bs (0+1) HB.out ⟨by omega,by omega⟩ hl hlg _ PT1.out QT1.out (.ok (.int .u64 q,i2)) HV2.out).mono ?_;rintro ee w2 ⟨rfl,hI2,hB2⟩;have S2:=QA (T1.out.cur T1.out.lt hI2 hB2);obtain⟨⟨c,h,j,k⟩,f20,f21,f22,f23⟩:=S2.out.cells;have T2:=QA (S2.out.sq q);have PT2:=QA T2.out.2.2.2.2.1;have QT2:=QA T2.out.1)
  |(go_at_call 232;refine(Qqg lo g bs 0 2 HY.out HB.out (Int.le_refl _) hl h0 hlg _ HS.out.2.2.2.2.1 HS.out.1).mono ?_;rintro ee w1 ⟨rfl,hI1,hB1⟩;have S1:=QA (HS.out.cur HS.out.lt hI1 hB1);obtain⟨⟨c10,l,m,n⟩,f10,f11,f12,f13⟩:=S1.out.cells;have T1:=QA (S1.out.sd false);have PT1:=QA T1.out.2.2.2.2.1;have QT1:=QA T1.out.1))
 exact⟨rfl,rfl,_,_,_,_,T2.out.cur T2.out.lt hI3 hB3⟩
theorem Qqq(rb lo g:Nat)(bs:List Int)(hb:CodecP.Bytes bs)(hl:bs.length≤140737488355328)(hlg:lo≤g)(w:World)(hS:RS w w rb lo g bs 0 false 0 (⟨#[]⟩:ByteArray) (⟨#[]⟩:ByteArray))(h0:(0:Int)<(bs.length:Int))(hy:(2:Int)=YtepkfjmjidjedaaGreatW.PrintWords.rd bs 0)(q i2:Int)(hv2:(Qqh bs 10 0 (0+1) 0).map (fun p=>(Value.int .u64 p.1,p.2))=.ok (.int .u64 q,i2))(hi2:0≤i2∧i2≤(bs.length:Int))(a:List Int)(i3:Int)(hv3:(Qqk bs 1 4096 i2).map (fun p=>(Value.string (strOfNums p.1),p.2))=.ok (.string (strOfNums a),i3))(hi3:0≤i3∧i3≤(bs.length:Int))(er i4:Int)(hvf:(Qqk bs 0 1048576 i3).map (fun p=>(Value.string (strOfNums p.1),p.2))=.error (er,i4)) :
  Calls Tryz.prog 231 #[.pointer (some ⟨g,0,none⟩),.pointer (some ⟨rb,0,none⟩)] w fun e W'=>e=.panicked [Qlq g er]∧∃d q a b,RS w W' rb lo g bs i4 d q a b:=by
 have HS:=QA hS;have HB:=QA hb;have hu:=Tryz.underlying36;have dA:(0:Int)≤1∧(1:Int)≤4611686018427387904:=⟨by decide,by decide⟩;have dB:(0:Int)≤4096∧(4096:Int)≤4611686018427387904:=⟨by decide,by decide⟩;have dC:(0:Int)≤0∧(0:Int)≤4611686018427387904:=⟨by decide,by decide⟩;have dD:(0:Int)≤1048576∧(1048576:Int)≤4611686018427387904:=⟨by decide,by decide⟩;have DD:=QA (And.intro dA (And.intro dB (And.intro dC dD)));clear hS hb dA dB dC dD;have HY:=QA hy;clear hy;have HV2:=QA hv2;clear hv2;have HV3:=QA hv3;clear hv3;have HVF:=QA hvf;clear hvf
 go_enter Tryz.func231,Tryz.ntmps231
 go_wp2_with (first
  |(go_at_call 234;have dA:=DD.out.1;have dB:=DD.out.2.1;have dC:=DD.out.2.2.1;have dD:=DD.out.2.2.2;refine(Qql lo g bs i3 0 1048576 dC dD HB.out hi3 hl hlg _ PT3.out QT3.out (.error (er,i4)) HVF.out).mono ?_;rintro ee w4 ⟨rfl,hI4,hB4⟩)
  |(go_at_call 234;have dA:=DD.out.1;have dB:=DD.out.2.1;have dC:=DD.out.2.2.1;have dD:=DD.out.2.2.2;refine(Qql lo g bs i2 1 4096 dA dB HB.out hi2 hl hlg _ PT2.out QT2.out (.ok (.string (strOfNums a),i3)) HV3.out).mono ?_;rintro ee w3 ⟨rfl,hI3,hB3⟩;have S3:=QA (T2.out.cur T2.out.lt hI3 hB3);obtain⟨⟨c,h,j,k⟩,f30,f31,f32,f33⟩:=S3.out.cells;have T3:=QA (S3.out.sa (strOfNums a));have PT3:=QA T3.out.2.2.2.2.1;have QT3:=QA T3.out.1;obtain⟨⟨t0,t1,t2,t3⟩,_⟩:=T3.out.cells)
  |(go_at_call 233;refine(Qqi lo g bs (0+1) HB.out ⟨by omega,by omega⟩ hl hlg _ PT1.out QT1.out (.ok (.int .u64 q,i2)) HV2.out).mono ?_;rintro ee w2 ⟨rfl,hI2,hB2⟩;have S2:=QA (T1.out.cur T1.out.lt hI2 hB2);obtain⟨⟨l,m,n,o⟩,f20,f21,f22,f23⟩:=S2.out.cells;have T2:=QA (S2.out.sq q);have PT2:=QA T2.out.2.2.2.2.1;have QT2:=QA T2.out.1)
  |(go_at_call 232;refine(Qqg lo g bs 0 2 HY.out HB.out (Int.le_refl _) hl h0 hlg _ HS.out.2.2.2.2.1 HS.out.1).mono ?_;rintro ee w1 ⟨rfl,hI1,hB1⟩;have S1:=QA (HS.out.cur HS.out.lt hI1 hB1);obtain⟨⟨c10,r,s,t⟩,f10,f11,f12,f13⟩:=S1.out.cells;have T1:=QA (S1.out.sd false);have PT1:=QA T1.out.2.2.2.2.1;have QT1:=QA T1.out.1))
 exact⟨rfl,rfl,_,_,_,_,T3.out.cur T3.out.lt hI4 hB4⟩
theorem Qqr(rb lo g:Nat)(bs:List Int)(hb:CodecP.Bytes bs)(hl:bs.length≤140737488355328)(hlg:lo≤g)(w:World)(hS:RS w w rb lo g bs 0 false 0 (⟨#[]⟩:ByteArray) (⟨#[]⟩:ByteArray))(h0:(0:Int)<(bs.length:Int))(hy:(2:Int)=YtepkfjmjidjedaaGreatW.PrintWords.rd bs 0)(q i2:Int)(hv2:(Qqh bs 10 0 (0+1) 0).map (fun p=>(Value.int .u64 p.1,p.2))=.ok (.int .u64 q,i2))(hi2:0≤i2∧i2≤(bs.length:Int))(a:List Int)(i3:Int)(hv3:(Qqk bs 1 4096 i2).map (fun p=>(Value.string (strOfNums p.1),p.2))=.ok (.string (strOfNums a),i3))(hi3:0≤i3∧i3≤(bs.length:Int))(v:List Int)(i4:Int)(hv4:(Qqk bs 0 1048576 i3).map (fun p=>(Value.string (strOfNums p.1),p.2))=.ok (.string (strOfNums v),i4))(hi4:0≤i4∧i4≤(bs.length:Int))(hlt:0<(bs.length:Int)-i4) :
  Calls Tryz.prog 231 #[.pointer (some ⟨g,0,none⟩),.pointer (some ⟨rb,0,none⟩)] w fun e W'=>e=.panicked [Qlq g 3]∧∃d q a b,RS w W' rb lo g bs i4 d q a b:=by
 have HS:=QA hS;have HB:=QA hb;have hu:=Tryz.underlying36;have dA:(0:Int)≤1∧(1:Int)≤4611686018427387904:=⟨by decide,by decide⟩;have dB:(0:Int)≤4096∧(4096:Int)≤4611686018427387904:=⟨by decide,by decide⟩;have dC:(0:Int)≤0∧(0:Int)≤4611686018427387904:=⟨by decide,by decide⟩;have dD:(0:Int)≤1048576∧(1048576:Int)≤4611686018427387904:=⟨by decide,by decide⟩;have DD:=QA (And.intro dA (And.intro dB (And.intro dC dD)));clear hS hb dA dB dC dD;have HY:=QA hy;clear hy;have HV2:=QA hv2;clear hv2;have HV3:=QA hv3;clear hv3;have HV4:=QA hv4;clear hv4
 go_enter Tryz.func231,Tryz.ntmps231
 go_wp2_with (first
  |(go_at_call 235;refine(Qps lo g bs i4 hi4 hl hlt _ PT4.out QT4.out).mono ?_;rintro ee w5 ⟨rfl,hI5,hB5⟩)
  |(go_at_call 234;have dA:=DD.out.1;have dB:=DD.out.2.1;have dC:=DD.out.2.2.1;have dD:=DD.out.2.2.2;refine(Qql lo g bs i3 0 1048576 dC dD HB.out hi3 hl hlg _ PT3.out QT3.out (.ok (.string (strOfNums v),i4)) HV4.out).mono ?_;rintro ee w4 ⟨rfl,hI4,hB4⟩;have S4:=QA (T3.out.cur T3.out.lt hI4 hB4);obtain⟨⟨c,h,j,k⟩,f40,f41,f42,f43⟩:=S4.out.cells;have T4:=QA (S4.out.sb (strOfNums v));have PT4:=QA T4.out.2.2.2.2.1;have QT4:=QA T4.out.1)
  |(go_at_call 234;have dA:=DD.out.1;have dB:=DD.out.2.1;have dC:=DD.out.2.2.1;have dD:=DD.out.2.2.2;refine(Qql lo g bs i2 1 4096 dA dB HB.out hi2 hl hlg _ PT2.out QT2.out (.ok (.string (strOfNums a),i3)) HV3.out).mono ?_;rintro ee w3 ⟨rfl,hI3,hB3⟩;have S3:=QA (T2.out.cur T2.out.lt hI3 hB3);obtain⟨⟨l,m,n,o⟩,f30,f31,f32,f33⟩:=S3.out.cells;have T3:=QA (S3.out.sa (strOfNums a));have PT3:=QA T3.out.2.2.2.2.1;have QT3:=QA T3.out.1;obtain⟨⟨t0,t1,t2,t3⟩,_⟩:=T3.out.cells)
  |(go_at_call 233;refine(Qqi lo g bs (0+1) HB.out ⟨by omega,by omega⟩ hl hlg _ PT1.out QT1.out (.ok (.int .u64 q,i2)) HV2.out).mono ?_;rintro ee w2 ⟨rfl,hI2,hB2⟩;have S2:=QA (T1.out.cur T1.out.lt hI2 hB2);obtain⟨⟨r,s,t,u⟩,f20,f21,f22,f23⟩:=S2.out.cells;have T2:=QA (S2.out.sq q);have PT2:=QA T2.out.2.2.2.2.1;have QT2:=QA T2.out.1)
  |(go_at_call 232;refine(Qqg lo g bs 0 2 HY.out HB.out (Int.le_refl _) hl h0 hlg _ HS.out.2.2.2.2.1 HS.out.1).mono ?_;rintro ee w1 ⟨rfl,hI1,hB1⟩;have S1:=QA (HS.out.cur HS.out.lt hI1 hB1);obtain⟨⟨c10,x,y,z⟩,f10,f11,f12,f13⟩:=S1.out.cells;have T1:=QA (S1.out.sd false);have PT1:=QA T1.out.2.2.2.2.1;have QT1:=QA T1.out.1))
 exact⟨rfl,rfl,_,_,_,_,T4.out.cur T4.out.lt hI5 hB5⟩
theorem rec_ok2(rb lo g:Nat)(bs:List Int)(hb:CodecP.Bytes bs)(hl:bs.length≤140737488355328)(hlg:lo≤g)(w:World)(hS:RS w w rb lo g bs 0 false 0 (⟨#[]⟩:ByteArray) (⟨#[]⟩:ByteArray))(h0:(0:Int)<(bs.length:Int))(hy:(2:Int)=YtepkfjmjidjedaaGreatW.PrintWords.rd bs 0)(q i2:Int)(hv2:(Qqh bs 10 0 (0+1) 0).map (fun p=>(Value.int .u64 p.1,p.2))=.ok (.int .u64 q,i2))(hi2:0≤i2∧i2≤(bs.length:Int))(a:List Int)(i3:Int)(hv3:(Qqk bs 1 4096 i2).map (fun p=>(Value.string (strOfNums p.1),p.2))=.ok (.string (strOfNums a),i3))(hi3:0≤i3∧i3≤(bs.length:Int))(v:List Int)(i4:Int)(hv4:(Qqk bs 0 1048576 i3).map (fun p=>(Value.string (strOfNums p.1),p.2))=.ok (.string (strOfNums v),i4))(hi4:0≤i4∧i4≤(bs.length:Int))(hle:(bs.length:Int)-i4≤0) :
  Calls Tryz.prog 231 #[.pointer (some ⟨g,0,none⟩),.pointer (some ⟨rb,0,none⟩)] w fun e W'=>e=.returned (.tuple #[])∧RS w W' rb lo g bs i4 false q (strOfNums a) (strOfNums v):=by
 have HS:=QA hS;have HB:=QA hb;have hu:=Tryz.underlying36;have dA:(0:Int)≤1∧(1:Int)≤4611686018427387904:=⟨by decide,by decide⟩;have dB:(0:Int)≤4096∧(4096:Int)≤4611686018427387904:=⟨by decide,by decide⟩;have dC:(0:Int)≤0∧(0:Int)≤4611686018427387904:=⟨by decide,by decide⟩;have dD:(0:Int)≤1048576∧(1048576:Int)≤4611686018427387904:=⟨by decide,by decide⟩;have DD:=QA (And.intro dA (And.intro dB (And.intro dC dD)));clear hS hb dA dB dC dD;have HY:=QA hy;clear hy;have HV2:=QA hv2;clear hv2;have HV3:=QA hv3;clear hv3;have HV4:=QA hv4;clear hv4
 go_enter Tryz.func231,Tryz.ntmps231
 go_wp2_with (first
  |(go_at_call 235;refine(Qpr lo g bs i4 hi4 hl hle _ PT4.out QT4.out).mono ?_;rintro ee w5 ⟨rfl,hI5,hB5⟩)
  |(go_at_call 234;have dA:=DD.out.1;have dB:=DD.out.2.1;have dC:=DD.out.2.2.1;have dD:=DD.out.2.2.2;refine(Qql lo g bs i3 0 1048576 dC dD HB.out hi3 hl hlg _ PT3.out QT3.out (.ok (.string (strOfNums v),i4)) HV4.out).mono ?_;rintro ee w4 ⟨rfl,hI4,hB4⟩;have S4:=QA (T3.out.cur T3.out.lt hI4 hB4);obtain⟨⟨b,c,d,h⟩,f40,f41,f42,f43⟩:=S4.out.cells;have T4:=QA (S4.out.sb (strOfNums v));have PT4:=QA T4.out.2.2.2.2.1;have QT4:=QA T4.out.1)
  |(go_at_call 234;have dA:=DD.out.1;have dB:=DD.out.2.1;have dC:=DD.out.2.2.1;have dD:=DD.out.2.2.2;refine(Qql lo g bs i2 1 4096 dA dB HB.out hi2 hl hlg _ PT2.out QT2.out (.ok (.string (strOfNums a),i3)) HV3.out).mono ?_;rintro ee w3 ⟨rfl,hI3,hB3⟩;have S3:=QA (T2.out.cur T2.out.lt hI3 hB3);obtain⟨⟨j,k,l,m⟩,f30,f31,f32,f33⟩:=S3.out.cells;have T3:=QA (S3.out.sa (strOfNums a));have PT3:=QA T3.out.2.2.2.2.1;have QT3:=QA T3.out.1;obtain⟨⟨t0,t1,t2,t3⟩,_⟩:=T3.out.cells)
  |(go_at_call 233;refine(Qqi lo g bs (0+1) HB.out ⟨by omega,by omega⟩ hl hlg _ PT1.out QT1.out (.ok (.int .u64 q,i2)) HV2.out).mono ?_;rintro ee w2 ⟨rfl,hI2,hB2⟩;have S2:=QA (T1.out.cur T1.out.lt hI2 hB2);obtain⟨⟨n,o,r,s⟩,f20,f21,f22,f23⟩:=S2.out.cells;have T2:=QA (S2.out.sq q);have PT2:=QA T2.out.2.2.2.2.1;have QT2:=QA T2.out.1)
  |(go_at_call 232;refine(Qqg lo g bs 0 2 HY.out HB.out (Int.le_refl _) hl h0 hlg _ HS.out.2.2.2.2.1 HS.out.1).mono ?_;rintro ee w1 ⟨rfl,hI1,hB1⟩;have S1:=QA (HS.out.cur HS.out.lt hI1 hB1);obtain⟨⟨c10,t,u,x⟩,f10,f11,f12,f13⟩:=S1.out.cells;have T1:=QA (S1.out.sd false);have PT1:=QA T1.out.2.2.2.2.1;have QT1:=QA T1.out.1))
 go_end0
 exact⟨rfl,T4.out.cur T4.out.lt hI5 hB5⟩
theorem Qqs(rb lo g:Nat)(bs:List Int)(hb:CodecP.Bytes bs)(hl:bs.length≤140737488355328)(hlg:lo≤g)(w:World)(hS:RS w w rb lo g bs 0 false 0 (⟨#[]⟩:ByteArray) (⟨#[]⟩:ByteArray))(h0:(0:Int)<(bs.length:Int))(hy:(3:Int)=YtepkfjmjidjedaaGreatW.PrintWords.rd bs 0)(er i2:Int)(hvf:(Qqh bs 10 0 (0+1) 0).map (fun p=>(Value.int .u64 p.1,p.2))=.error (er,i2)) :
  Calls Tryz.prog 231 #[.pointer (some ⟨g,0,none⟩),.pointer (some ⟨rb,0,none⟩)] w fun e W'=>e=.panicked [Qlq g er]∧∃d q a b,RS w W' rb lo g bs i2 d q a b:=by
 have HS:=QA hS;have HB:=QA hb;have hu:=Tryz.underlying36;have dA:(0:Int)≤1∧(1:Int)≤4611686018427387904:=⟨by decide,by decide⟩;have dB:(0:Int)≤4096∧(4096:Int)≤4611686018427387904:=⟨by decide,by decide⟩;have dC:(0:Int)≤0∧(0:Int)≤4611686018427387904:=⟨by decide,by decide⟩;have dD:(0:Int)≤1048576∧(1048576:Int)≤4611686018427387904:=⟨by decide,by decide⟩;have DD:=QA (And.intro dA (And.intro dB (And.intro dC dD)));clear hS hb dA dB dC dD;have HY:=QA hy;clear hy;have HVF:=QA hvf;clear hvf
 go_enter Tryz.func231,Tryz.ntmps231
 go_wp2_with (first
  |(go_at_call 233;refine(Qqi lo g bs (0+1) HB.out ⟨by omega,by omega⟩ hl hlg _ PT1.out QT1.out (.error (er,i2)) HVF.out).mono ?_;rintro ee w2 ⟨rfl,hI2,hB2⟩)
  |(go_at_call 232;refine(Qqg lo g bs 0 3 HY.out HB.out (Int.le_refl _) hl h0 hlg _ HS.out.2.2.2.2.1 HS.out.1).mono ?_;rintro ee w1 ⟨rfl,hI1,hB1⟩;have S1:=QA (HS.out.cur HS.out.lt hI1 hB1);obtain⟨⟨c10,c,h,j⟩,f10,f11,f12,f13⟩:=S1.out.cells;have T1:=QA (S1.out.sd true);have PT1:=QA T1.out.2.2.2.2.1;have QT1:=QA T1.out.1))
 exact⟨rfl,rfl,_,_,_,_,T1.out.cur T1.out.lt hI2 hB2⟩
theorem Qqt(rb lo g:Nat)(bs:List Int)(hb:CodecP.Bytes bs)(hl:bs.length≤140737488355328)(hlg:lo≤g)(w:World)(hS:RS w w rb lo g bs 0 false 0 (⟨#[]⟩:ByteArray) (⟨#[]⟩:ByteArray))(h0:(0:Int)<(bs.length:Int))(hy:(3:Int)=YtepkfjmjidjedaaGreatW.PrintWords.rd bs 0)(q i2:Int)(hv2:(Qqh bs 10 0 (0+1) 0).map (fun p=>(Value.int .u64 p.1,p.2))=.ok (.int .u64 q,i2))(hi2:0≤i2∧i2≤(bs.length:Int))(er i3:Int)(hvf:(Qqk bs 1 4096 i2).map (fun p=>(Value.string (strOfNums p.1),p.2))=.error (er,i3)) :
  Calls Tryz.prog 231 #[.pointer (some ⟨g,0,none⟩),.pointer (some ⟨rb,0,none⟩)] w fun e W'=>e=.panicked [Qlq g er]∧∃d q a b,RS w W' rb lo g bs i3 d q a b:=by
 have HS:=QA hS;have HB:=QA hb;have hu:=Tryz.underlying36;have dA:(0:Int)≤1∧(1:Int)≤4611686018427387904:=⟨by decide,by decide⟩;have dB:(0:Int)≤4096∧(4096:Int)≤4611686018427387904:=⟨by decide,by decide⟩;have dC:(0:Int)≤0∧(0:Int)≤4611686018427387904:=⟨by decide,by decide⟩;have dD:(0:Int)≤1048576∧(1048576:Int)≤4611686018427387904:=⟨by decide,by decide⟩;have DD:=QA (And.intro dA (And.intro dB (And.intro dC dD)));clear hS hb dA dB dC dD;have HY:=QA hy;clear hy;have HV2:=QA hv2;clear hv2;have HVF:=QA hvf;clear hvf
 go_enter Tryz.func231,Tryz.ntmps231
 go_wp2_with (first
  |(go_at_call 234;have dA:=DD.out.1;have dB:=DD.out.2.1;have dC:=DD.out.2.2.1;have dD:=DD.out.2.2.2;refine(Qql lo g bs i2 1 4096 dA dB HB.out hi2 hl hlg _ PT2.out QT2.out (.error (er,i3)) HVF.out).mono ?_;rintro ee w3 ⟨rfl,hI3,hB3⟩)
  |(go_at_call 233;refine(Qqi lo g bs (0+1) HB.out ⟨by omega,by omega⟩ hl hlg _ PT1.out QT1.out (.ok (.int .u64 q,i2)) HV2.out).mono ?_;rintro ee w2 ⟨rfl,hI2,hB2⟩;have S2:=QA (T1.out.cur T1.out.lt hI2 hB2);obtain⟨⟨c,h,j,k⟩,f20,f21,f22,f23⟩:=S2.out.cells;have T2:=QA (S2.out.sq q);have PT2:=QA T2.out.2.2.2.2.1;have QT2:=QA T2.out.1)
  |(go_at_call 232;refine(Qqg lo g bs 0 3 HY.out HB.out (Int.le_refl _) hl h0 hlg _ HS.out.2.2.2.2.1 HS.out.1).mono ?_;rintro ee w1 ⟨rfl,hI1,hB1⟩;have S1:=QA (HS.out.cur HS.out.lt hI1 hB1);obtain⟨⟨c10,l,m,n⟩,f10,f11,f12,f13⟩:=S1.out.cells;have T1:=QA (S1.out.sd true);have PT1:=QA T1.out.2.2.2.2.1;have QT1:=QA T1.out.1))
 exact⟨rfl,rfl,_,_,_,_,T2.out.cur T2.out.lt hI3 hB3⟩
theorem Qqu(rb lo g:Nat)(bs:List Int)(hb:CodecP.Bytes bs)(hl:bs.length≤140737488355328)(hlg:lo≤g)(w:World)(hS:RS w w rb lo g bs 0 false 0 (⟨#[]⟩:ByteArray) (⟨#[]⟩:ByteArray))(h0:(0:Int)<(bs.length:Int))(hy:(3:Int)=YtepkfjmjidjedaaGreatW.PrintWords.rd bs 0)(q i2:Int)(hv2:(Qqh bs 10 0 (0+1) 0).map (fun p=>(Value.int .u64 p.1,p.2))=.ok (.int .u64 q,i2))(hi2:0≤i2∧i2≤(bs.length:Int))(a:List Int)(i3:Int)(hv3:(Qqk bs 1 4096 i2).map (fun p=>(Value.string (strOfNums p.1),p.2))=.ok (.string (strOfNums a),i3))(hi3:0≤i3∧i3≤(bs.length:Int))(hlt:0<(bs.length:Int)-i3) :
  Calls Tryz.prog 231 #[.pointer (some ⟨g,0,none⟩),.pointer (some ⟨rb,0,none⟩)] w fun e W'=>e=.panicked [Qlq g 3]∧∃d q a b,RS w W' rb lo g bs i3 d q a b:=by
 have HS:=QA hS;have HB:=QA hb;have hu:=Tryz.underlying36;have dA:(0:Int)≤1∧(1:Int)≤4611686018427387904:=⟨by decide,by decide⟩;have dB:(0:Int)≤4096∧(4096:Int)≤4611686018427387904:=⟨by decide,by decide⟩;have dC:(0:Int)≤0∧(0:Int)≤4611686018427387904:=⟨by decide,by decide⟩;have dD:(0:Int)≤1048576∧(1048576:Int)≤4611686018427387904:=⟨by decide,by decide⟩;have DD:=QA (And.intro dA (And.intro dB (And.intro dC dD)));clear hS hb dA dB dC dD;have HY:=QA hy;clear hy;have HV2:=QA hv2;clear hv2;have HV3:=QA hv3;clear hv3
 go_enter Tryz.func231,Tryz.ntmps231
 go_wp2_with (first
  |(go_at_call 235;refine(Qps lo g bs i3 hi3 hl hlt _ PT3.out QT3.out).mono ?_;rintro ee w5 ⟨rfl,hI5,hB5⟩)
  |(go_at_call 234;have dA:=DD.out.1;have dB:=DD.out.2.1;have dC:=DD.out.2.2.1;have dD:=DD.out.2.2.2;refine(Qql lo g bs i2 1 4096 dA dB HB.out hi2 hl hlg _ PT2.out QT2.out (.ok (.string (strOfNums a),i3)) HV3.out).mono ?_;rintro ee w3 ⟨rfl,hI3,hB3⟩;have S3:=QA (T2.out.cur T2.out.lt hI3 hB3);obtain⟨⟨c,h,j,k⟩,f30,f31,f32,f33⟩:=S3.out.cells;have T3:=QA (S3.out.sa (strOfNums a));have PT3:=QA T3.out.2.2.2.2.1;have QT3:=QA T3.out.1;obtain⟨⟨t0,t1,t2,t3⟩,_⟩:=T3.out.cells)
  |(go_at_call 233;refine(Qqi lo g bs (0+1) HB.out ⟨by omega,by omega⟩ hl hlg _ PT1.out QT1.out (.ok (.int .u64 q,i2)) HV2.out).mono ?_;rintro ee w2 ⟨rfl,hI2,hB2⟩;have S2:=QA (T1.out.cur T1.out.lt hI2 hB2);obtain⟨⟨l,m,n,o⟩,f20,f21,f22,f23⟩:=S2.out.cells;have T2:=QA (S2.out.sq q);have PT2:=QA T2.out.2.2.2.2.1;have QT2:=QA T2.out.1)
  |(go_at_call 232;refine(Qqg lo g bs 0 3 HY.out HB.out (Int.le_refl _) hl h0 hlg _ HS.out.2.2.2.2.1 HS.out.1).mono ?_;rintro ee w1 ⟨rfl,hI1,hB1⟩;have S1:=QA (HS.out.cur HS.out.lt hI1 hB1);obtain⟨⟨c10,r,s,t⟩,f10,f11,f12,f13⟩:=S1.out.cells;have T1:=QA (S1.out.sd true);have PT1:=QA T1.out.2.2.2.2.1;have QT1:=QA T1.out.1))
 exact⟨rfl,rfl,_,_,_,_,T3.out.cur T3.out.lt hI5 hB5⟩
theorem rec_ok3(rb lo g:Nat)(bs:List Int)(hb:CodecP.Bytes bs)(hl:bs.length≤140737488355328)(hlg:lo≤g)(w:World)(hS:RS w w rb lo g bs 0 false 0 (⟨#[]⟩:ByteArray) (⟨#[]⟩:ByteArray))(h0:(0:Int)<(bs.length:Int))(hy:(3:Int)=YtepkfjmjidjedaaGreatW.PrintWords.rd bs 0)(q i2:Int)(hv2:(Qqh bs 10 0 (0+1) 0).map (fun p=>(Value.int .u64 p.1,p.2))=.ok (.int .u64 q,i2))(hi2:0≤i2∧i2≤(bs.length:Int))(a:List Int)(i3:Int)(hv3:(Qqk bs 1 4096 i2).map (fun p=>(Value.string (strOfNums p.1),p.2))=.ok (.string (strOfNums a),i3))(hi3:0≤i3∧i3≤(bs.length:Int))(hle:(bs.length:Int)-i3≤0) :
  Calls Tryz.prog 231 #[.pointer (some ⟨g,0,none⟩),.pointer (some ⟨rb,0,none⟩)] w fun e W'=>e=.returned (.tuple #[])∧RS w W' rb lo g bs i3 true q (strOfNums a) (⟨#[]⟩:ByteArray):=by
 have HS:=QA hS;have HB:=QA hb;have hu:=Tryz.underlying36;have dA:(0:Int)≤1∧(1:Int)≤4611686018427387904:=⟨by decide,by decide⟩;have dB:(0:Int)≤4096∧(4096:Int)≤4611686018427387904:=⟨by decide,by decide⟩;have dC:(0:Int)≤0∧(0:Int)≤4611686018427387904:=⟨by decide,by decide⟩;have dD:(0:Int)≤1048576∧(1048576:Int)≤4611686018427387904:=⟨by decide,by decide⟩;have DD:=QA (And.intro dA (And.intro dB (And.intro dC dD)));clear hS hb dA dB dC dD;have HY:=QA hy;clear hy;have HV2:=QA hv2;clear hv2;have HV3:=QA hv3;clear hv3
 go_enter Tryz.func231,Tryz.ntmps231
 go_wp2_with (first
  |(go_at_call 235;refine(Qpr lo g bs i3 hi3 hl hle _ PT3.out QT3.out).mono ?_;rintro ee w5 ⟨rfl,hI5,hB5⟩)
  |(go_at_call 234;have dA:=DD.out.1;have dB:=DD.out.2.1;have dC:=DD.out.2.2.1;have dD:=DD.out.2.2.2;refine(Qql lo g bs i2 1 4096 dA dB HB.out hi2 hl hlg _ PT2.out QT2.out (.ok (.string (strOfNums a),i3)) HV3.out).mono ?_;rintro ee w3 ⟨rfl,hI3,hB3⟩;have S3:=QA (T2.out.cur T2.out.lt hI3 hB3);obtain⟨⟨b,c,d,h⟩,f30,f31,f32,f33⟩:=S3.out.cells;have T3:=QA (S3.out.sa (strOfNums a));have PT3:=QA T3.out.2.2.2.2.1;have QT3:=QA T3.out.1;obtain⟨⟨t0,t1,t2,t3⟩,_⟩:=T3.out.cells)
  |(go_at_call 233;refine(Qqi lo g bs (0+1) HB.out ⟨by omega,by omega⟩ hl hlg _ PT1.out QT1.out (.ok (.int .u64 q,i2)) HV2.out).mono ?_;rintro ee w2 ⟨rfl,hI2,hB2⟩;have S2:=QA (T1.out.cur T1.out.lt hI2 hB2);obtain⟨⟨j,k,l,m⟩,f20,f21,f22,f23⟩:=S2.out.cells;have T2:=QA (S2.out.sq q);have PT2:=QA T2.out.2.2.2.2.1;have QT2:=QA T2.out.1)
  |(go_at_call 232;refine(Qqg lo g bs 0 3 HY.out HB.out (Int.le_refl _) hl h0 hlg _ HS.out.2.2.2.2.1 HS.out.1).mono ?_;rintro ee w1 ⟨rfl,hI1,hB1⟩;have S1:=QA (HS.out.cur HS.out.lt hI1 hB1);obtain⟨⟨c10,n,o,r⟩,f10,f11,f12,f13⟩:=S1.out.cells;have T1:=QA (S1.out.sd true);have PT1:=QA T1.out.2.2.2.2.1;have QT1:=QA T1.out.1))
 go_end0
 exact⟨rfl,T3.out.cur T3.out.lt hI5 hB5⟩
def recL (bs:List Int):Except (Int × Int) ((Bool × Int × ByteArray × ByteArray) × Int) :=
 if (0:Int)<(bs.length:Int)then
  if YtepkfjmjidjedaaGreatW.PrintWords.rd bs 0≠2∧YtepkfjmjidjedaaGreatW.PrintWords.rd bs 0≠3 then .error (4,0+1)
  else match Qqh bs 10 0 (0+1) 0 with
   | .error p=>.error p
   | .ok (q,i2)=>match Qqk bs 1 4096 i2 with
    | .error p=>.error p
    | .ok (a,i3) =>
     if YtepkfjmjidjedaaGreatW.PrintWords.rd bs 0=3 then(if 0<(bs.length:Int)-i3 then .error (3,i3)else .ok ((true,q,strOfNums a,(⟨#[]⟩:ByteArray)),i3))
     else match Qqk bs 0 1048576 i3 with
      | .error p=>.error p
      | .ok (v,i4)=>if 0<(bs.length:Int)-i4 then .error (3,i4)else .ok ((false,q,strOfNums a,strOfNums v),i4)
 else .error (2,0)
theorem Qqv{bs:List Int}{least most i:Int}(h0:0≤i)(h1:i≤(bs.length:Int)){xs:List Int}{i2:Int}(h:Qqk bs least most i=.ok (xs,i2)):0≤i2∧i2≤(bs.length:Int):=by
 have hr:=Qqj bs 10 0 i 0 h0 h1 (by decide) (by decide);unfold Qqk at h
 cases hv:Qqh bs 10 0 i 0 with
 | error p=>rw[hv]at h;cases h
 | ok p =>
  obtain⟨n,i1⟩:=p;rw[hv]at h hr;dsimp only at h hr;split at h
  ·cases h
  ·split at h
   ·cases h
   ·split at h
    ·cases h;omega
    ·cases h
theorem rec_all (rb lo g:Nat) (bs:List Int) (hb:CodecP.Bytes bs) (hl:bs.length≤140737488355328) (hlg:lo≤g) (w:World) (hS:RS w w rb lo g bs 0 false 0 (⟨#[]⟩:ByteArray) (⟨#[]⟩:ByteArray)) :
  Calls Tryz.prog 231 #[.pointer (some ⟨g,0,none⟩),.pointer (some ⟨rb,0,none⟩)] w fun e W' =>
   match recL bs with
   | .ok ((d,q,a,b),i)=>e=.returned (.tuple #[])∧RS w W' rb lo g bs i d q a b
   | .error (er,i)=>e=.panicked [Qlq g er]∧∃d q a b,RS w W' rb lo g bs i d q a b:=by
 unfold recL
 by_cases h0:(0:Int)<(bs.length:Int)
 ·rw [if_pos h0]
  by_cases hk:YtepkfjmjidjedaaGreatW.PrintWords.rd bs 0≠2∧YtepkfjmjidjedaaGreatW.PrintWords.rd bs 0≠3
  ·rw[if_pos hk];exact Qqn rb lo g bs hb hl hlg w hS h0 _ rfl hk.1 hk.2
  ·rw [if_neg hk];have hg:=Qqj bs 10 0 (0+1) 0 (by omega) (by omega) (by decide) (by decide);have hcase:(2:Int)=YtepkfjmjidjedaaGreatW.PrintWords.rd bs 0∨(3:Int)=YtepkfjmjidjedaaGreatW.PrintWords.rd bs 0:=by omega
   cases hv:Qqh bs 10 0 (0+1) 0 with
   | error p =>
    obtain⟨er,i2⟩:=p
    rcases hcase with hy|hy
    ·exact Qqo rb lo g bs hb hl hlg w hS h0 hy er i2 (by rw[hv];rfl)
    ·exact Qqs rb lo g bs hb hl hlg w hS h0 hy er i2 (by rw[hv];rfl)
   | ok p =>
    obtain⟨q,i2⟩:=p;rw[hv]at hg;have hi2:0≤i2∧i2≤(bs.length:Int):=⟨by have:=hg.2.2.1;omega,hg.2.2.2⟩;have hv2:(Qqh bs 10 0 (0+1) 0).map (fun p=>(Value.int .u64 p.1,p.2))=.ok (.int .u64 q,i2):=by rw[hv];rfl
    dsimp only
    cases ht:Qqk bs 1 4096 i2 with
    | error p =>
     obtain⟨er,i3⟩:=p
     rcases hcase with hy|hy
     ·exact Qqp rb lo g bs hb hl hlg w hS h0 hy q i2 hv2 hi2 er i3 (by rw[ht];rfl)
     ·exact Qqt rb lo g bs hb hl hlg w hS h0 hy q i2 hv2 hi2 er i3 (by rw[ht];rfl)
    | ok p =>
     obtain⟨a,i3⟩:=p;have hi3:=Qqv hi2.1 hi2.2 ht;have hv3:(Qqk bs 1 4096 i2).map (fun p=>(Value.string (strOfNums p.1),p.2))=.ok (.string (strOfNums a),i3):=by rw[ht];rfl
     dsimp only
     rcases hcase with hy|hy
     ·rw[if_neg (by omega)]
      cases hu:Qqk bs 0 1048576 i3 with
      | error p =>
       obtain⟨er,i4⟩:=p;exact Qqq rb lo g bs hb hl hlg w hS h0 hy q i2 hv2 hi2 a i3 hv3 hi3 er i4 (by rw[hu];rfl)
      | ok p =>
       obtain⟨v,i4⟩:=p;have hi4:=Qqv hi3.1 hi3.2 hu;have hv4:(Qqk bs 0 1048576 i3).map (fun p=>(Value.string (strOfNums p.1),p.2))=.ok (.string (strOfNums v),i4):=by rw[hu];rfl
       dsimp only
       by_cases hlt:0<(bs.length:Int)-i4
       ·rw[if_pos hlt];exact Qqr rb lo g bs hb hl hlg w hS h0 hy q i2 hv2 hi2 a i3 hv3 hi3 v i4 hv4 hi4 hlt
       ·rw[if_neg hlt];exact rec_ok2 rb lo g bs hb hl hlg w hS h0 hy q i2 hv2 hi2 a i3 hv3 hi3 v i4 hv4 hi4 (by omega)
     ·rw[if_pos hy.symm]
      by_cases hlt:0<(bs.length:Int)-i3
      ·rw[if_pos hlt];exact Qqu rb lo g bs hb hl hlg w hS h0 hy q i2 hv2 hi2 a i3 hv3 hi3 hlt
      ·rw[if_neg hlt];exact rec_ok3 rb lo g bs hb hl hlg w hS h0 hy q i2 hv2 hi2 a i3 hv3 hi3 (by omega)
 ·rw[if_neg h0];exact Qqm rb lo g bs hb hl hlg w hS h0
noncomputable def Qby.f(l0:List Int):Option (Bool × Int × ByteArray × ByteArray × Int) :=
 @ite _ (CodecP.Bytes l0∧l0.length≤140737488355328) (Classical.propDecidable _) (match recL l0 with
  | .ok ((d,q,a,b),_)=>some (d,q,a,b,0)
  | .error (er,_)=>some (false,0,(⟨#[]⟩:ByteArray),(⟨#[]⟩:ByteArray),er)) none
theorem Qqw(bs:List Int):∀(f:Nat) (j i x:Int) (er i1:Int),Qqh bs f j i x=.error (er,i1)→er≠0
 | 0,_,_,_,_,_=>fun h=>by cases h
 | f+1,j,i,x,er,i1=>fun h=>by
  unfold Qqh at h
  repeat' split at h
  all_goals first |(cases h;decide)|exact Qqw bs f _ _ _ _ _ h|cases h
theorem Qqx{bs:List Int}{least most i er i1:Int}(h:Qqk bs least most i=.error (er,i1)):er≠0:=by
 unfold Qqk at h
 cases hv:Qqh bs 10 0 i 0 with
 | error p=>rw[hv]at h;cases h;exact Qqw bs 10 0 i 0 er i1 hv
 | ok p =>
  rw[hv]at h;dsimp only at h
  repeat' split at h
  all_goals first |(cases h;decide)|cases h
theorem Qqy{bs:List Int}{er i:Int}(h:recL bs=.error (er,i)):er≠0:=by
 unfold recL at h;split at h
 ·split at h
  ·cases h;decide
  ·cases hv:Qqh bs 10 0 (0+1) 0 with
   | error p=>rw[hv]at h;cases h;exact Qqw bs 10 0 _ 0 er i hv
   | ok p =>
    rw[hv]at h;dsimp only at h
    cases ht:Qqk bs 1 4096 p.2 with
    | error p=>rw[ht]at h;cases h;exact Qqx ht
    | ok p2 =>
     rw[ht]at h;dsimp only at h;split at h
     ·split at h
      ·cases h;decide
      ·cases h
     ·cases hu:Qqk bs 0 1048576 p2.2 with
      | error p=>rw[hu]at h;cases h;exact Qqx hu
      | ok p3 =>
       rw[hu]at h;dsimp only at h;split at h
       ·cases h;decide
       ·cases h
 ·cases h;decide
theorem Qqz(as_:Array Value)(W:World):(callFunc 231 as_).run Tryz.prog W=.ok (.enter 231 as_) W:=by
 simp[callFunc,Tryz.func231,Tryz.f231]
theorem Qra{W:World}{rb lo g:Nat}{bs:List Int}(hI:IsCur W lo g bs 0)(hk:W.heap[rb]? = some (.cells #[.bool false,.int .u64 0,.string (⟨#[]⟩:ByteArray),.string (⟨#[]⟩:ByteArray)] 36 (0,0)))(hlt:rb<lo)(hg:lo≤g):RS W W rb lo g bs 0 false 0 (⟨#[]⟩:ByteArray) (⟨#[]⟩:ByteArray) :=
 ⟨hI,hk,Below.refl _ _,fun k cs t _ h _ _=>h,Nat.le_of_lt (Nat.lt_of_le_of_lt hg hI.lt),hlt⟩
theorem rec_run(A0:Option Addr)(c0:Nat)(l0:List Int)(rb:Nat)(w:World)(hb:CodecP.Bytes l0)(hl:l0.length≤140737488355328)(hr0:Kd.C (Kd.int .u8) w A0 l0.length l0)
  (hk:w.heap[rb]? = some (.cells #[.bool false,.int .u64 0,.string (⟨#[]⟩:ByteArray),.string (⟨#[]⟩:ByteArray)] 36 (0,0))) :
  Calls Tryz.prog 170 #[.slice A0 l0.length c0,.func (.func 231) #[] #[.pointer (some ⟨rb,0,none⟩)]] w fun e w'=>∃er i,e=.returned (.tuple #[.int .i64 i,.int .i64 er])∧Below rb w w' ∧
   match recL l0 with
   | .ok ((d,q,a,b),_)=>er=0∧w'.heap[rb]? = some (.cells #[.bool d,.int .u64 q,.string a,.string b] 36 (0,0))
   | .error (e0,_)=>er=e0∧∃cs,w'.heap[rb]? = some (.cells cs 36 (0,0)):=by
 have hlt:=Qde hk;refine Qqa 231 #[.pointer (some ⟨rb,0,none⟩)] A0 c0 l0 w hr0 hl Qqz (fun er _ W'=>Below rb w W' ∧
   match recL l0 with
   | .ok ((d,q,a,b),_)=>er=0∧W'.heap[rb]? = some (.cells #[.bool d,.int .u64 q,.string a,.string b] 36 (0,0))
   | .error (e0,_)=>er=e0∧∃cs,W'.heap[rb]? = some (.cells cs 36 (0,0))) ?_ ?_
 ·rintro er i W W' ⟨h1,h2⟩ h3;refine⟨h1.trans (Qis h3 (Nat.le_of_lt hlt)),?_⟩
  cases hrec:recL l0 with
  | ok p =>
   obtain⟨⟨d,q,a,b⟩,j⟩:=p;rw[hrec]at h2;exact⟨h2.1,(h3.block rb hlt).trans h2.2⟩
  | error p =>
   rw[hrec]at h2;obtain⟨h4,cs,h5⟩:=h2;exact⟨h4,cs,(h3.block rb hlt).trans h5⟩
 ·intro W g hg hB hI;have hk2:=(hB.block rb hlt).trans hk;refine(rec_all rb w.heap.size g l0 hb hl hg W (Qra hI hk2 hlt hg)).mono ?_;intro e W' h;have hB2:Below rb w W:=Qis hB (Nat.le_of_lt hlt)
  cases hrec:recL l0 with
  | ok p =>
   obtain⟨⟨d,q,a,b⟩,j⟩:=p;rw[hrec]at h;obtain⟨h1,h2⟩:=h;exact⟨j,h2.1,h2.2.2.2.1,.inl ⟨h1,hB2.trans h2.2.2.1,rfl,h2.2.1⟩⟩
  | error p =>
   obtain⟨e0,j⟩:=p;rw[hrec]at h;obtain⟨h1,d,q,a,b,h2⟩:=h;exact⟨j,h2.1,h2.2.2.2.1,.inr ⟨e0,h1,hB2.trans h2.2.2.1,rfl,_,h2.2.1⟩⟩
theorem Qby.calls(A0:Option Addr)(c0:Nat)(l0:List Int)(r1:Bool)(r2:Int)(r3 r4:ByteArray)(r5:Int)(w:World)(hr0:Kd.C (Kd.int .u8) w A0 l0.length l0)(hc0:l0.length≤c0)(h:Qby.f l0=some (r1,r2,r3,r4,r5)) :
  Calls Tryz.prog 182 #[.slice A0 l0.length c0] w fun e w'=>e=.returned (.tuple #[.agg #[.bool r1,.int .u64 r2,.string r3,.string r4],.int .i64 r5])∧Below w.heap.size w w':=by
 unfold Qby.f at h
 by_cases hg:CodecP.Bytes l0∧l0.length≤140737488355328
 ·rw[if_pos hg]at h;have hu:=Tryz.underlying36;have HG:=QA hg;have c:=QA hr0;obtain⟨z0,hz0⟩:∃z:Obj,z=.cells #[.bool false,.int .u64 0,.string (⟨#[]⟩:ByteArray),.string (⟨#[]⟩:ByteArray)] 36 (0,0):=⟨_,rfl⟩;have b0:Below w.heap.size w ((w.alloc z0).alloc z0):=Qci (Qci (Below.refl _ _) _) _;have hsz:((w.alloc z0).alloc z0).heap.size=w.heap.size+2:=by simp[World.size_alloc]
  have k1:=Qdp (Qdt w z0) z0;have k2:=Qdt (w.alloc z0) z0;rw[World.size_alloc]at k2;subst hz0;have RUN:=QA (rec_run A0 c0 l0 (w.heap.size+1) _ hg.1 hg.2 (Kd.C_below hr0 b0) k2);have B0:=QA b0;have K1:=QA k1;clear hg hr0 b0 k1 k2 hsz
  cases hrec:recL l0 with
  | ok p =>
   obtain⟨⟨d,q,a,b⟩,i0⟩:=p;rw[hrec]at h;simp only[Option.some.injEq,Prod.mk.injEq]at h;obtain⟨rfl,rfl,rfl,rfl,rfl⟩:=h;rw[hrec]at RUN;clear hrec
   go_enter Tryz.func182,Tryz.ntmps182
   go_wp2_with (go_at_call 170;refine RUN.out.mono ?_;rintro ee w3 ⟨er,i,rfl,hb3,rfl,hk3⟩;have hr3:=(hb3.block w.heap.size (Nat.lt_succ_self _)).trans K1.out;obtain⟨d0,d1,d2,d3⟩:=box4 hk3;obtain⟨e0,e1,e2,e3⟩:=box4 hr3;have g0:=Qdg hr3 0;have g1:=Qdg hr3 1;have g2:=Qdg hr3 2;have g3:=Qdg hr3 3)
   have hbb:Below w.heap.size w w3:=B0.out.trans (Qis hb3 (Nat.le_succ _));refine bodyPost_ret (Qdu rfl _ _ w.heap.size 36 #[.bool d,.int .u64 q,.string a,.string b] (0,0) _ rfl (Qdc (Qdc (Qdc (Qdc hr3 0 _) 1 _) 2 _) 3 _) hu rfl qq_5) rfl ?_;exact⟨rfl,Qir (Qir (Qir (Qir hbb (Nat.le_refl _)) (Nat.le_refl _)) (Nat.le_refl _)) (Nat.le_refl _)⟩
  | error p =>
   obtain⟨y0,i0⟩:=p;rw[hrec]at h;simp only[Option.some.injEq,Prod.mk.injEq]at h;obtain⟨rfl,rfl,rfl,rfl,rfl⟩:=h;have hne:(y0 != 0)=true:=bne_iff_ne.2 (Qqy hrec);rw[hrec]at RUN;clear hrec
   go_enter Tryz.func182,Tryz.ntmps182
   go_wp2_with (go_at_call 170;refine RUN.out.mono ?_;rintro ee w3 ⟨er,i,rfl,hb3,rfl,cs,hk3⟩;have hr3:=(hb3.block w.heap.size (Nat.lt_succ_self _)).trans K1.out;obtain⟨e0,e1,e2,e3⟩:=box4 hr3;have g0:=Qdg hr3 0;have g1:=Qdg hr3 1;have g2:=Qdg hr3 2;have g3:=Qdg hr3 3)
   have hbb:Below w.heap.size w w3:=B0.out.trans (Qis hb3 (Nat.le_succ _));refine bodyPost_ret (Qdu rfl _ _ w.heap.size 36 #[.bool false,.int .u64 0,.string (⟨#[]⟩:ByteArray),.string (⟨#[]⟩:ByteArray)] (0,0) _ rfl (Qdc (Qdc (Qdc (Qdc hr3 0 _) 1 _) 2 _) 3 _) hu rfl qq_5) rfl ?_;exact⟨rfl,Qir (Qir (Qir (Qir hbb (Nat.le_refl _)) (Nat.le_refl _)) (Nat.le_refl _)) (Nat.le_refl _)⟩
 ·rw[if_neg hg]at h;cases h
noncomputable def Qbf.f(k:Nat)(l0:List Int):Option (Bool × Int × ByteArray × ByteArray × Int):=(Qbg.f k l0).bind fun t=>if t.2=0 then Qby.f t.1 else some (false,0,(⟨#[]⟩:ByteArray),(⟨#[]⟩:ByteArray),t.2)
theorem Qbf.calls(k:Nat)(A0:Option Addr)(c0:Nat)(l0:List Int)(r1:Bool)(r2:Int)(r3 r4:ByteArray)(r5:Int)(w:World)(hr0:Kd.C (Kd.int .u8) w A0 l0.length l0)(hc0:l0.length≤c0)(h:Qbf.f k l0=some (r1,r2,r3,r4,r5)) :
  Calls Tryz.prog 123 #[.slice A0 l0.length c0] w fun e w'=>e=.returned (.tuple #[.agg #[.bool r1,.int .u64 r2,.string r3,.string r4],.int .i64 r5])∧Below w.heap.size w w':=by
 unfold Qbf.f at h;obtain⟨⟨out,e0⟩,hU,h⟩:=Option.bind_eq_some_iff.mp h;dsimp only at h;have hu:=Tryz.underlying36;obtain⟨z0,hz0⟩:∃z:Obj,z=.cells #[.bool false,.int .u64 0,.string (⟨#[]⟩:ByteArray),.string (⟨#[]⟩:ByteArray)] 36 (0,0):=⟨_,rfl⟩;have b0:Below w.heap.size w (w.alloc z0):=Qci (Below.refl _ _) _;have k1:=Qdt w z0;subst hz0;have HU:=QA (Qbg.calls k A0 c0 l0 out e0 _ (Kd.C_below hr0 b0) hc0 hU);have B0:=QA b0;have K1:=QA k1;clear hU hr0 b0 k1 hc0
 by_cases he:e0=0
 ·subst he;rw[if_pos rfl]at h;have HH:=QA h;clear h
  go_enter Tryz.func123,Tryz.ntmps123
  go_wp2_with (first
   |(go_at_call 181;refine HU.out.mono ?_;rintro ee w1 ⟨A1,c1,rfl,hC1,hlc1,hb1⟩;have b:=QA hC1;have HLC1:=QA hlc1;clear hC1 hlc1)
   |(go_at_call 182;refine(Qby.calls A1 c1 out r1 r2 r3 r4 r5 _ b.out HLC1.out HH.out).mono ?_;rintro ee w2 ⟨rfl,hb2⟩;have a:=QA (hb1.trans (Qis hb2 hb1.size));have hr3:=(a.out.block w.heap.size (Qde K1.out)).trans K1.out;obtain⟨q0,q1,q2,q3⟩:=box4 hr3;have g0:=Qdg hr3 0;have g1:=Qdg hr3 1;have g2:=Qdg hr3 2;have g3:=Qdg hr3 3;clear hb2 hb1))
  have hbb:Below w.heap.size w w2:=B0.out.trans (Qis a.out B0.out.size);refine bodyPost_ret (Qdu rfl _ _ w.heap.size 36 #[.bool r1,.int .u64 r2,.string r3,.string r4] (0,0) _ rfl (Qdc (Qdc (Qdc (Qdc hr3 0 _) 1 _) 2 _) 3 _) hu rfl qq_5) rfl ?_;exact⟨rfl,Qir (Qir (Qir (Qir hbb (Nat.le_refl _)) (Nat.le_refl _)) (Nat.le_refl _)) (Nat.le_refl _)⟩
 ·rw[if_neg he]at h;simp only[Option.some.injEq,Prod.mk.injEq]at h;obtain⟨rfl,rfl,rfl,rfl,rfl⟩:=h;have hne:(e0 != 0)=true:=bne_iff_ne.2 he
  go_enter Tryz.func123,Tryz.ntmps123
  go_wp2_with (first
   |(go_at_call 181;refine HU.out.mono ?_;rintro ee w1 ⟨A1,c1,rfl,hC1,hlc1,hb1⟩;have a:=QA hb1;have hr3:=(hb1.block w.heap.size (Qde K1.out)).trans K1.out;obtain⟨q0,q1,q2,q3⟩:=box4 hr3;have g0:=Qdg hr3 0;have g1:=Qdg hr3 1;have g2:=Qdg hr3 2;have g3:=Qdg hr3 3;clear hb1 hC1 hlc1))
  have hbb:Below w.heap.size w w1:=B0.out.trans (Qis a.out B0.out.size);refine bodyPost_ret (Qdu rfl _ _ w.heap.size 36 #[.bool false,.int .u64 0,.string (⟨#[]⟩:ByteArray),.string (⟨#[]⟩:ByteArray)] (0,0) _ rfl (Qdc (Qdc (Qdc (Qdc hr3 0 _) 1 _) 2 _) 3 _) hu rfl qq_5) rfl ?_;exact⟨rfl,Qir (Qir (Qir (Qir hbb (Nat.le_refl _)) (Nat.le_refl _)) (Nat.le_refl _)) (Nat.le_refl _)⟩
end Go.Proofs.YtepkfjmjidjedaaGreat.C
end
