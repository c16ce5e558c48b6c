/- Merged texts. -/
import Derived.Test.YteaocbonofboeaaGreatMA02
import Derived.WalkLawsBesides
import Derived.Recover
import Derived.Defers
import Derived.Test.YteaocbonofboeaaGreatMA06
import Derived.Test.YteaocbonofboeaaGreatMA07
import Derived.Test.YteaocbonofboeaaGreatMA21
import Derived.Test.YteaocbonofboeaaGreatMA08
import Derived.Test.YteaocbonofboeaaGreatMA11
import Derived.Test.YteaocbonofboeaaGreatMA12
import Derived.Deep.RegionLaw
set_option linter.unusedVariables false
set_option linter.unusedSimpArgs false
set_option maxHeartbeats 8000000
set_option maxRecDepth 100000
section
namespace Go.Proofs.YteaocbonofboeaaGreat.C
open Go.RowKit Go.Proofs.YteaocbonofboeaaGreatW.PrintWords Go.Proofs.YteaocbonofboeaaGreatW.PrintLast Go.Proofs.YteaocbonofboeaaGreatW.PrintMore
theorem IsCur.far{W:World}{b g rb j:Nat}{bs:List Int}{i:Int}{u:Value}{cs:Array Value}(h:IsCur W b g bs i)(hr:W.heap[rb]? = some (.cells cs 37 (0,0))):IsCur (W.setCell ⟨rb,j,none⟩ u) b g bs i:=by
 obtain⟨v,h1,h2⟩:=h;exact⟨v,Qeg h1 (p:=⟨rb,j,none⟩) (Qel h1 hr (by decide)) u,h2.set hr (by decide) j u⟩
def RS(w W:World)(rb lo g:Nat)(bs:List Int)(i:Int)(d:Bool)(q:Int)(a b:ByteArray):Prop :=
 IsCur W lo g bs i∧W.heap[rb]? = some (.cells #[.bool d,.int .u64 q,.string a,.string b] 37 (0,0))∧Below rb w W∧Tl lo g w W∧lo≤W.heap.size∧rb<lo
section
variable {w W W':World} {rb lo g:Nat} {bs:List Int} {i j q:Int} {d:Bool} {a b:ByteArray}
theorem RS.cur(h:RS w W rb lo g bs i d q a b)(hw:rb≤W.heap.size)(hI:IsCur W' lo g bs j)(hb:Bw lo g W W'):RS w W' rb lo g bs j d q a b :=
 ⟨hI,(hb.1.block rb h.2.2.2.2.2).trans h.2.1,h.2.2.1.trans (Qkr hb.1 (Nat.le_of_lt h.2.2.2.2.2)),fun k cs t h1 h2 h3 h4=>hb.2 _ _ _ (h.2.2.2.1 _ _ _ h1 h2 h3 h4) h3 h4,Nat.le_trans h.2.2.2.2.1 hb.size,h.2.2.2.2.2⟩
theorem RS.lt(h:RS w W rb lo g bs i d q a b):rb≤W.heap.size:=Nat.le_of_lt (Qeh h.2.1)
theorem RS.tl(h:RS w W rb lo g bs i d q a b)(n:Nat)(u:Value):Tl lo g w (W.setCell ⟨rb,n,none⟩ u):=fun k cs t h1 h2 h3 h4=>Qeg (h.2.2.2.1 _ _ _ h1 h2 h3 h4) (p:=⟨rb,n,none⟩) (by have:=h.2.2.2.2.2;show k≠rb;omega) u
theorem RS.size(h:RS w W rb lo g bs i d q a b)(n:Nat)(u:Value):lo≤(W.setCell ⟨rb,n,none⟩ u).heap.size:=by simpa [World.setCell]using h.2.2.2.2.1
theorem RS.sd(h:RS w W rb lo g bs i d q a b)(x:Bool):RS w (W.setCell ⟨rb,0,none⟩ (.bool x)) rb lo g bs i x q a b:=⟨h.1.far h.2.1,Qef h.2.1 0 _,Qkq h.2.2.1 (Nat.le_refl _),h.tl _ _,h.size _ _,h.2.2.2.2.2⟩
theorem RS.sq(h:RS w W rb lo g bs i d q a b)(x:Int):RS w (W.setCell ⟨rb,1,none⟩ (.int .u64 x)) rb lo g bs i d x a b:=⟨h.1.far h.2.1,Qef h.2.1 1 _,Qkq h.2.2.1 (Nat.le_refl _),h.tl _ _,h.size _ _,h.2.2.2.2.2⟩
theorem RS.sa(h:RS w W rb lo g bs i d q a b)(x:ByteArray):RS w (W.setCell ⟨rb,2,none⟩ (.string x)) rb lo g bs i d q x b:=⟨h.1.far h.2.1,Qef h.2.1 2 _,Qkq h.2.2.1 (Nat.le_refl _),h.tl _ _,h.size _ _,h.2.2.2.2.2⟩
theorem RS.sb(h:RS w W rb lo g bs i d q a b)(x:ByteArray):RS w (W.setCell ⟨rb,3,none⟩ (.string x)) rb lo g bs i d q a x:=⟨h.1.far h.2.1,Qef h.2.1 3 _,Qkq h.2.2.1 (Nat.le_refl _),h.tl _ _,h.size _ _,h.2.2.2.2.2⟩
theorem RS.cells(h:RS w W rb lo g bs i d q a b):(W.cell? ⟨rb,0,none⟩=some (.bool d)∧W.cell? ⟨rb,1,none⟩=some (.int .u64 q)∧W.cell? ⟨rb,2,none⟩=some (.string a)∧W.cell? ⟨rb,3,none⟩=some (.string b))∧(W.frozen? ⟨rb,0,none⟩=false∧W.frozen? ⟨rb,1,none⟩=false∧W.frozen? ⟨rb,2,none⟩=false∧W.frozen? ⟨rb,3,none⟩=false) :=
 ⟨⟨(Qei h.2.1 0).trans rfl,(Qei h.2.1 1).trans rfl,(Qei h.2.1 2).trans rfl,(Qei h.2.1 3).trans rfl⟩,Qej h.2.1 0,Qej h.2.1 1,Qej h.2.1 2,Qej h.2.1 3⟩
end
theorem Qtn(rb lo g:Nat)(bs:List Int)(hb:CodecP.Bytes bs)(hl:bs.length≤140737488355328)(hlg:lo≤g)(w:World)(hS:RS w w rb lo g bs 0 false 0 (⟨#[]⟩:ByteArray) (⟨#[]⟩:ByteArray))(h0:¬(0:Int)<(bs.length:Int)) :
  Calls Tryz.prog 172 #[.pointer (some ⟨g,0,none⟩),.pointer (some ⟨rb,0,none⟩)] w fun e W'=>e=.panicked [Qop g 2]∧∃d q a b,RS w W' rb lo g bs 0 d q a b:=by
 have HS:=QA hS;have HB:=QA hb;have hu:=Tryz.underlying37;have dA:(0:Int)≤1∧(1:Int)≤4611686018427387904:=⟨by decide,by decide⟩;have dB:(0:Int)≤4096∧(4096:Int)≤4611686018427387904:=⟨by decide,by decide⟩;have dC:(0:Int)≤0∧(0:Int)≤4611686018427387904:=⟨by decide,by decide⟩;have dD:(0:Int)≤1048576∧(1048576:Int)≤4611686018427387904:=⟨by decide,by decide⟩;have DD:=QA (And.intro dA (And.intro dB (And.intro dC dD)));clear hS hb dA dB dC dD
 go_enter Tryz.func172,Tryz.ntmps172
 go_wp2_with (go_at_call 173;refine(Qsp lo g bs 0 ⟨Int.le_refl _,by omega⟩ hl (by omega) _ HS.out.2.2.2.2.1 HS.out.1).mono ?_;rintro ee w1 ⟨rfl,hI1,hB1⟩)
 exact⟨rfl,rfl,_,_,_,_,HS.out.cur HS.out.lt hI1 hB1⟩
theorem Qto(rb lo g:Nat)(bs:List Int)(hb:CodecP.Bytes bs)(hl:bs.length≤140737488355328)(hlg:lo≤g)(w:World)(hS:RS w w rb lo g bs 0 false 0 (⟨#[]⟩:ByteArray) (⟨#[]⟩:ByteArray))(h0:(0:Int)<(bs.length:Int))(y:Int)(hy:y=YteaocbonofboeaaGreatW.PrintWords.rd bs 0)(h2:y≠2)(h3:y≠3) :
  Calls Tryz.prog 172 #[.pointer (some ⟨g,0,none⟩),.pointer (some ⟨rb,0,none⟩)] w fun e W'=>e=.panicked [Qop g 4]∧∃d q a b,RS w W' rb lo g bs (0+1) d q a b:=by
 have HS:=QA hS;have HB:=QA hb;have hu:=Tryz.underlying37;have dA:(0:Int)≤1∧(1:Int)≤4611686018427387904:=⟨by decide,by decide⟩;have dB:(0:Int)≤4096∧(4096:Int)≤4611686018427387904:=⟨by decide,by decide⟩;have dC:(0:Int)≤0∧(0:Int)≤4611686018427387904:=⟨by decide,by decide⟩;have dD:(0:Int)≤1048576∧(1048576:Int)≤4611686018427387904:=⟨by decide,by decide⟩;have DD:=QA (And.intro dA (And.intro dB (And.intro dC dD)));clear hS hb dA dB dC dD;have hk2:(y != 2)=true:=bne_iff_ne.2 h2;have hk3:(y != 3)=true:=bne_iff_ne.2 h3;have HY:=QA hy;clear hy
 go_enter Tryz.func172,Tryz.ntmps172
 go_wp2_with (first
  |(go_at_call 173;refine(Qth lo g bs 0 y HY.out HB.out (Int.le_refl _) hl h0 hlg _ HS.out.2.2.2.2.1 HS.out.1).mono ?_;rintro ee w1 ⟨rfl,hI1,hB1⟩;have S1:=QA (HS.out.cur HS.out.lt hI1 hB1);obtain⟨⟨c10,c,h,j⟩,f10,f11,f12,f13⟩:=S1.out.cells;have T1:=QA (S1.out.sd (y == 3)))
  |(go_at_call 174;refine(Qor lo g bs (0+1) 4 (by decide) _ S1.out.1).mono ?_;rintro ee w2 ⟨rfl,rfl⟩))
 exact⟨rfl,rfl,_,_,_,_,S1.out⟩
theorem Qtp(rb lo g:Nat)(bs:List Int)(hb:CodecP.Bytes bs)(hl:bs.length≤140737488355328)(hlg:lo≤g)(w:World)(hS:RS w w rb lo g bs 0 false 0 (⟨#[]⟩:ByteArray) (⟨#[]⟩:ByteArray))(h0:(0:Int)<(bs.length:Int))(hy:(2:Int)=YteaocbonofboeaaGreatW.PrintWords.rd bs 0)(er i2:Int)(hvf:(Qti bs 10 0 (0+1) 0).map (fun p=>(Value.int .u64 p.1,p.2))=.error (er,i2)) :
  Calls Tryz.prog 172 #[.pointer (some ⟨g,0,none⟩),.pointer (some ⟨rb,0,none⟩)] w fun e W'=>e=.panicked [Qop g er]∧∃d q a b,RS w W' rb lo g bs i2 d q a b:=by
 have HS:=QA hS;have HB:=QA hb;have hu:=Tryz.underlying37;have dA:(0:Int)≤1∧(1:Int)≤4611686018427387904:=⟨by decide,by decide⟩;have dB:(0:Int)≤4096∧(4096:Int)≤4611686018427387904:=⟨by decide,by decide⟩;have dC:(0:Int)≤0∧(0:Int)≤4611686018427387904:=⟨by decide,by decide⟩;have dD:(0:Int)≤1048576∧(1048576:Int)≤4611686018427387904:=⟨by decide,by decide⟩;have DD:=QA (And.intro dA (And.intro dB (And.intro dC dD)));clear hS hb dA dB dC dD;have HY:=QA hy;clear hy;have HVF:=QA hvf;clear hvf
 go_enter Tryz.func172,Tryz.ntmps172
 go_wp2_with (first
  |(go_at_call 175;refine(Qtj lo g bs (0+1) HB.out ⟨by omega,by omega⟩ hl hlg _ PT1.out QT1.out (.error (er,i2)) HVF.out).mono ?_;rintro ee w2 ⟨rfl,hI2,hB2⟩)
  |(go_at_call 173;refine(Qth lo g bs 0 2 HY.out HB.out (Int.le_refl _) hl h0 hlg _ HS.out.2.2.2.2.1 HS.out.1).mono ?_;rintro ee w1 ⟨rfl,hI1,hB1⟩;have S1:=QA (HS.out.cur HS.out.lt hI1 hB1);obtain⟨⟨c10,c,h,j⟩,f10,f11,f12,f13⟩:=S1.out.cells;have T1:=QA (S1.out.sd false);have PT1:=QA T1.out.2.2.2.2.1;have QT1:=QA T1.out.1))
 exact⟨rfl,rfl,_,_,_,_,T1.out.cur T1.out.lt hI2 hB2⟩
theorem Qtq(rb lo g:Nat)(bs:List Int)(hb:CodecP.Bytes bs)(hl:bs.length≤140737488355328)(hlg:lo≤g)(w:World)(hS:RS w w rb lo g bs 0 false 0 (⟨#[]⟩:ByteArray) (⟨#[]⟩:ByteArray))(h0:(0:Int)<(bs.length:Int))(hy:(2:Int)=YteaocbonofboeaaGreatW.PrintWords.rd bs 0)(q i2:Int)(hv2:(Qti bs 10 0 (0+1) 0).map (fun p=>(Value.int .u64 p.1,p.2))=.ok (.int .u64 q,i2))(hi2:0≤i2∧i2≤(bs.length:Int))(er i3:Int)(hvf:(Qtl bs 1 4096 i2).map (fun p=>(Value.string (strOfNums p.1),p.2))=.error (er,i3)) :
  Calls Tryz.prog 172 #[.pointer (some ⟨g,0,none⟩),.pointer (some ⟨rb,0,none⟩)] w fun e W'=>e=.panicked [Qop g er]∧∃d q a b,RS w W' rb lo g bs i3 d q a b:=by
 have HS:=QA hS;have HB:=QA hb;have hu:=Tryz.underlying37;have dA:(0:Int)≤1∧(1:Int)≤4611686018427387904:=⟨by decide,by decide⟩;have dB:(0:Int)≤4096∧(4096:Int)≤4611686018427387904:=⟨by decide,by decide⟩;have dC:(0:Int)≤0∧(0:Int)≤4611686018427387904:=⟨by decide,by decide⟩;have dD:(0:Int)≤1048576∧(1048576:Int)≤4611686018427387904:=⟨by decide,by decide⟩;have DD:=QA (And.intro dA (And.intro dB (And.intro dC dD)));clear hS hb dA dB dC dD;have HY:=QA hy;clear hy;have HV2:=QA hv2;clear hv2;have HVF:=QA hvf;clear hvf
 go_enter Tryz.func172,Tryz.ntmps172
 go_wp2_with (first
  |(go_at_call 176;have dA:=DD.out.1;have dB:=DD.out.2.1;have dC:=DD.out.2.2.1;have dD:=DD.out.2.2.2;refine(Qtm lo g bs i2 1 4096 dA dB HB.out hi2 hl hlg _ PT2.out QT2.out (.error (er,i3)) HVF.out).mono ?_;rintro ee w3 ⟨rfl,hI3,hB3⟩)
  |(go_at_call 175;refine(Qtj lo g bs (0+1) HB.out ⟨by omega,by omega⟩ hl hlg _ PT1.out QT1.out (.ok (.int .u64 q,i2)) HV2.out).mono ?_;rintro ee w2 ⟨rfl,hI2,hB2⟩;have S2:=QA (T1.out.cur T1.out.lt hI2 hB2);obtain⟨⟨c,h,j,k⟩,f20,f21,f22,f23⟩:=S2.out.cells;have T2:=QA (S2.out.sq q);have PT2:=QA T2.out.2.2.2.2.1;have QT2:=QA T2.out.1)
  |(go_at_call 173;refine(Qth lo g bs 0 2 HY.out HB.out (Int.le_refl _) hl h0 hlg _ HS.out.2.2.2.2.1 HS.out.1).mono ?_;rintro ee w1 ⟨rfl,hI1,hB1⟩;have S1:=QA (HS.out.cur HS.out.lt hI1 hB1);obtain⟨⟨c10,l,m,n⟩,f10,f11,f12,f13⟩:=S1.out.cells;have T1:=QA (S1.out.sd false);have PT1:=QA T1.out.2.2.2.2.1;have QT1:=QA T1.out.1))
 exact⟨rfl,rfl,_,_,_,_,T2.out.cur T2.out.lt hI3 hB3⟩
theorem Qtr(rb lo g:Nat)(bs:List Int)(hb:CodecP.Bytes bs)(hl:bs.length≤140737488355328)(hlg:lo≤g)(w:World)(hS:RS w w rb lo g bs 0 false 0 (⟨#[]⟩:ByteArray) (⟨#[]⟩:ByteArray))(h0:(0:Int)<(bs.length:Int))(hy:(2:Int)=YteaocbonofboeaaGreatW.PrintWords.rd bs 0)(q i2:Int)(hv2:(Qti bs 10 0 (0+1) 0).map (fun p=>(Value.int .u64 p.1,p.2))=.ok (.int .u64 q,i2))(hi2:0≤i2∧i2≤(bs.length:Int))(a:List Int)(i3:Int)(hv3:(Qtl bs 1 4096 i2).map (fun p=>(Value.string (strOfNums p.1),p.2))=.ok (.string (strOfNums a),i3))(hi3:0≤i3∧i3≤(bs.length:Int))(er i4:Int)(hvf:(Qtl bs 0 1048576 i3).map (fun p=>(Value.string (strOfNums p.1),p.2))=.error (er,i4)) :
  Calls Tryz.prog 172 #[.pointer (some ⟨g,0,none⟩),.pointer (some ⟨rb,0,none⟩)] w fun e W'=>e=.panicked [Qop g er]∧∃d q a b,RS w W' rb lo g bs i4 d q a b:=by
 have HS:=QA hS;have HB:=QA hb;have hu:=Tryz.underlying37;have dA:(0:Int)≤1∧(1:Int)≤4611686018427387904:=⟨by decide,by decide⟩;have dB:(0:Int)≤4096∧(4096:Int)≤4611686018427387904:=⟨by decide,by decide⟩;have dC:(0:Int)≤0∧(0:Int)≤4611686018427387904:=⟨by decide,by decide⟩;have dD:(0:Int)≤1048576∧(1048576:Int)≤4611686018427387904:=⟨by decide,by decide⟩;have DD:=QA (And.intro dA (And.intro dB (And.intro dC dD)));clear hS hb dA dB dC dD;have HY:=QA hy;clear hy;have HV2:=QA hv2;clear hv2;have HV3:=QA hv3;clear hv3;have HVF:=QA hvf;clear hvf
 go_enter Tryz.func172,Tryz.ntmps172
 go_wp2_with (first
  |(go_at_call 176;have dA:=DD.out.1;have dB:=DD.out.2.1;have dC:=DD.out.2.2.1;have dD:=DD.out.2.2.2;refine(Qtm lo g bs i3 0 1048576 dC dD HB.out hi3 hl hlg _ PT3.out QT3.out (.error (er,i4)) HVF.out).mono ?_;rintro ee w4 ⟨rfl,hI4,hB4⟩)
  |(go_at_call 176;have dA:=DD.out.1;have dB:=DD.out.2.1;have dC:=DD.out.2.2.1;have dD:=DD.out.2.2.2;refine(Qtm lo g bs i2 1 4096 dA dB HB.out hi2 hl hlg _ PT2.out QT2.out (.ok (.string (strOfNums a),i3)) HV3.out).mono ?_;rintro ee w3 ⟨rfl,hI3,hB3⟩;have S3:=QA (T2.out.cur T2.out.lt hI3 hB3);obtain⟨⟨c,h,j,k⟩,f30,f31,f32,f33⟩:=S3.out.cells;have T3:=QA (S3.out.sa (strOfNums a));have PT3:=QA T3.out.2.2.2.2.1;have QT3:=QA T3.out.1;obtain⟨⟨t0,t1,t2,t3⟩,_⟩:=T3.out.cells)
  |(go_at_call 175;refine(Qtj lo g bs (0+1) HB.out ⟨by omega,by omega⟩ hl hlg _ PT1.out QT1.out (.ok (.int .u64 q,i2)) HV2.out).mono ?_;rintro ee w2 ⟨rfl,hI2,hB2⟩;have S2:=QA (T1.out.cur T1.out.lt hI2 hB2);obtain⟨⟨l,m,n,o⟩,f20,f21,f22,f23⟩:=S2.out.cells;have T2:=QA (S2.out.sq q);have PT2:=QA T2.out.2.2.2.2.1;have QT2:=QA T2.out.1)
  |(go_at_call 173;refine(Qth lo g bs 0 2 HY.out HB.out (Int.le_refl _) hl h0 hlg _ HS.out.2.2.2.2.1 HS.out.1).mono ?_;rintro ee w1 ⟨rfl,hI1,hB1⟩;have S1:=QA (HS.out.cur HS.out.lt hI1 hB1);obtain⟨⟨c10,r,s,t⟩,f10,f11,f12,f13⟩:=S1.out.cells;have T1:=QA (S1.out.sd false);have PT1:=QA T1.out.2.2.2.2.1;have QT1:=QA T1.out.1))
 exact⟨rfl,rfl,_,_,_,_,T3.out.cur T3.out.lt hI4 hB4⟩
theorem Qts(rb lo g:Nat)(bs:List Int)(hb:CodecP.Bytes bs)(hl:bs.length≤140737488355328)(hlg:lo≤g)(w:World)(hS:RS w w rb lo g bs 0 false 0 (⟨#[]⟩:ByteArray) (⟨#[]⟩:ByteArray))(h0:(0:Int)<(bs.length:Int))(hy:(2:Int)=YteaocbonofboeaaGreatW.PrintWords.rd bs 0)(q i2:Int)(hv2:(Qti bs 10 0 (0+1) 0).map (fun p=>(Value.int .u64 p.1,p.2))=.ok (.int .u64 q,i2))(hi2:0≤i2∧i2≤(bs.length:Int))(a:List Int)(i3:Int)(hv3:(Qtl bs 1 4096 i2).map (fun p=>(Value.string (strOfNums p.1),p.2))=.ok (.string (strOfNums a),i3))(hi3:0≤i3∧i3≤(bs.length:Int))(v:List Int)(i4:Int)(hv4:(Qtl bs 0 1048576 i3).map (fun p=>(Value.string (strOfNums p.1),p.2))=.ok (.string (strOfNums v),i4))(hi4:0≤i4∧i4≤(bs.length:Int))(hlt:0<(bs.length:Int)-i4) :
  Calls Tryz.prog 172 #[.pointer (some ⟨g,0,none⟩),.pointer (some ⟨rb,0,none⟩)] w fun e W'=>e=.panicked [Qop g 3]∧∃d q a b,RS w W' rb lo g bs i4 d q a b:=by
 have HS:=QA hS;have HB:=QA hb;have hu:=Tryz.underlying37;have dA:(0:Int)≤1∧(1:Int)≤4611686018427387904:=⟨by decide,by decide⟩;have dB:(0:Int)≤4096∧(4096:Int)≤4611686018427387904:=⟨by decide,by decide⟩;have dC:(0:Int)≤0∧(0:Int)≤4611686018427387904:=⟨by decide,by decide⟩;have dD:(0:Int)≤1048576∧(1048576:Int)≤4611686018427387904:=⟨by decide,by decide⟩;have DD:=QA (And.intro dA (And.intro dB (And.intro dC dD)));clear hS hb dA dB dC dD;have HY:=QA hy;clear hy;have HV2:=QA hv2;clear hv2;have HV3:=QA hv3;clear hv3;have HV4:=QA hv4;clear hv4
 go_enter Tryz.func172,Tryz.ntmps172
 go_wp2_with (first
  |(go_at_call 177;refine(Qst lo g bs i4 hi4 hl hlt _ PT4.out QT4.out).mono ?_;rintro ee w5 ⟨rfl,hI5,hB5⟩)
  |(go_at_call 176;have dA:=DD.out.1;have dB:=DD.out.2.1;have dC:=DD.out.2.2.1;have dD:=DD.out.2.2.2;refine(Qtm lo g bs i3 0 1048576 dC dD HB.out hi3 hl hlg _ PT3.out QT3.out (.ok (.string (strOfNums v),i4)) HV4.out).mono ?_;rintro ee w4 ⟨rfl,hI4,hB4⟩;have S4:=QA (T3.out.cur T3.out.lt hI4 hB4);obtain⟨⟨c,h,j,k⟩,f40,f41,f42,f43⟩:=S4.out.cells;have T4:=QA (S4.out.sb (strOfNums v));have PT4:=QA T4.out.2.2.2.2.1;have QT4:=QA T4.out.1)
  |(go_at_call 176;have dA:=DD.out.1;have dB:=DD.out.2.1;have dC:=DD.out.2.2.1;have dD:=DD.out.2.2.2;refine(Qtm lo g bs i2 1 4096 dA dB HB.out hi2 hl hlg _ PT2.out QT2.out (.ok (.string (strOfNums a),i3)) HV3.out).mono ?_;rintro ee w3 ⟨rfl,hI3,hB3⟩;have S3:=QA (T2.out.cur T2.out.lt hI3 hB3);obtain⟨⟨l,m,n,o⟩,f30,f31,f32,f33⟩:=S3.out.cells;have T3:=QA (S3.out.sa (strOfNums a));have PT3:=QA T3.out.2.2.2.2.1;have QT3:=QA T3.out.1;obtain⟨⟨t0,t1,t2,t3⟩,_⟩:=T3.out.cells)
  |(go_at_call 175;refine(Qtj lo g bs (0+1) HB.out ⟨by omega,by omega⟩ hl hlg _ PT1.out QT1.out (.ok (.int .u64 q,i2)) HV2.out).mono ?_;rintro ee w2 ⟨rfl,hI2,hB2⟩;have S2:=QA (T1.out.cur T1.out.lt hI2 hB2);obtain⟨⟨r,s,t,u⟩,f20,f21,f22,f23⟩:=S2.out.cells;have T2:=QA (S2.out.sq q);have PT2:=QA T2.out.2.2.2.2.1;have QT2:=QA T2.out.1)
  |(go_at_call 173;refine(Qth lo g bs 0 2 HY.out HB.out (Int.le_refl _) hl h0 hlg _ HS.out.2.2.2.2.1 HS.out.1).mono ?_;rintro ee w1 ⟨rfl,hI1,hB1⟩;have S1:=QA (HS.out.cur HS.out.lt hI1 hB1);obtain⟨⟨c10,x,y,z⟩,f10,f11,f12,f13⟩:=S1.out.cells;have T1:=QA (S1.out.sd false);have PT1:=QA T1.out.2.2.2.2.1;have QT1:=QA T1.out.1))
 exact⟨rfl,rfl,_,_,_,_,T4.out.cur T4.out.lt hI5 hB5⟩
theorem rec_ok2(rb lo g:Nat)(bs:List Int)(hb:CodecP.Bytes bs)(hl:bs.length≤140737488355328)(hlg:lo≤g)(w:World)(hS:RS w w rb lo g bs 0 false 0 (⟨#[]⟩:ByteArray) (⟨#[]⟩:ByteArray))(h0:(0:Int)<(bs.length:Int))(hy:(2:Int)=YteaocbonofboeaaGreatW.PrintWords.rd bs 0)(q i2:Int)(hv2:(Qti bs 10 0 (0+1) 0).map (fun p=>(Value.int .u64 p.1,p.2))=.ok (.int .u64 q,i2))(hi2:0≤i2∧i2≤(bs.length:Int))(a:List Int)(i3:Int)(hv3:(Qtl bs 1 4096 i2).map (fun p=>(Value.string (strOfNums p.1),p.2))=.ok (.string (strOfNums a),i3))(hi3:0≤i3∧i3≤(bs.length:Int))(v:List Int)(i4:Int)(hv4:(Qtl bs 0 1048576 i3).map (fun p=>(Value.string (strOfNums p.1),p.2))=.ok (.string (strOfNums v),i4))(hi4:0≤i4∧i4≤(bs.length:Int))(hle:(bs.length:Int)-i4≤0) :
  Calls Tryz.prog 172 #[.pointer (some ⟨g,0,none⟩),.pointer (some ⟨rb,0,none⟩)] w fun e W'=>e=.returned (.tuple #[])∧RS w W' rb lo g bs i4 false q (strOfNums a) (strOfNums v):=by
 have HS:=QA hS;have HB:=QA hb;have hu:=Tryz.underlying37;have dA:(0:Int)≤1∧(1:Int)≤4611686018427387904:=⟨by decide,by decide⟩;have dB:(0:Int)≤4096∧(4096:Int)≤4611686018427387904:=⟨by decide,by decide⟩;have dC:(0:Int)≤0∧(0:Int)≤4611686018427387904:=⟨by decide,by decide⟩;have dD:(0:Int)≤1048576∧(1048576:Int)≤4611686018427387904:=⟨by decide,by decide⟩;have DD:=QA (And.intro dA (And.intro dB (And.intro dC dD)));clear hS hb dA dB dC dD;have HY:=QA hy;clear hy;have HV2:=QA hv2;clear hv2;have HV3:=QA hv3;clear hv3;have HV4:=QA hv4;clear hv4
 go_enter Tryz.func172,Tryz.ntmps172
 go_wp2_with (first
  |(go_at_call 177;refine(Qss lo g bs i4 hi4 hl hle _ PT4.out QT4.out).mono ?_;rintro ee w5 ⟨rfl,hI5,hB5⟩)
  |(go_at_call 176;have dA:=DD.out.1;have dB:=DD.out.2.1;have dC:=DD.out.2.2.1;have dD:=DD.out.2.2.2;refine(Qtm lo g bs i3 0 1048576 dC dD HB.out hi3 hl hlg _ PT3.out QT3.out (.ok (.string (strOfNums v),i4)) HV4.out).mono ?_;rintro ee w4 ⟨rfl,hI4,hB4⟩;have S4:=QA (T3.out.cur T3.out.lt hI4 hB4);obtain⟨⟨b,c,d,h⟩,f40,f41,f42,f43⟩:=S4.out.cells;have T4:=QA (S4.out.sb (strOfNums v));have PT4:=QA T4.out.2.2.2.2.1;have QT4:=QA T4.out.1)
  |(go_at_call 176;have dA:=DD.out.1;have dB:=DD.out.2.1;have dC:=DD.out.2.2.1;have dD:=DD.out.2.2.2;refine(Qtm lo g bs i2 1 4096 dA dB HB.out hi2 hl hlg _ PT2.out QT2.out (.ok (.string (strOfNums a),i3)) HV3.out).mono ?_;rintro ee w3 ⟨rfl,hI3,hB3⟩;have S3:=QA (T2.out.cur T2.out.lt hI3 hB3);obtain⟨⟨j,k,l,m⟩,f30,f31,f32,f33⟩:=S3.out.cells;have T3:=QA (S3.out.sa (strOfNums a));have PT3:=QA T3.out.2.2.2.2.1;have QT3:=QA T3.out.1;obtain⟨⟨t0,t1,t2,t3⟩,_⟩:=T3.out.cells)
  |(go_at_call 175;refine(Qtj lo g bs (0+1) HB.out ⟨by omega,by omega⟩ hl hlg _ PT1.out QT1.out (.ok (.int .u64 q,i2)) HV2.out).mono ?_;rintro ee w2 ⟨rfl,hI2,hB2⟩;have S2:=QA (T1.out.cur T1.out.lt hI2 hB2);obtain⟨⟨n,o,r,s⟩,f20,f21,f22,f23⟩:=S2.out.cells;have T2:=QA (S2.out.sq q);have PT2:=QA T2.out.2.2.2.2.1;have QT2:=QA T2.out.1)
  |(go_at_call 173;refine(Qth lo g bs 0 2 HY.out HB.out (Int.le_refl _) hl h0 hlg _ HS.out.2.2.2.2.1 HS.out.1).mono ?_;rintro ee w1 ⟨rfl,hI1,hB1⟩;have S1:=QA (HS.out.cur HS.out.lt hI1 hB1);obtain⟨⟨c10,t,u,x⟩,f10,f11,f12,f13⟩:=S1.out.cells;have T1:=QA (S1.out.sd false);have PT1:=QA T1.out.2.2.2.2.1;have QT1:=QA T1.out.1))
 go_end0
 exact⟨rfl,T4.out.cur T4.out.lt hI5 hB5⟩
theorem Qtt(rb lo g:Nat)(bs:List Int)(hb:CodecP.Bytes bs)(hl:bs.length≤140737488355328)(hlg:lo≤g)(w:World)(hS:RS w w rb lo g bs 0 false 0 (⟨#[]⟩:ByteArray) (⟨#[]⟩:ByteArray))(h0:(0:Int)<(bs.length:Int))(hy:(3:Int)=YteaocbonofboeaaGreatW.PrintWords.rd bs 0)(er i2:Int)(hvf:(Qti bs 10 0 (0+1) 0).map (fun p=>(Value.int .u64 p.1,p.2))=.error (er,i2)) :
  Calls Tryz.prog 172 #[.pointer (some ⟨g,0,none⟩),.pointer (some ⟨rb,0,none⟩)] w fun e W'=>e=.panicked [Qop g er]∧∃d q a b,RS w W' rb lo g bs i2 d q a b:=by
 have HS:=QA hS;have HB:=QA hb;have hu:=Tryz.underlying37;have dA:(0:Int)≤1∧(1:Int)≤4611686018427387904:=⟨by decide,by decide⟩;have dB:(0:Int)≤4096∧(4096:Int)≤4611686018427387904:=⟨by decide,by decide⟩;have dC:(0:Int)≤0∧(0:Int)≤4611686018427387904:=⟨by decide,by decide⟩;have dD:(0:Int)≤1048576∧(1048576:Int)≤4611686018427387904:=⟨by decide,by decide⟩;have DD:=QA (And.intro dA (And.intro dB (And.intro dC dD)));clear hS hb dA dB dC dD;have HY:=QA hy;clear hy;have HVF:=QA hvf;clear hvf
 go_enter Tryz.func172,Tryz.ntmps172
 go_wp2_with (first
  |(go_at_call 175;refine(Qtj lo g bs (0+1) HB.out ⟨by omega,by omega⟩ hl hlg _ PT1.out QT1.out (.error (er,i2)) HVF.out).mono ?_;rintro ee w2 ⟨rfl,hI2,hB2⟩)
  |(go_at_call 173;refine(Qth lo g bs 0 3 HY.out HB.out (Int.le_refl _) hl h0 hlg _ HS.out.2.2.2.2.1 HS.out.1).mono ?_;rintro ee w1 ⟨rfl,hI1,hB1⟩;have S1:=QA (HS.out.cur HS.out.lt hI1 hB1);obtain⟨⟨c10,c,h,j⟩,f10,f11,f12,f13⟩:=S1.out.cells;have T1:=QA (S1.out.sd true);have PT1:=QA T1.out.2.2.2.2.1;have QT1:=QA T1.out.1))
 exact⟨rfl,rfl,_,_,_,_,T1.out.cur T1.out.lt hI2 hB2⟩
theorem Qtu(rb lo g:Nat)(bs:List Int)(hb:CodecP.Bytes bs)(hl:bs.length≤140737488355328)(hlg:lo≤g)(w:World)(hS:RS w w rb lo g bs 0 false 0 (⟨#[]⟩:ByteArray) (⟨#[]⟩:ByteArray))(h0:(0:Int)<(bs.length:Int))(hy:(3:Int)=YteaocbonofboeaaGreatW.PrintWords.rd bs 0)(q i2:Int)(hv2:(Qti bs 10 0 (0+1) 0).map (fun p=>(Value.int .u64 p.1,p.2))=.ok (.int .u64 q,i2))(hi2:0≤i2∧i2≤(bs.length:Int))(er i3:Int)(hvf:(Qtl bs 1 4096 i2).map (fun p=>(Value.string (strOfNums p.1),p.2))=.error (er,i3)) :
  Calls Tryz.prog 172 #[.pointer (some ⟨g,0,none⟩),.pointer (some ⟨rb,0,none⟩)] w fun e W'=>e=.panicked [Qop g er]∧∃d q a b,RS w W' rb lo g bs i3 d q a b:=by
 have HS:=QA hS;have HB:=QA hb;have hu:=Tryz.underlying37;have dA:(0:Int)≤1∧(1:Int)≤4611686018427387904:=⟨by decide,by decide⟩;have dB:(0:Int)≤4096∧(4096:Int)≤4611686018427387904:=⟨by decide,by decide⟩;have dC:(0:Int)≤0∧(0:Int)≤4611686018427387904:=⟨by decide,by decide⟩;have dD:(0:Int)≤1048576∧(1048576:Int)≤4611686018427387904:=⟨by decide,by decide⟩;have DD:=QA (And.intro dA (And.intro dB (And.intro dC dD)));clear hS hb dA dB dC dD;have HY:=QA hy;clear hy;have HV2:=QA hv2;clear hv2;have HVF:=QA hvf;clear hvf
 go_enter Tryz.func172,Tryz.ntmps172
 go_wp2_with (first
  |(go_at_call 176;have dA:=DD.out.1;have dB:=DD.out.2.1;have dC:=DD.out.2.2.1;have dD:=DD.out.2.2.2;refine(Qtm lo g bs i2 1 4096 dA dB HB.out hi2 hl hlg _ PT2.out QT2.out (.error (er,i3)) HVF.out).mono ?_;rintro ee w3 ⟨rfl,hI3,hB3⟩)
  |(go_at_call 175;refine(Qtj lo g bs (0+1) HB.out ⟨by omega,by omega⟩ hl hlg _ PT1.out QT1.out (.ok (.int .u64 q,i2)) HV2.out).mono ?_;rintro ee w2 ⟨rfl,hI2,hB2⟩;have S2:=QA (T1.out.cur T1.out.lt hI2 hB2);obtain⟨⟨c,h,j,k⟩,f20,f21,f22,f23⟩:=S2.out.cells;have T2:=QA (S2.out.sq q);have PT2:=QA T2.out.2.2.2.2.1;have QT2:=QA T2.out.1)
  |(go_at_call 173;refine(Qth lo g bs 0 3 HY.out HB.out (Int.le_refl _) hl h0 hlg _ HS.out.2.2.2.2.1 HS.out.1).mono ?_;rintro ee w1 ⟨rfl,hI1,hB1⟩;have S1:=QA (HS.out.cur HS.out.lt hI1 hB1);obtain⟨⟨c10,l,m,n⟩,f10,f11,f12,f13⟩:=S1.out.cells;have T1:=QA (S1.out.sd true);have PT1:=QA T1.out.2.2.2.2.1;have QT1:=QA T1.out.1))
 exact⟨rfl,rfl,_,_,_,_,T2.out.cur T2.out.lt hI3 hB3⟩
theorem Qtv(rb lo g:Nat)(bs:List Int)(hb:CodecP.Bytes bs)(hl:bs.length≤140737488355328)(hlg:lo≤g)(w:World)(hS:RS w w rb lo g bs 0 false 0 (⟨#[]⟩:ByteArray) (⟨#[]⟩:ByteArray))(h0:(0:Int)<(bs.length:Int))(hy:(3:Int)=YteaocbonofboeaaGreatW.PrintWords.rd bs 0)(q i2:Int)(hv2:(Qti bs 10 0 (0+1) 0).map (fun p=>(Value.int .u64 p.1,p.2))=.ok (.int .u64 q,i2))(hi2:0≤i2∧i2≤(bs.length:Int))(a:List Int)(i3:Int)(hv3:(Qtl bs 1 4096 i2).map (fun p=>(Value.string (strOfNums p.1),p.2))=.ok (.string (strOfNums a),i3))(hi3:0≤i3∧i3≤(bs.length:Int))(hlt:0<(bs.length:Int)-i3) :
  Calls Tryz.prog 172 #[.pointer (some ⟨g,0,none⟩),.pointer (some ⟨rb,0,none⟩)] w fun e W'=>e=.panicked [Qop g 3]∧∃d q a b,RS w W' rb lo g bs i3 d q a b:=by
 have HS:=QA hS;have HB:=QA hb;have hu:=Tryz.underlying37;have dA:(0:Int)≤1∧(1:Int)≤4611686018427387904:=⟨by decide,by decide⟩;have dB:(0:Int)≤4096∧(4096:Int)≤4611686018427387904:=⟨by decide,by decide⟩;have dC:(0:Int)≤0∧(0:Int)≤4611686018427387904:=⟨by decide,by decide⟩;have dD:(0:Int)≤1048576∧(1048576:Int)≤4611686018427387904:=⟨by decide,by decide⟩;have DD:=QA (And.intro dA (And.intro dB (And.intro dC dD)));clear hS hb dA dB dC dD;have HY:=QA hy;clear hy;have HV2:=QA hv2;clear hv2;have HV3:=QA hv3;clear hv3
 go_enter Tryz.func172,Tryz.ntmps172
 go_wp2_with (first
  |(go_at_call 177;refine(Qst lo g bs i3 hi3 hl hlt _ PT3.out QT3.out).mono ?_;rintro ee w5 ⟨rfl,hI5,hB5⟩)
  |(go_at_call 176;have dA:=DD.out.1;have dB:=DD.out.2.1;have dC:=DD.out.2.2.1;have dD:=DD.out.2.2.2;refine(Qtm lo g bs i2 1 4096 dA dB HB.out hi2 hl hlg _ PT2.out QT2.out (.ok (.string (strOfNums a),i3)) HV3.out).mono ?_;rintro ee w3 ⟨rfl,hI3,hB3⟩;have S3:=QA (T2.out.cur T2.out.lt hI3 hB3);obtain⟨⟨c,h,j,k⟩,f30,f31,f32,f33⟩:=S3.out.cells;have T3:=QA (S3.out.sa (strOfNums a));have PT3:=QA T3.out.2.2.2.2.1;have QT3:=QA T3.out.1;obtain⟨⟨t0,t1,t2,t3⟩,_⟩:=T3.out.cells)
  |(go_at_call 175;refine(Qtj lo g bs (0+1) HB.out ⟨by omega,by omega⟩ hl hlg _ PT1.out QT1.out (.ok (.int .u64 q,i2)) HV2.out).mono ?_;rintro ee w2 ⟨rfl,hI2,hB2⟩;have S2:=QA (T1.out.cur T1.out.lt hI2 hB2);obtain⟨⟨l,m,n,o⟩,f20,f21,f22,f23⟩:=S2.out.cells;have T2:=QA (S2.out.sq q);have PT2:=QA T2.out.2.2.2.2.1;have QT2:=QA T2.out.1)
  |(go_at_call 173;refine(Qth lo g bs 0 3 HY.out HB.out (Int.le_refl _) hl h0 hlg _ HS.out.2.2.2.2.1 HS.out.1).mono ?_;rintro ee w1 ⟨rfl,hI1,hB1⟩;have S1:=QA (HS.out.cur HS.out.lt hI1 hB1);obtain⟨⟨c10,r,s,t⟩,f10,f11,f12,f13⟩:=S1.out.cells;have T1:=QA (S1.out.sd true);have PT1:=QA T1.out.2.2.2.2.1;have QT1:=QA T1.out.1))
 exact⟨rfl,rfl,_,_,_,_,T3.out.cur T3.out.lt hI5 hB5⟩
theorem rec_ok3(rb lo g:Nat)(bs:List Int)(hb:CodecP.Bytes bs)(hl:bs.length≤140737488355328)(hlg:lo≤g)(w:World)(hS:RS w w rb lo g bs 0 false 0 (⟨#[]⟩:ByteArray) (⟨#[]⟩:ByteArray))(h0:(0:Int)<(bs.length:Int))(hy:(3:Int)=YteaocbonofboeaaGreatW.PrintWords.rd bs 0)(q i2:Int)(hv2:(Qti bs 10 0 (0+1) 0).map (fun p=>(Value.int .u64 p.1,p.2))=.ok (.int .u64 q,i2))(hi2:0≤i2∧i2≤(bs.length:Int))(a:List Int)(i3:Int)(hv3:(Qtl bs 1 4096 i2).map (fun p=>(Value.string (strOfNums p.1),p.2))=.ok (.string (strOfNums a),i3))(hi3:0≤i3∧i3≤(bs.length:Int))(hle:(bs.length:Int)-i3≤0) :
  Calls Tryz.prog 172 #[.pointer (some ⟨g,0,none⟩),.pointer (some ⟨rb,0,none⟩)] w fun e W'=>e=.returned (.tuple #[])∧RS w W' rb lo g bs i3 true q (strOfNums a) (⟨#[]⟩:ByteArray):=by
 have HS:=QA hS;have HB:=QA hb;have hu:=Tryz.underlying37;have dA:(0:Int)≤1∧(1:Int)≤4611686018427387904:=⟨by decide,by decide⟩;have dB:(0:Int)≤4096∧(4096:Int)≤4611686018427387904:=⟨by decide,by decide⟩;have dC:(0:Int)≤0∧(0:Int)≤4611686018427387904:=⟨by decide,by decide⟩;have dD:(0:Int)≤1048576∧(1048576:Int)≤4611686018427387904:=⟨by decide,by decide⟩;have DD:=QA (And.intro dA (And.intro dB (And.intro dC dD)));clear hS hb dA dB dC dD;have HY:=QA hy;clear hy;have HV2:=QA hv2;clear hv2;have HV3:=QA hv3;clear hv3
 go_enter Tryz.func172,Tryz.ntmps172
 go_wp2_with (first
  |(go_at_call 177;refine(Qss lo g bs i3 hi3 hl hle _ PT3.out QT3.out).mono ?_;rintro ee w5 ⟨rfl,hI5,hB5⟩)
  |(go_at_call 176;have dA:=DD.out.1;have dB:=DD.out.2.1;have dC:=DD.out.2.2.1;have dD:=DD.out.2.2.2;refine(Qtm lo g bs i2 1 4096 dA dB HB.out hi2 hl hlg _ PT2.out QT2.out (.ok (.string (strOfNums a),i3)) HV3.out).mono ?_;rintro ee w3 ⟨rfl,hI3,hB3⟩;have S3:=QA (T2.out.cur T2.out.lt hI3 hB3);obtain⟨⟨b,c,d,h⟩,f30,f31,f32,f33⟩:=S3.out.cells;have T3:=QA (S3.out.sa (strOfNums a));have PT3:=QA T3.out.2.2.2.2.1;have QT3:=QA T3.out.1;obtain⟨⟨t0,t1,t2,t3⟩,_⟩:=T3.out.cells)
  |(go_at_call 175;refine(Qtj lo g bs (0+1) HB.out ⟨by omega,by omega⟩ hl hlg _ PT1.out QT1.out (.ok (.int .u64 q,i2)) HV2.out).mono ?_;rintro ee w2 ⟨rfl,hI2,hB2⟩;have S2:=QA (T1.out.cur T1.out.lt hI2 hB2);obtain⟨⟨j,k,l,m⟩,f20,f21,f22,f23⟩:=S2.out.cells;have T2:=QA (S2.out.sq q);have PT2:=QA T2.out.2.2.2.2.1;have QT2:=QA T2.out.1)
  |(go_at_call 173;refine(Qth lo g bs 0 3 HY.out HB.out (Int.le_refl _) hl h0 hlg _ HS.out.2.2.2.2.1 HS.out.1).mono ?_;rintro ee w1 ⟨rfl,hI1,hB1⟩;have S1:=QA (HS.out.cur HS.out.lt hI1 hB1);obtain⟨⟨c10,n,o,r⟩,f10,f11,f12,f13⟩:=S1.out.cells;have T1:=QA (S1.out.sd true);have PT1:=QA T1.out.2.2.2.2.1;have QT1:=QA T1.out.1))
 go_end0
 exact⟨rfl,T3.out.cur T3.out.lt hI5 hB5⟩
def recL (bs:List Int):Except (Int × Int) ((Bool × Int × ByteArray × ByteArray) × Int) :=
 if (0:Int)<(bs.length:Int)then
  if YteaocbonofboeaaGreatW.PrintWords.rd bs 0≠2∧YteaocbonofboeaaGreatW.PrintWords.rd bs 0≠3 then .error (4,0+1)
  else match Qti bs 10 0 (0+1) 0 with
   | .error p=>.error p
   | .ok (q,i2)=>match Qtl bs 1 4096 i2 with
    | .error p=>.error p
    | .ok (a,i3) =>
     if YteaocbonofboeaaGreatW.PrintWords.rd bs 0=3 then(if 0<(bs.length:Int)-i3 then .error (3,i3)else .ok ((true,q,strOfNums a,(⟨#[]⟩:ByteArray)),i3))
     else match Qtl bs 0 1048576 i3 with
      | .error p=>.error p
      | .ok (v,i4)=>if 0<(bs.length:Int)-i4 then .error (3,i4)else .ok ((false,q,strOfNums a,strOfNums v),i4)
 else .error (2,0)
theorem Qtw{bs:List Int}{least most i:Int}(h0:0≤i)(h1:i≤(bs.length:Int)){xs:List Int}{i2:Int}(h:Qtl bs least most i=.ok (xs,i2)):0≤i2∧i2≤(bs.length:Int):=by
 have hr:=Qtk bs 10 0 i 0 h0 h1 (by decide) (by decide);unfold Qtl at h
 cases hv:Qti bs 10 0 i 0 with
 | error p=>rw[hv]at h;cases h
 | ok p =>
  obtain⟨n,i1⟩:=p;rw[hv]at h hr;dsimp only at h hr;split at h
  ·cases h
  ·split at h
   ·cases h
   ·split at h
    ·cases h;omega
    ·cases h
theorem rec_all (rb lo g:Nat) (bs:List Int) (hb:CodecP.Bytes bs) (hl:bs.length≤140737488355328) (hlg:lo≤g) (w:World) (hS:RS w w rb lo g bs 0 false 0 (⟨#[]⟩:ByteArray) (⟨#[]⟩:ByteArray)) :
  Calls Tryz.prog 172 #[.pointer (some ⟨g,0,none⟩),.pointer (some ⟨rb,0,none⟩)] w fun e W' =>
   match recL bs with
   | .ok ((d,q,a,b),i)=>e=.returned (.tuple #[])∧RS w W' rb lo g bs i d q a b
   | .error (er,i)=>e=.panicked [Qop g er]∧∃d q a b,RS w W' rb lo g bs i d q a b:=by
 unfold recL
 by_cases h0:(0:Int)<(bs.length:Int)
 ·rw [if_pos h0]
  by_cases hk:YteaocbonofboeaaGreatW.PrintWords.rd bs 0≠2∧YteaocbonofboeaaGreatW.PrintWords.rd bs 0≠3
  ·rw[if_pos hk];exact Qto rb lo g bs hb hl hlg w hS h0 _ rfl hk.1 hk.2
  ·rw [if_neg hk];have hg:=Qtk bs 10 0 (0+1) 0 (by omega) (by omega) (by decide) (by decide);have hcase:(2:Int)=YteaocbonofboeaaGreatW.PrintWords.rd bs 0∨(3:Int)=YteaocbonofboeaaGreatW.PrintWords.rd bs 0:=by omega
   cases hv:Qti bs 10 0 (0+1) 0 with
   | error p =>
    obtain⟨er,i2⟩:=p
    rcases hcase with hy|hy
    ·exact Qtp rb lo g bs hb hl hlg w hS h0 hy er i2 (by rw[hv];rfl)
    ·exact Qtt rb lo g bs hb hl hlg w hS h0 hy er i2 (by rw[hv];rfl)
   | ok p =>
    obtain⟨q,i2⟩:=p;rw[hv]at hg;have hi2:0≤i2∧i2≤(bs.length:Int):=⟨by have:=hg.2.2.1;omega,hg.2.2.2⟩;have hv2:(Qti bs 10 0 (0+1) 0).map (fun p=>(Value.int .u64 p.1,p.2))=.ok (.int .u64 q,i2):=by rw[hv];rfl
    dsimp only
    cases ht:Qtl bs 1 4096 i2 with
    | error p =>
     obtain⟨er,i3⟩:=p
     rcases hcase with hy|hy
     ·exact Qtq rb lo g bs hb hl hlg w hS h0 hy q i2 hv2 hi2 er i3 (by rw[ht];rfl)
     ·exact Qtu rb lo g bs hb hl hlg w hS h0 hy q i2 hv2 hi2 er i3 (by rw[ht];rfl)
    | ok p =>
     obtain⟨a,i3⟩:=p;have hi3:=Qtw hi2.1 hi2.2 ht;have hv3:(Qtl bs 1 4096 i2).map (fun p=>(Value.string (strOfNums p.1),p.2))=.ok (.string (strOfNums a),i3):=by rw[ht];rfl
     dsimp only
     rcases hcase with hy|hy
     ·rw[if_neg (by omega)]
      cases hu:Qtl bs 0 1048576 i3 with
      | error p =>
       obtain⟨er,i4⟩:=p;exact Qtr rb lo g bs hb hl hlg w hS h0 hy q i2 hv2 hi2 a i3 hv3 hi3 er i4 (by rw[hu];rfl)
      | ok p =>
       obtain⟨v,i4⟩:=p;have hi4:=Qtw hi3.1 hi3.2 hu;have hv4:(Qtl bs 0 1048576 i3).map (fun p=>(Value.string (strOfNums p.1),p.2))=.ok (.string (strOfNums v),i4):=by rw[hu];rfl
       dsimp only
       by_cases hlt:0<(bs.length:Int)-i4
       ·rw[if_pos hlt];exact Qts rb lo g bs hb hl hlg w hS h0 hy q i2 hv2 hi2 a i3 hv3 hi3 v i4 hv4 hi4 hlt
       ·rw[if_neg hlt];exact rec_ok2 rb lo g bs hb hl hlg w hS h0 hy q i2 hv2 hi2 a i3 hv3 hi3 v i4 hv4 hi4 (by omega)
     ·rw[if_pos hy.symm]
      by_cases hlt:0<(bs.length:Int)-i3
      ·rw[if_pos hlt];exact Qtv rb lo g bs hb hl hlg w hS h0 hy q i2 hv2 hi2 a i3 hv3 hi3 hlt
      ·rw[if_neg hlt];exact rec_ok3 rb lo g bs hb hl hlg w hS h0 hy q i2 hv2 hi2 a i3 hv3 hi3 (by omega)
 ·rw[if_neg h0];exact Qtn rb lo g bs hb hl hlg w hS h0
noncomputable def Qda.f(l0:List Int):Option (Bool × Int × ByteArray × ByteArray × Int) :=
 @ite _ (CodecP.Bytes l0∧l0.length≤140737488355328) (Classical.propDecidable _) (match recL l0 with
  | .ok ((d,q,a,b),_)=>some (d,q,a,b,0)
  | .error (er,_)=>some (false,0,(⟨#[]⟩:ByteArray),(⟨#[]⟩:ByteArray),er)) none
theorem Qtx(bs:List Int):∀(f:Nat) (j i x:Int) (er i1:Int),Qti bs f j i x=.error (er,i1)→er≠0
 | 0,_,_,_,_,_=>fun h=>by cases h
 | f+1,j,i,x,er,i1=>fun h=>by
  unfold Qti at h
  repeat' split at h
  all_goals first |(cases h;decide)|exact Qtx bs f _ _ _ _ _ h|cases h
theorem Qty{bs:List Int}{least most i er i1:Int}(h:Qtl bs least most i=.error (er,i1)):er≠0:=by
 unfold Qtl at h
 cases hv:Qti bs 10 0 i 0 with
 | error p=>rw[hv]at h;cases h;exact Qtx bs 10 0 i 0 er i1 hv
 | ok p =>
  rw[hv]at h;dsimp only at h
  repeat' split at h
  all_goals first |(cases h;decide)|cases h
theorem Qtz{bs:List Int}{er i:Int}(h:recL bs=.error (er,i)):er≠0:=by
 unfold recL at h;split at h
 ·split at h
  ·cases h;decide
  ·cases hv:Qti bs 10 0 (0+1) 0 with
   | error p=>rw[hv]at h;cases h;exact Qtx bs 10 0 _ 0 er i hv
   | ok p =>
    rw[hv]at h;dsimp only at h
    cases ht:Qtl bs 1 4096 p.2 with
    | error p=>rw[ht]at h;cases h;exact Qty ht
    | ok p2 =>
     rw[ht]at h;dsimp only at h;split at h
     ·split at h
      ·cases h;decide
      ·cases h
     ·cases hu:Qtl bs 0 1048576 p2.2 with
      | error p=>rw[hu]at h;cases h;exact Qty hu
      | ok p3 =>
       rw[hu]at h;dsimp only at h;split at h
       ·cases h;decide
       ·cases h
 ·cases h;decide
theorem Qua(as_:Array Value)(W:World):(callFunc 172 as_).run Tryz.prog W=.ok (.enter 172 as_) W:=by
 simp[callFunc,Tryz.func172,Tryz.f172]
theorem Qub{W:World}{rb lo g:Nat}{bs:List Int}(hI:IsCur W lo g bs 0)(hk:W.heap[rb]? = some (.cells #[.bool false,.int .u64 0,.string (⟨#[]⟩:ByteArray),.string (⟨#[]⟩:ByteArray)] 37 (0,0)))(hlt:rb<lo)(hg:lo≤g):RS W W rb lo g bs 0 false 0 (⟨#[]⟩:ByteArray) (⟨#[]⟩:ByteArray) :=
 ⟨hI,hk,Below.refl _ _,fun k cs t _ h _ _=>h,Nat.le_of_lt (Nat.lt_of_le_of_lt hg hI.lt),hlt⟩
theorem rec_run(A0:Option Addr)(c0:Nat)(l0:List Int)(rb:Nat)(w:World)(hb:CodecP.Bytes l0)(hl:l0.length≤140737488355328)(hr0:Kd.C (Kd.int .u8) w A0 l0.length l0)
  (hk:w.heap[rb]? = some (.cells #[.bool false,.int .u64 0,.string (⟨#[]⟩:ByteArray),.string (⟨#[]⟩:ByteArray)] 37 (0,0))) :
  Calls Tryz.prog 169 #[.slice A0 l0.length c0,.func (.func 172) #[] #[.pointer (some ⟨rb,0,none⟩)]] w fun e w'=>∃er i,e=.returned (.tuple #[.int .i64 i,.int .i64 er])∧Below rb w w' ∧
   match recL l0 with
   | .ok ((d,q,a,b),_)=>er=0∧w'.heap[rb]? = some (.cells #[.bool d,.int .u64 q,.string a,.string b] 37 (0,0))
   | .error (e0,_)=>er=e0∧∃cs,w'.heap[rb]? = some (.cells cs 37 (0,0)):=by
 have hlt:=Qeh hk;refine Qtb 172 #[.pointer (some ⟨rb,0,none⟩)] A0 c0 l0 w hr0 hl Qua (fun er _ W'=>Below rb w W' ∧
   match recL l0 with
   | .ok ((d,q,a,b),_)=>er=0∧W'.heap[rb]? = some (.cells #[.bool d,.int .u64 q,.string a,.string b] 37 (0,0))
   | .error (e0,_)=>er=e0∧∃cs,W'.heap[rb]? = some (.cells cs 37 (0,0))) ?_ ?_
 ·rintro er i W W' ⟨h1,h2⟩ h3;refine⟨h1.trans (Qkr h3 (Nat.le_of_lt hlt)),?_⟩
  cases hrec:recL l0 with
  | ok p =>
   obtain⟨⟨d,q,a,b⟩,j⟩:=p;rw[hrec]at h2;exact⟨h2.1,(h3.block rb hlt).trans h2.2⟩
  | error p =>
   rw[hrec]at h2;obtain⟨h4,cs,h5⟩:=h2;exact⟨h4,cs,(h3.block rb hlt).trans h5⟩
 ·intro W g hg hB hI;have hk2:=(hB.block rb hlt).trans hk;refine(rec_all rb w.heap.size g l0 hb hl hg W (Qub hI hk2 hlt hg)).mono ?_;intro e W' h;have hB2:Below rb w W:=Qkr hB (Nat.le_of_lt hlt)
  cases hrec:recL l0 with
  | ok p =>
   obtain⟨⟨d,q,a,b⟩,j⟩:=p;rw[hrec]at h;obtain⟨h1,h2⟩:=h;exact⟨j,h2.1,h2.2.2.2.1,.inl ⟨h1,hB2.trans h2.2.2.1,rfl,h2.2.1⟩⟩
  | error p =>
   obtain⟨e0,j⟩:=p;rw[hrec]at h;obtain⟨h1,d,q,a,b,h2⟩:=h;exact⟨j,h2.1,h2.2.2.2.1,.inr ⟨e0,h1,hB2.trans h2.2.2.1,rfl,_,h2.2.1⟩⟩
theorem Qda.calls(A0:Option Addr)(c0:Nat)(l0:List Int)(r1:Bool)(r2:Int)(r3 r4:ByteArray)(r5:Int)(w:World)(hr0:Kd.C (Kd.int .u8) w A0 l0.length l0)(hc0:l0.length≤c0)(h:Qda.f l0=some (r1,r2,r3,r4,r5)) :
  Calls Tryz.prog 121 #[.slice A0 l0.length c0] w fun e w'=>e=.returned (.tuple #[.agg #[.bool r1,.int .u64 r2,.string r3,.string r4],.int .i64 r5])∧Below w.heap.size w w':=by
 unfold Qda.f at h
 by_cases hg:CodecP.Bytes l0∧l0.length≤140737488355328
 ·rw[if_pos hg]at h;have hu:=Tryz.underlying37;have HG:=QA hg;have c:=QA hr0;obtain⟨z0,hz0⟩:∃z:Obj,z=.cells #[.bool false,.int .u64 0,.string (⟨#[]⟩:ByteArray),.string (⟨#[]⟩:ByteArray)] 37 (0,0):=⟨_,rfl⟩;have b0:Below w.heap.size w ((w.alloc z0).alloc z0):=Qdj (Qdj (Below.refl _ _) _) _;have hsz:((w.alloc z0).alloc z0).heap.size=w.heap.size+2:=by simp[World.size_alloc]
  have k1:=Qeu (Qey w z0) z0;have k2:=Qey (w.alloc z0) z0;rw[World.size_alloc]at k2;subst hz0;have RUN:=QA (rec_run A0 c0 l0 (w.heap.size+1) _ hg.1 hg.2 (Kd.C_below hr0 b0) k2);have B0:=QA b0;have K1:=QA k1;clear hg hr0 b0 k1 k2 hsz
  cases hrec:recL l0 with
  | ok p =>
   obtain⟨⟨d,q,a,b⟩,i0⟩:=p;rw[hrec]at h;simp only[Option.some.injEq,Prod.mk.injEq]at h;obtain⟨rfl,rfl,rfl,rfl,rfl⟩:=h;rw[hrec]at RUN;clear hrec
   go_enter Tryz.func121,Tryz.ntmps121
   go_wp2_with (go_at_call 169;refine RUN.out.mono ?_;rintro ee w3 ⟨er,i,rfl,hb3,rfl,hk3⟩;have hr3:=(hb3.block w.heap.size (Nat.lt_succ_self _)).trans K1.out;obtain⟨d0,d1,d2,d3⟩:=box4 hk3;obtain⟨e0,e1,e2,e3⟩:=box4 hr3;have g0:=Qej hr3 0;have g1:=Qej hr3 1;have g2:=Qej hr3 2;have g3:=Qej hr3 3)
   have hbb:Below w.heap.size w w3:=B0.out.trans (Qkr hb3 (Nat.le_succ _));refine bodyPost_ret (Qez rfl _ _ w.heap.size 37 #[.bool d,.int .u64 q,.string a,.string b] (0,0) _ rfl (Qef (Qef (Qef (Qef hr3 0 _) 1 _) 2 _) 3 _) hu rfl qq_6) rfl ?_;exact⟨rfl,Qkq (Qkq (Qkq (Qkq hbb (Nat.le_refl _)) (Nat.le_refl _)) (Nat.le_refl _)) (Nat.le_refl _)⟩
  | error p =>
   obtain⟨y0,i0⟩:=p;rw[hrec]at h;simp only[Option.some.injEq,Prod.mk.injEq]at h;obtain⟨rfl,rfl,rfl,rfl,rfl⟩:=h;have hne:(y0 != 0)=true:=bne_iff_ne.2 (Qtz hrec);rw[hrec]at RUN;clear hrec
   go_enter Tryz.func121,Tryz.ntmps121
   go_wp2_with (go_at_call 169;refine RUN.out.mono ?_;rintro ee w3 ⟨er,i,rfl,hb3,rfl,cs,hk3⟩;have hr3:=(hb3.block w.heap.size (Nat.lt_succ_self _)).trans K1.out;obtain⟨e0,e1,e2,e3⟩:=box4 hr3;have g0:=Qej hr3 0;have g1:=Qej hr3 1;have g2:=Qej hr3 2;have g3:=Qej hr3 3)
   have hbb:Below w.heap.size w w3:=B0.out.trans (Qkr hb3 (Nat.le_succ _));refine bodyPost_ret (Qez rfl _ _ w.heap.size 37 #[.bool false,.int .u64 0,.string (⟨#[]⟩:ByteArray),.string (⟨#[]⟩:ByteArray)] (0,0) _ rfl (Qef (Qef (Qef (Qef hr3 0 _) 1 _) 2 _) 3 _) hu rfl qq_6) rfl ?_;exact⟨rfl,Qkq (Qkq (Qkq (Qkq hbb (Nat.le_refl _)) (Nat.le_refl _)) (Nat.le_refl _)) (Nat.le_refl _)⟩
 ·rw[if_neg hg]at h;cases h
noncomputable def Qch.f(k:Nat)(l0:List Int):Option (Bool × Int × ByteArray × ByteArray × Int):=(Qci.f k l0).bind fun t=>if t.2=0 then Qda.f t.1 else some (false,0,(⟨#[]⟩:ByteArray),(⟨#[]⟩:ByteArray),t.2)
theorem Qch.calls(k:Nat)(A0:Option Addr)(c0:Nat)(l0:List Int)(r1:Bool)(r2:Int)(r3 r4:ByteArray)(r5:Int)(w:World)(hr0:Kd.C (Kd.int .u8) w A0 l0.length l0)(hc0:l0.length≤c0)(h:Qch.f k l0=some (r1,r2,r3,r4,r5)) :
  Calls Tryz.prog 69 #[.slice A0 l0.length c0] w fun e w'=>e=.returned (.tuple #[.agg #[.bool r1,.int .u64 r2,.string r3,.string r4],.int .i64 r5])∧Below w.heap.size w w':=by
 unfold Qch.f at h;obtain⟨⟨out,e0⟩,hU,h⟩:=Option.bind_eq_some_iff.mp h;dsimp only at h;have hu:=Tryz.underlying37;obtain⟨z0,hz0⟩:∃z:Obj,z=.cells #[.bool false,.int .u64 0,.string (⟨#[]⟩:ByteArray),.string (⟨#[]⟩:ByteArray)] 37 (0,0):=⟨_,rfl⟩;have b0:Below w.heap.size w (w.alloc z0):=Qdj (Below.refl _ _) _;have k1:=Qey w z0;subst hz0;have HU:=QA (Qci.calls k A0 c0 l0 out e0 _ (Kd.C_below hr0 b0) hc0 hU);have B0:=QA b0;have K1:=QA k1;clear hU hr0 b0 k1 hc0
 by_cases he:e0=0
 ·subst he;rw[if_pos rfl]at h;have HH:=QA h;clear h
  go_enter Tryz.func69,Tryz.ntmps69
  go_wp2_with (first
   |(go_at_call 120;refine HU.out.mono ?_;rintro ee w1 ⟨A1,c1,rfl,hC1,hlc1,hb1⟩;have b:=QA hC1;have HLC1:=QA hlc1;clear hC1 hlc1)
   |(go_at_call 121;refine(Qda.calls A1 c1 out r1 r2 r3 r4 r5 _ b.out HLC1.out HH.out).mono ?_;rintro ee w2 ⟨rfl,hb2⟩;have a:=QA (hb1.trans (Qkr hb2 hb1.size));have hr3:=(a.out.block w.heap.size (Qeh K1.out)).trans K1.out;obtain⟨q0,q1,q2,q3⟩:=box4 hr3;have g0:=Qej hr3 0;have g1:=Qej hr3 1;have g2:=Qej hr3 2;have g3:=Qej hr3 3;clear hb2 hb1))
  have hbb:Below w.heap.size w w2:=B0.out.trans (Qkr a.out B0.out.size);refine bodyPost_ret (Qez rfl _ _ w.heap.size 37 #[.bool r1,.int .u64 r2,.string r3,.string r4] (0,0) _ rfl (Qef (Qef (Qef (Qef hr3 0 _) 1 _) 2 _) 3 _) hu rfl qq_6) rfl ?_;exact⟨rfl,Qkq (Qkq (Qkq (Qkq hbb (Nat.le_refl _)) (Nat.le_refl _)) (Nat.le_refl _)) (Nat.le_refl _)⟩
 ·rw[if_neg he]at h;simp only[Option.some.injEq,Prod.mk.injEq]at h;obtain⟨rfl,rfl,rfl,rfl,rfl⟩:=h;have hne:(e0 != 0)=true:=bne_iff_ne.2 he
  go_enter Tryz.func69,Tryz.ntmps69
  go_wp2_with (first
   |(go_at_call 120;refine HU.out.mono ?_;rintro ee w1 ⟨A1,c1,rfl,hC1,hlc1,hb1⟩;have a:=QA hb1;have hr3:=(hb1.block w.heap.size (Qeh K1.out)).trans K1.out;obtain⟨q0,q1,q2,q3⟩:=box4 hr3;have g0:=Qej hr3 0;have g1:=Qej hr3 1;have g2:=Qej hr3 2;have g3:=Qej hr3 3;clear hb1 hC1 hlc1))
  have hbb:Below w.heap.size w w1:=B0.out.trans (Qkr a.out B0.out.size);refine bodyPost_ret (Qez rfl _ _ w.heap.size 37 #[.bool false,.int .u64 0,.string (⟨#[]⟩:ByteArray),.string (⟨#[]⟩:ByteArray)] (0,0) _ rfl (Qef (Qef (Qef (Qef hr3 0 _) 1 _) 2 _) 3 _) hu rfl qq_6) rfl ?_;exact⟨rfl,Qkq (Qkq (Qkq (Qkq hbb (Nat.le_refl _)) (Nat.le_refl _)) (Nat.le_refl _)) (Nat.le_refl _)⟩
abbrev Fd:=S74
def RF(W:World)(b:Nat)(v:Value)(xs:List Fd):Prop:=(k74).R 74 W b (fun _=>True) v xs
theorem info_fd:(Tryz.prog.info? 74).map (fun i=>(i.zero,i.size,i.bytes))=some (some (.agg #[.bool false,.int .u64 0,.string (⟨#[]⟩:ByteArray),.string (⟨#[]⟩:ByteArray),.int .u64 0,.int .i64 0,.int .i64 0]),7,72):=by kernel_rfl
theorem R8.kt{W W':World}{b:Nat}{v:Value}{xs:List Int}(h:R8 W b v xs)(hT:KT W W'):R8 W' b v xs:=by
 refine Kd.R_mono (Kd.R_step (Kd.R_bound h) (fun k hk _=>?_)) (fun _ _=>trivial);obtain⟨q,hq,cells,hc⟩:=hk.2.2.2;have hq':q=5:=by simpa [Kd.int,Kd.scalar]using hq
 subst hq';rw[hc];exact hT k cells _ hc (by decide) (by decide)
theorem RF.kt{W W':World}{b:Nat}{v:Value}{xs:List Fd}(h:RF W b v xs)(hT:KT W W'):RF W' b v xs:=by
 refine Kd.R_mono (Kd.R_step (Kd.R_bound h) (fun k hk _=>?_)) (fun _ _=>trivial);obtain⟨q,hq,cells,hc⟩:=hk.2.2.2;have ht:∀q,q∈74 :: (k74).E→q=74:=by decide
 obtain rfl:=ht q hq;rw[hc];exact hT k cells _ hc (by decide) (by decide)
def Quc(kc:Nat)(vh:Value)(ch fo em:Int):Array Value:=#[.pointer (some ⟨kc,0,none⟩),vh,.bool false,.int .i64 ch,.int .i64 fo,.int .i64 em]
structure SSt (w W:World) (b kc sb:Nat) (K:KS) (held:List Int) (ch fo em:Int) (out:List Fd) (vh vo:Value):Prop where
  k:IsK W kc K
  s:W.heap[sb]? = some (.cells (Quc kc vh ch fo em) 144 (0,0))
  h:R8 W b vh held
  o:RF W b vo out
  low:Below b w W
  bk:b≤kc
  bs:b≤sb
section
variable {w W W':World} {b kc sb:Nat} {K K':KS} {held held':List Int} {ch fo em ch' fo' em':Int} {out out':List Fd} {vh vh' vo vo':Value}
theorem SSt.below(h:SSt w W b kc sb K held ch fo em out vh vo)(hb:Below W.heap.size W W')(hbw:b≤W.heap.size):SSt w W' b kc sb K held ch fo em out vh vo :=
 ⟨Qex h.k hb,Qex h.s hb,Kd.R_below h.h hb,Kd.R_below h.o hb,h.low.trans (Qkr hb hbw),h.bk,h.bs⟩
theorem SSt.cut(h:SSt w W b kc sb K held ch fo em out vh vo)(hk:IsK W' kc K')(hT:KT W W')(hB:Below b W W'):SSt w W' b kc sb K' held ch fo em out vh vo :=
 ⟨hk,hT _ _ _ h.s (by decide) (by decide),h.h.kt hT,h.o.kt hT,h.low.trans hB,h.bk,h.bs⟩
theorem SSt.set(h:SSt w W b kc sb K held ch fo em out vh vo)(j:Nat)(u:Value)(hs:(Quc kc vh ch fo em).setIfInBounds j u=Quc kc vh' ch' fo' em')(hh:R8 W b vh' held'):SSt w (W.setCell ⟨sb,j,none⟩ u) b kc sb K held' ch' fo' em' out vh' vo:=by
 have hs':=Qef h.s j u;rw[hs]at hs';exact⟨Qeg h.k (p:=⟨sb,j,none⟩) (Qel h.k h.s (by decide)) u,hs',Kd.R_set hh h.s (by decide) j u,Kd.R_set h.o h.s (by decide) j u,Qkq h.low h.bs,h.bk,h.bs⟩
theorem SSt.cells(h:SSt w W b kc sb K held ch fo em out vh vo):(W.cell? ⟨sb,0,none⟩=some (.pointer (some ⟨kc,0,none⟩))∧W.cell? ⟨sb,1,none⟩=some vh∧W.cell? ⟨sb,2,none⟩=some (.bool false)∧W.cell? ⟨sb,3,none⟩=some (.int .i64 ch)∧W.cell? ⟨sb,4,none⟩=some (.int .i64 fo)∧W.cell? ⟨sb,5,none⟩=some (.int .i64 em))∧W.frozen? ⟨sb,1,none⟩=false∧W.frozen? ⟨sb,2,none⟩=false∧W.frozen? ⟨sb,3,none⟩=false∧W.frozen? ⟨sb,4,none⟩=false∧W.frozen? ⟨sb,5,none⟩=false :=
 ⟨⟨(Qei h.s 0).trans rfl,(Qei h.s 1).trans rfl,(Qei h.s 2).trans rfl,(Qei h.s 3).trans rfl,(Qei h.s 4).trans rfl,(Qei h.s 5).trans rfl⟩,Qej h.s 1,Qej h.s 2,Qej h.s 3,Qej h.s 4,Qej h.s 5⟩
end
theorem R8.nil{W:World}{b n c:Nat}{A:Option Addr}{xs:List Int}(h:R8 W b (.slice A n c) xs):R8 W b (.slice A 0 c) []:=by
 obtain⟨A',c',hv⟩:=Kd.R_slice h
 cases hv
 exact Kd.R_take h (Nat.zero_le _)
theorem Qud(b kc sb c:Nat)(K:KS)(held:List Int)(ch fo em:Int)(out:List Fd)(A:Option Addr)(vo:Value)(w0 w:World)(hS:SSt w0 w b kc sb K held ch fo em out (.slice A held.length c) vo) :
  (∀u,CallsD Tryz.prog 78 #[.pointer (some ⟨sb,0,none⟩)] u w fun e u' w'=>u'=u∧(e=.returned (.tuple #[])∧SSt w0 w' b kc sb K [] ch fo em out (.slice A 0 c) vo)) ∧
  Calls Tryz.prog 78 #[.pointer (some ⟨sb,0,none⟩)] w fun e w'=>e=.returned (.tuple #[])∧SSt w0 w' b kc sb K [] ch fo em out (.slice A 0 c) vo:=by
 have hu:=Tryz.underlying144;have t1:=hS.set (vh':=.slice A 0 c) (held':=[]) (ch':=ch) (fo':=fo) (em':=em) 1 (.slice A 0 c) rfl hS.h.nil;have t2:=t1.set (vh':=.slice A 0 c) (held':=[]) (ch':=ch) (fo':=fo) (em':=em) 2 (.bool false) rfl t1.h;obtain⟨⟨c0,c1,c2,c3,c4,c5⟩,f1,f2,f3,f4,f5⟩:=hS.cells;obtain⟨⟨d0,d1,d2,d3,d4,d5⟩,g1,g2,g3,g4,g5⟩:=t1.cells;obtain⟨i0,hii,_,hsz,_⟩:=info_parts Qjo;have hlen:=(Kd.R_reads' hS.h).2.1;have T2:=QA t2;have hcut:=Qfj (P:=Tryz.prog) 40 5 .i64 Tryz.underlying40 hii A held.length c 0 (by decide) (by omega) hlen;clear hS t1 t2 hlen hii
 constructor
 ·intro u
  go_enter_d Tryz.func78,Tryz.ntmps78
  go_wp2;go_end0
  exact⟨rfl,T2.out⟩
 ·go_enter Tryz.func78,Tryz.ntmps78
  go_wp2;go_end0
  exact⟨rfl,T2.out⟩
theorem SSt.app8{w W w1:World}{b kc sb:Nat}{K:KS}{held held1:List Int}{ch fo em:Int}{out:List Fd}{vh v1 vo:Value}(h:SSt w W b kc sb K held ch fo em out vh vo)(HR:R8 w1 b v1 held1)(hb:Below b W w1)(hg:W.grownBy w1 vh.ownBlock) :
  w1.heap[sb]? = some (.cells (Quc kc vh ch fo em) 144 (0,0))∧SSt w (w1.setCell ⟨sb,1,none⟩ v1) b kc sb K held1 ch fo em out v1 vo:=by
 have hs:=Qek h.s hg (Kd.R_ne h.h h.s (by decide));have hk:IsK w1 kc K:=Qek h.k hg (Kd.R_ne h.h h.k (by decide));have hs':=Qef hs 1 v1;exact⟨hs,Qeg hk (p:=⟨sb,1,none⟩) (Qel hk hs (by decide)) v1,hs',Kd.R_set HR hs (by decide) 1 v1,Kd.R_set (Kd.R_over' h.o (Kd.R_typed h.h) (by decide) hg) hs (by decide) 1 v1,Qkq (h.low.trans hb) h.bs,h.bk,h.bs⟩
theorem Que(b kc sb c:Nat)(K:KS)(held:List Int)(ch fo em x:Int)(out:List Fd)(A:Option Addr)(vo:Value)(w0 w:World)(hS:SSt w0 w b kc sb K held ch fo em out (.slice A held.length c) vo)(hbw:b≤w.heap.size)(hl:held.length<1060000) :
  Calls Tryz.prog 76 #[.pointer (some ⟨sb,0,none⟩),.int .u8 x] w fun e w'=>∃vh',e=.returned (.tuple #[])∧SSt w0 w' b kc sb K (held++[x]) ch fo em out vh' vo:=by
 have hu:=Tryz.underlying144;have HS:=QA hS;obtain⟨⟨c0,c1,c2,c3,c4,c5⟩,f1,f2,f3,f4,f5⟩:=hS.cells;have hd:decide ((1060000:Int)≤(held.length:Int))=false:=decide_eq_false (by omega);clear hS
 go_enter Tryz.func76,Tryz.ntmps76
 go_wp2_with (at_builtin;refine Kd.R_append (Kd.int .u8) (w0:=w) b rfl (.tmp 25) (.tmp 27) 40 5 (.int .u8 0) 1 rfl Tryz.underlying40 Qjo rfl (by decide) (by omega) (.slice A held.length c) held x [.int .u8 x] (fun _=>True) (fun _=>False) rfl ?ax ?aP (fun _ hk=>hk.elim) ?aF ?aO ?aB ?aS ?aL ?_;(case ax=>rfl);(case aP=>rfl);(case aF=>exact fun _ _=>trivial);(case aO=>exact HS.out.h);(case aB=>exact Below.refl _ _);(case aS=>exact hbw);(case aL=>omega);intro v3 w3 a hb3 d hat3;obtain⟨A3,c3,hv3⟩:=Kd.R_slice a;rw[show(held++[x]).length=held.length+1 from List.length_append]at hv3;subst hv3;have HP:=HS.out.app8 a hb3 d;have HS3:=QA HP.2;have q1:w3.cell? ⟨sb,1,none⟩=some (.slice A held.length c):=(Qei HP.1 1).trans rfl;have q2:w3.frozen? ⟨sb,1,none⟩=false:=Qej HP.1 1;clear HP a hb3 d hat3)
 go_end0
 exact⟨_,rfl,HS3.out⟩
theorem Quf(g:Nat)(K:KS)(w:World)(hK:IsK w g K)(h:0≤K.2.2.2∧K.2.2.2≤K.2.2.1∧K.2.2.1≤1000000000000) :
  Calls Tryz.prog 77 #[.pointer (some ⟨g,0,none⟩)] w fun e w'=>e=.returned (.int .i64 (K.2.2.1-K.2.2.2))∧Below w.heap.size w w':=by
 have hu:=Tryz.underlying207;obtain⟨⟨c0,c1,c2,c3⟩,f1,f2,f3⟩:=hK.cells;have d2:w.drew.cell? ⟨g,2,none⟩=some (.int .i64 K.2.2.1):=c2;have d3:w.drew.cell? ⟨g,3,none⟩=some (.int .i64 K.2.2.2):=c3;have hw:IntKind.i64.wrap (K.2.2.1-K.2.2.2)=K.2.2.1-K.2.2.2:=IntWalk.i64_in _ (by omega)
 go_enter Tryz.func77,Tryz.ntmps77
 go_upto_region 1 with fail
 go_region
 all_goals
  go_wp2;go_ret
  exact⟨rfl,Qdk (Below.refl _ _)⟩
def endO(out:List Fd)(er:Int)(d:Bool)(q:Int)(ka va:ByteArray)(sg fr tt:Int):List Fd:=if er=0 then out++[(⟨⟨d,q,ka,va⟩,sg,fr,tt-fr+1⟩:Fd)]else out
theorem SSt.app97{w W w1:World}{b kc sb:Nat}{K:KS}{held:List Int}{ch fo em:Int}{out out1:List Fd}{vh v1 vo:Value}(h:SSt w W b kc sb K held ch fo em out vh vo)(HR:RF w1 b v1 out1)(hb:Below b W w1)(hg:W.grownBy w1 vo.ownBlock):SSt w w1 b kc sb K held ch fo em out1 vh v1 :=
 ⟨Qek h.k hg (Kd.R_ne h.o h.k (by decide)),Qek h.s hg (Kd.R_ne h.o h.s (by decide)),Kd.R_over' h.h (Kd.R_typed h.o) (by decide) hg,HR,h.low.trans hb,h.bk,h.bs⟩
theorem sv_end(k b kc sb c:Nat)(K:KS)(held:List Int)(ch fo em sg fr tt:Int)(out:List Fd)(A:Option Addr)(vo:Value)(d:Bool)(q:Int)(ka va:ByteArray)(er:Int)(w:World)(hS:SSt w w b kc sb K held ch fo em out (.slice A held.length c) vo)(hbw:b≤w.heap.size)
  (hr:Qch.f k held=some (d,q,ka,va,er)) (hn:(0≤ch∧ch≤1000000000000)∧(0≤fo∧fo≤1000000000000)∧(0≤em∧em≤1000000000000)) (hft:0≤fr∧fr≤tt∧tt≤1000000000000) (hl:out.length≤1000000000) :
  Calls Tryz.prog 75 #[.pointer (some ⟨sb,0,none⟩),.agg #[.int .u64 sg,.int .i64 fr,.int .i64 tt],vo] w fun e w'=>∃vo' vh',e=.returned vo' ∧
   SSt w w' b kc sb K [] (ch+1) (if er=0 then fo+1 else fo) (if fr=tt then em+1 else em) (endO out er d q ka va sg fr tt) vh' vo':=by
 have hu:=Tryz.underlying144;have hu2:=Tryz.underlying147;have hu3:=Tryz.underlying37;have hcc:=(Kd.R_reads' hS.h).2.1;obtain⟨Ao,co,hvo⟩:=Kd.R_slice hS.o;subst hvo;have HR:=QA hr;have hw1:IntKind.i64.wrap (ch+1)=ch+1:=IntWalk.i64_in _ (by omega);have hw2:IntKind.i64.wrap (fo+1)=fo+1:=IntWalk.i64_in _ (by omega);have hw3:IntKind.i64.wrap (em+1)=em+1:=IntWalk.i64_in _ (by omega);have hw4:IntKind.i64.wrap (tt-fr)=tt-fr:=IntWalk.i64_in _ (by omega);have hw5:IntKind.i64.wrap (tt-fr+1)=tt-fr+1:=IntWalk.i64_in _ (by omega);have s0:=hS.below (W':=w.alloc (.cells #[.int .u64 sg,.int .i64 fr,.int .i64 tt] 147 (0,0))) (Qdj (Below.refl _ _) _) hbw;have kz:=Qey w (.cells #[.int .u64 sg,.int .i64 fr,.int .i64 tt] 147 (0,0));have hb0:b≤(w.alloc (.cells #[.int .u64 sg,.int .i64 fr,.int .i64 tt] 147 (0,0))).heap.size:=by rw[World.size_alloc];omega
 have s1:=s0.set (vh':=.slice A held.length c) (held':=held) (ch':=ch+1) (fo':=fo) (em':=em) 3 (.int .i64 (ch+1)) rfl s0.h;have kz1:=Qeg kz (p:=⟨sb,3,none⟩) (Qel kz s0.s (by decide)) (.int .i64 (ch+1));have s2:=s1.set (vh':=.slice A held.length c) (held':=held) (ch':=ch+1) (fo':=fo) (em':=em+1) 5 (.int .i64 (em+1)) rfl s1.h;have kz2:=Qeg kz1 (p:=⟨sb,5,none⟩) (Qel kz1 s1.s (by decide)) (.int .i64 (em+1));obtain⟨⟨a0,a1,a2,a3,a4,a5⟩,f1,f2,f3,f4,f5⟩:=s0.cells;obtain⟨⟨b0,b1,b2,b3,b4,b5⟩,g1,g2,g3,g4,g5⟩:=s1.cells;obtain⟨⟨c0,c1,c2,c3,c4,c5⟩,h1,h2,h3,h4,h5⟩:=s2.cells;have x1:=(Qei kz1 1).trans (rfl:_=some (Value.int .i64 fr));have x2:=(Qei kz1 2).trans (rfl:_=some (Value.int .i64 tt));obtain⟨em',hem⟩:∃em',em'=(if fr=tt then em+1 else em):=⟨_,rfl⟩;obtain⟨W2,hW2⟩:∃W2,W2=(if fr=tt then((w.alloc (.cells #[.int .u64 sg,.int .i64 fr,.int .i64 tt] 147 (0,0))).setCell ⟨sb,3,none⟩ (.int .i64 (ch+1))).setCell ⟨sb,5,none⟩ (.int .i64 (em+1))else(w.alloc (.cells #[.int .u64 sg,.int .i64 fr,.int .i64 tt] 147 (0,0))).setCell ⟨sb,3,none⟩ (.int .i64 (ch+1))):=⟨_,rfl⟩;have S2:Aside0 (SSt w W2 b kc sb K held (ch+1) fo em' out (.slice A held.length c) (.slice Ao out.length co)):=⟨by rw[hW2,hem];split;exact s2;exact s1⟩;have KZ2:Aside0 (W2.heap[w.heap.size]? = some (.cells #[.int .u64 sg,.int .i64 fr,.int .i64 tt] 147 (0,0))):=⟨by rw[hW2];split;exact kz2;exact kz1⟩;have hb2:b≤W2.heap.size:=by rw[hW2];split<;>simpa [World.setCell]using hb0
 rw[← hem];have HEM:=QA hem;clear hem;have HC:=QA (Kd.R_reads' S2.out.h).2.2;have HCC:=QA hcc;have HBW:=QA hbw;have HL:=QA hl;have HW2:=QA hW2;clear hS s0 s1 s2 kz kz1 kz2 hr hbw hl hW2
 go_enter_defers Tryz.func75,Tryz.ntmps75
 go_upto_if 21 with fail
 go_cut [22] from 9 to 66 (fun j w'=>w'=W2)
 case first =>
  by_cases hq:fr=tt
  ·have hqb:(fr == tt)=true:=beq_iff_eq.2 hq;have HQ:=QA hq;clear hq;go_wp2
   go_meet
   case rel=>rw[HW2.out,if_pos HQ.out]
  ·have hqb:(fr == tt)=false:=beq_eq_false_iff_ne.2 hq;go_wp2
   go_meet
   case rel=>rw[HW2.out,if_neg hq]
 case rest =>
  have hcut':wc=W2:=hcut;subst hcut';clear hcut HW2 a0 a1 a2 a3 a4 a5 f1 f2 f3 f4 f5 b0 b1 b2 b3 b4 b5 g1 g2 g3 g4 g5 c0 c1 c2 c3 c4 c5 h1 h2 h3 h4 h5 x1 x2;obtain⟨⟨c0,c1,c2,c3,c4,c5⟩,h1,h2,h3,h4,h5⟩:=S2.out.cells;have GR:=Qch.calls k A c held d q ka va er wc HC.out HCC.out HR.out;have HGR:=QA GR;clear GR
  go_upto_if 43 with(go_at_call 69;refine HGR.out.mono ?_;rintro ee w3 ⟨rfl,hb3⟩;have S3:=QA ((S2.out.below hb3 hb2).below (W':=w3.alloc (.cells #[.bool d,.int .u64 q,.string ka,.string va] 37 (0,0))) (Qdj (Below.refl _ _) _) (Nat.le_trans hb2 hb3.size));have KZ3:=QA (Qeu (Qex KZ2.out hb3) (.cells #[.bool d,.int .u64 q,.string ka,.string va] 37 (0,0)));have KR3:=QA (Qey w3 (.cells #[.bool d,.int .u64 q,.string ka,.string va] 37 (0,0)));have hb4:b≤(w3.alloc (.cells #[.bool d,.int .u64 q,.string ka,.string va] 37 (0,0))).heap.size:=by rw[World.size_alloc];exact Nat.le_trans hb2 (Nat.le_trans hb3.size (Nat.le_succ _)))
  obtain⟨W4,hW4⟩:∃W4,W4=w3.alloc (.cells #[.bool d,.int .u64 q,.string ka,.string va] 37 (0,0)):=⟨_,rfl⟩;rw[← hW4]at S3 KZ3 KR3 hb4 ⊢;have hsz4:b≤W4.heap.size:=hb4;clear hW4 hb3 c0 c1 c2 c3 c4 c5 h1 h2 h3 h4 h5 hb2 hb4 S2 KZ2;obtain⟨⟨c0,c1,c2,c3,c4,c5⟩,h1,h2,h3,h4,h5⟩:=S3.out.cells
  by_cases he:er=0
  ·subst he;have s5:=S3.out.set (vh':=.slice A held.length c) (held':=held) (ch':=ch+1) (fo':=fo+1) (em':=em') 4 (.int .i64 (fo+1)) rfl S3.out.h;have kz5:=Qeg KZ3.out (p:=⟨sb,4,none⟩) (Qel KZ3.out S3.out.s (by decide)) (.int .i64 (fo+1));have kr5:=Qeg KR3.out (p:=⟨sb,4,none⟩) (Qel KR3.out S3.out.s (by decide)) (.int .i64 (fo+1));have S5:=QA s5;have y0:=(Qei kz5 0).trans (rfl:_=some (Value.int .u64 sg));have y1:=(Qei kz5 1).trans (rfl:_=some (Value.int .i64 fr));have y2:=(Qei kz5 2).trans (rfl:_=some (Value.int .i64 tt));have z0:=(Qei kr5 0).trans (rfl:_=some (Value.bool d));have z1:=(Qei kr5 1).trans (rfl:_=some (Value.int .u64 q));have z2:=(Qei kr5 2).trans (rfl:_=some (Value.string ka));have z3:=(Qei kr5 3).trans (rfl:_=some (Value.string va));have hsz5:b≤(W4.setCell ⟨sb,4,none⟩ (.int .i64 (fo+1))).heap.size:=by simpa [World.setCell]using hsz4
   clear s5 kz5 kr5
   go_wp2_with (at_builtin;refine Kd.R_append k74 (w0:=W4.setCell ⟨sb,4,none⟩ (.int .i64 (fo+1))) b rfl (.tmp 52) (.tmp 65) 52 74 (.agg #[.bool false,.int .u64 0,.string (⟨#[]⟩:ByteArray),.string (⟨#[]⟩:ByteArray),.int .u64 0,.int .i64 0,.int .i64 0]) 72 rfl Tryz.underlying52 info_fd rfl (by decide) (by omega) (.slice Ao out.length co) out (⟨⟨d,q,ka,va⟩,sg,fr,tt-fr+1⟩:Fd) [.bool d,.int .u64 q,.string ka,.string va,.int .u64 sg,.int .i64 fr,.int .i64 (tt-fr+1)] (fun _=>True) (fun _=>False) rfl ?ax ?aP (fun _ hk=>hk.elim) ?aF ?aO ?aB ?aS ?aL ?_;(case ax=>first |(go_simp;done) |(go_simp;rfl));(case aP=>exact k74_mkM _ _ _ (⟨⟨d,q,ka,va⟩,sg,fr,tt-fr+1⟩:Fd));(case aF=>exact fun _ _=>trivial);(case aO=>exact S5.out.o);(case aB=>exact Below.refl _ _);(case aS=>exact hsz5);(case aL=>have:=HL.out;omega);intro v6 w6 a hb6 g hat6;obtain⟨A6,c6,hv6⟩:=Kd.R_slice a;rw[show(out++[(⟨⟨d,q,ka,va⟩,sg,fr,tt-fr+1⟩:Fd)]).length=out.length+1 from List.length_append]at hv6;subst hv6;have S6:=QA (S5.out.app97 a hb6 g);clear a hb6 g hat6)
   refine leaves_cons (f:=78) (args:=#[.pointer (some ⟨sb,0,none⟩)]) (by simp) (by simp[go_sem]) ?_;refine((Qud b kc sb c K held _ _ _ _ A _ w w6 S6.out).1 _).mono ?_;rintro e u' w'' ⟨rfl,rfl,hD⟩;show Leaves _ _ _ _ [] .returning _;refine⟨_,results_tmp rfl _ _ w'',_,rfl,.slice A 0 c,?_⟩;unfold endO;rw[if_pos rfl];exact hD
  ·have hne:(er != 0)=true:=bne_iff_ne.2 he;go_wp2;refine leaves_cons (f:=78) (args:=#[.pointer (some ⟨sb,0,none⟩)]) (by simp) (by simp[go_sem]) ?_;refine((Qud b kc sb c K held _ _ _ _ A _ w W4 S3.out).1 _).mono ?_;rintro e u' w'' ⟨rfl,rfl,hD⟩;show Leaves _ _ _ _ [] .returning _;refine⟨_,results_tmp rfl _ _ w'',_,rfl,.slice A 0 c,?_⟩;unfold endO;rw[if_neg he];exact hD
end Go.Proofs.YteaocbonofboeaaGreat.C
end
