/- Merged texts. -/
import Derived.Test.YteaocbonofboeaaGreatMD02
import Derived.WalkLawsBesides
import Derived.Recover
import Derived.Defers
import Derived.Test.YteaocbonofboeaaGreatMD06
import Derived.Test.YteaocbonofboeaaGreatMD08
import Derived.Test.YteaocbonofboeaaGreatMD20
import Derived.Test.YteaocbonofboeaaGreatMD09
set_option linter.unusedVariables false
set_option linter.unusedSimpArgs false
set_option maxHeartbeats 8000000
set_option maxRecDepth 100000
section
namespace Go.Proofs.YteaocbonofboeaaGreat.C
open Go.RowKit Go.Proofs.YteaocbonofboeaaGreatW.PrintWords Go.Proofs.YteaocbonofboeaaGreatW.PrintLast Go.Proofs.YteaocbonofboeaaGreatW.PrintMore
theorem IsCur.far{W:World}{b g rb j:Nat}{bs:List Int}{i:Int}{u:Value}{cs:Array Value}(h:IsCur W b g bs i)(hr:W.heap[rb]? = some (.cells cs 37 (0,0))):IsCur (W.setCell ⟨rb,j,none⟩ u) b g bs i:=by
 obtain⟨v,h1,h2⟩:=h;exact⟨v,Qcz h1 (p:=⟨rb,j,none⟩) (Qde h1 hr (by decide)) u,h2.set hr (by decide) j u⟩
def RS(w W:World)(rb lo g:Nat)(bs:List Int)(i:Int)(d:Bool)(q:Int)(a b:ByteArray):Prop :=
 IsCur W lo g bs i∧W.heap[rb]? = some (.cells #[.bool d,.int .u64 q,.string a,.string b] 37 (0,0))∧Below rb w W∧Tl lo g w W∧lo≤W.heap.size∧rb<lo
section
variable {w W W':World} {rb lo g:Nat} {bs:List Int} {i j q:Int} {d:Bool} {a b:ByteArray}
theorem RS.cur(h:RS w W rb lo g bs i d q a b)(hw:rb≤W.heap.size)(hI:IsCur W' lo g bs j)(hb:Bw lo g W W'):RS w W' rb lo g bs j d q a b :=
 ⟨hI,(hb.1.block rb h.2.2.2.2.2).trans h.2.1,h.2.2.1.trans (Qis hb.1 (Nat.le_of_lt h.2.2.2.2.2)),fun k cs t h1 h2 h3 h4=>hb.2 _ _ _ (h.2.2.2.1 _ _ _ h1 h2 h3 h4) h3 h4,Nat.le_trans h.2.2.2.2.1 hb.size,h.2.2.2.2.2⟩
theorem RS.lt(h:RS w W rb lo g bs i d q a b):rb≤W.heap.size:=Nat.le_of_lt (Qda h.2.1)
theorem RS.tl(h:RS w W rb lo g bs i d q a b)(n:Nat)(u:Value):Tl lo g w (W.setCell ⟨rb,n,none⟩ u):=fun k cs t h1 h2 h3 h4=>Qcz (h.2.2.2.1 _ _ _ h1 h2 h3 h4) (p:=⟨rb,n,none⟩) (by have:=h.2.2.2.2.2;show k≠rb;omega) u
theorem RS.size(h:RS w W rb lo g bs i d q a b)(n:Nat)(u:Value):lo≤(W.setCell ⟨rb,n,none⟩ u).heap.size:=by simpa [World.setCell]using h.2.2.2.2.1
theorem RS.sd(h:RS w W rb lo g bs i d q a b)(x:Bool):RS w (W.setCell ⟨rb,0,none⟩ (.bool x)) rb lo g bs i x q a b:=⟨h.1.far h.2.1,Qcy h.2.1 0 _,Qir h.2.2.1 (Nat.le_refl _),h.tl _ _,h.size _ _,h.2.2.2.2.2⟩
theorem RS.sq(h:RS w W rb lo g bs i d q a b)(x:Int):RS w (W.setCell ⟨rb,1,none⟩ (.int .u64 x)) rb lo g bs i d x a b:=⟨h.1.far h.2.1,Qcy h.2.1 1 _,Qir h.2.2.1 (Nat.le_refl _),h.tl _ _,h.size _ _,h.2.2.2.2.2⟩
theorem RS.sa(h:RS w W rb lo g bs i d q a b)(x:ByteArray):RS w (W.setCell ⟨rb,2,none⟩ (.string x)) rb lo g bs i d q x b:=⟨h.1.far h.2.1,Qcy h.2.1 2 _,Qir h.2.2.1 (Nat.le_refl _),h.tl _ _,h.size _ _,h.2.2.2.2.2⟩
theorem RS.sb(h:RS w W rb lo g bs i d q a b)(x:ByteArray):RS w (W.setCell ⟨rb,3,none⟩ (.string x)) rb lo g bs i d q a x:=⟨h.1.far h.2.1,Qcy h.2.1 3 _,Qir h.2.2.1 (Nat.le_refl _),h.tl _ _,h.size _ _,h.2.2.2.2.2⟩
theorem RS.cells(h:RS w W rb lo g bs i d q a b):(W.cell? ⟨rb,0,none⟩=some (.bool d)∧W.cell? ⟨rb,1,none⟩=some (.int .u64 q)∧W.cell? ⟨rb,2,none⟩=some (.string a)∧W.cell? ⟨rb,3,none⟩=some (.string b))∧(W.frozen? ⟨rb,0,none⟩=false∧W.frozen? ⟨rb,1,none⟩=false∧W.frozen? ⟨rb,2,none⟩=false∧W.frozen? ⟨rb,3,none⟩=false) :=
 ⟨⟨(Qdb h.2.1 0).trans rfl,(Qdb h.2.1 1).trans rfl,(Qdb h.2.1 2).trans rfl,(Qdb h.2.1 3).trans rfl⟩,Qdc h.2.1 0,Qdc h.2.1 1,Qdc h.2.1 2,Qdc h.2.1 3⟩
end
theorem Qpm(rb lo g:Nat)(bs:List Int)(hb:CodecP.Bytes bs)(hl:bs.length≤140737488355328)(hlg:lo≤g)(w:World)(hS:RS w w rb lo g bs 0 false 0 (⟨#[]⟩:ByteArray) (⟨#[]⟩:ByteArray))(h0:¬(0:Int)<(bs.length:Int)) :
  Calls Tryz.prog 172 #[.pointer (some ⟨g,0,none⟩),.pointer (some ⟨rb,0,none⟩)] w fun e W'=>e=.panicked [Qlq g 2]∧∃d q a b,RS w W' rb lo g bs 0 d q a b:=by
 have HS:=QA hS;have HB:=QA hb;have hu:=Tryz.underlying37;have dA:(0:Int)≤1∧(1:Int)≤4611686018427387904:=⟨by decide,by decide⟩;have dB:(0:Int)≤4096∧(4096:Int)≤4611686018427387904:=⟨by decide,by decide⟩;have dC:(0:Int)≤0∧(0:Int)≤4611686018427387904:=⟨by decide,by decide⟩;have dD:(0:Int)≤1048576∧(1048576:Int)≤4611686018427387904:=⟨by decide,by decide⟩;have DD:=QA (And.intro dA (And.intro dB (And.intro dC dD)));clear hS hb dA dB dC dD
 go_enter Tryz.func172,Tryz.ntmps172
 go_wp2_with (go_at_call 173;refine(Qoo lo g bs 0 ⟨Int.le_refl _,by omega⟩ hl (by omega) _ HS.out.2.2.2.2.1 HS.out.1).mono ?_;rintro ee w1 ⟨rfl,hI1,hB1⟩)
 exact⟨rfl,rfl,_,_,_,_,HS.out.cur HS.out.lt hI1 hB1⟩
theorem Qpn(rb lo g:Nat)(bs:List Int)(hb:CodecP.Bytes bs)(hl:bs.length≤140737488355328)(hlg:lo≤g)(w:World)(hS:RS w w rb lo g bs 0 false 0 (⟨#[]⟩:ByteArray) (⟨#[]⟩:ByteArray))(h0:(0:Int)<(bs.length:Int))(y:Int)(hy:y=YteaocbonofboeaaGreatW.PrintWords.rd bs 0)(h2:y≠2)(h3:y≠3) :
  Calls Tryz.prog 172 #[.pointer (some ⟨g,0,none⟩),.pointer (some ⟨rb,0,none⟩)] w fun e W'=>e=.panicked [Qlq g 4]∧∃d q a b,RS w W' rb lo g bs (0+1) d q a b:=by
 have HS:=QA hS;have HB:=QA hb;have hu:=Tryz.underlying37;have dA:(0:Int)≤1∧(1:Int)≤4611686018427387904:=⟨by decide,by decide⟩;have dB:(0:Int)≤4096∧(4096:Int)≤4611686018427387904:=⟨by decide,by decide⟩;have dC:(0:Int)≤0∧(0:Int)≤4611686018427387904:=⟨by decide,by decide⟩;have dD:(0:Int)≤1048576∧(1048576:Int)≤4611686018427387904:=⟨by decide,by decide⟩;have DD:=QA (And.intro dA (And.intro dB (And.intro dC dD)));clear hS hb dA dB dC dD;have hk2:(y != 2)=true:=bne_iff_ne.2 h2;have hk3:(y != 3)=true:=bne_iff_ne.2 h3;have HY:=QA hy;clear hy
 go_enter Tryz.func172,Tryz.ntmps172
 go_wp2_with (first
  |(go_at_call 173;refine(Qpg lo g bs 0 y HY.out HB.out (Int.le_refl _) hl h0 hlg _ HS.out.2.2.2.2.1 HS.out.1).mono ?_;rintro ee w1 ⟨rfl,hI1,hB1⟩;have S1:=QA (HS.out.cur HS.out.lt hI1 hB1);obtain⟨⟨c10,c,h,j⟩,f10,f11,f12,f13⟩:=S1.out.cells;have T1:=QA (S1.out.sd (y == 3)))
  |(go_at_call 174;refine(Qls lo g bs (0+1) 4 (by decide) _ S1.out.1).mono ?_;rintro ee w2 ⟨rfl,rfl⟩))
 exact⟨rfl,rfl,_,_,_,_,S1.out⟩
theorem Qpo(rb lo g:Nat)(bs:List Int)(hb:CodecP.Bytes bs)(hl:bs.length≤140737488355328)(hlg:lo≤g)(w:World)(hS:RS w w rb lo g bs 0 false 0 (⟨#[]⟩:ByteArray) (⟨#[]⟩:ByteArray))(h0:(0:Int)<(bs.length:Int))(hy:(2:Int)=YteaocbonofboeaaGreatW.PrintWords.rd bs 0)(er i2:Int)(hvf:(Qph bs 10 0 (0+1) 0).map (fun p=>(Value.int .u64 p.1,p.2))=.error (er,i2)) :
  Calls Tryz.prog 172 #[.pointer (some ⟨g,0,none⟩),.pointer (some ⟨rb,0,none⟩)] w fun e W'=>e=.panicked [Qlq g er]∧∃d q a b,RS w W' rb lo g bs i2 d q a b:=by
 have HS:=QA hS;have HB:=QA hb;have hu:=Tryz.underlying37;have dA:(0:Int)≤1∧(1:Int)≤4611686018427387904:=⟨by decide,by decide⟩;have dB:(0:Int)≤4096∧(4096:Int)≤4611686018427387904:=⟨by decide,by decide⟩;have dC:(0:Int)≤0∧(0:Int)≤4611686018427387904:=⟨by decide,by decide⟩;have dD:(0:Int)≤1048576∧(1048576:Int)≤4611686018427387904:=⟨by decide,by decide⟩;have DD:=QA (And.intro dA (And.intro dB (And.intro dC dD)));clear hS hb dA dB dC dD;have HY:=QA hy;clear hy;have HVF:=QA hvf;clear hvf
 go_enter Tryz.func172,Tryz.ntmps172
 go_wp2_with (first
  |(go_at_call 175;refine(Qpi lo g bs (0+1) HB.out ⟨by omega,by omega⟩ hl hlg _ PT1.out QT1.out (.error (er,i2)) HVF.out).mono ?_;rintro ee w2 ⟨rfl,hI2,hB2⟩)
  |(go_at_call 173;refine(Qpg lo g bs 0 2 HY.out HB.out (Int.le_refl _) hl h0 hlg _ HS.out.2.2.2.2.1 HS.out.1).mono ?_;rintro ee w1 ⟨rfl,hI1,hB1⟩;have S1:=QA (HS.out.cur HS.out.lt hI1 hB1);obtain⟨⟨c10,c,h,j⟩,f10,f11,f12,f13⟩:=S1.out.cells;have T1:=QA (S1.out.sd false);have PT1:=QA T1.out.2.2.2.2.1;have QT1:=QA T1.out.1))
 exact⟨rfl,rfl,_,_,_,_,T1.out.cur T1.out.lt hI2 hB2⟩
theorem Qpp(rb lo g:Nat)(bs:List Int)(hb:CodecP.Bytes bs)(hl:bs.length≤140737488355328)(hlg:lo≤g)(w:World)(hS:RS w w rb lo g bs 0 false 0 (⟨#[]⟩:ByteArray) (⟨#[]⟩:ByteArray))(h0:(0:Int)<(bs.length:Int))(hy:(2:Int)=YteaocbonofboeaaGreatW.PrintWords.rd bs 0)(q i2:Int)(hv2:(Qph bs 10 0 (0+1) 0).map (fun p=>(Value.int .u64 p.1,p.2))=.ok (.int .u64 q,i2))(hi2:0≤i2∧i2≤(bs.length:Int))(er i3:Int)(hvf:(Qpk bs 1 4096 i2).map (fun p=>(Value.string (strOfNums p.1),p.2))=.error (er,i3)) :
  Calls Tryz.prog 172 #[.pointer (some ⟨g,0,none⟩),.pointer (some ⟨rb,0,none⟩)] w fun e W'=>e=.panicked [Qlq g er]∧∃d q a b,RS w W' rb lo g bs i3 d q a b:=by
 have HS:=QA hS;have HB:=QA hb;have hu:=Tryz.underlying37;have dA:(0:Int)≤1∧(1:Int)≤4611686018427387904:=⟨by decide,by decide⟩;have dB:(0:Int)≤4096∧(4096:Int)≤4611686018427387904:=⟨by decide,by decide⟩;have dC:(0:Int)≤0∧(0:Int)≤4611686018427387904:=⟨by decide,by decide⟩;have dD:(0:Int)≤1048576∧(1048576:Int)≤4611686018427387904:=⟨by decide,by decide⟩;have DD:=QA (And.intro dA (And.intro dB (And.intro dC dD)));clear hS hb dA dB dC dD;have HY:=QA hy;clear hy;have HV2:=QA hv2;clear hv2;have HVF:=QA hvf;clear hvf
 go_enter Tryz.func172,Tryz.ntmps172
 go_wp2_with (first
  |(go_at_call 176;have dA:=DD.out.1;have dB:=DD.out.2.1;have dC:=DD.out.2.2.1;have dD:=DD.out.2.2.2;refine(Qpl lo g bs i2 1 4096 dA dB HB.out hi2 hl hlg _ PT2.out QT2.out (.error (er,i3)) HVF.out).mono ?_;rintro ee w3 ⟨rfl,hI3,hB3⟩)
  |(go_at_call 175;refine(Qpi lo g bs (0+1) HB.out ⟨by omega,by omega⟩ hl hlg _ PT1.out QT1.out (.ok (.int .u64 q,i2)) HV2.out).mono ?_;rintro ee w2 ⟨rfl,hI2,hB2⟩;have S2:=QA (T1.out.cur T1.out.lt hI2 hB2);obtain⟨⟨c,h,j,k⟩,f20,f21,f22,f23⟩:=S2.out.cells;have T2:=QA (S2.out.sq q);have PT2:=QA T2.out.2.2.2.2.1;have QT2:=QA T2.out.1)
  |(go_at_call 173;refine(Qpg lo g bs 0 2 HY.out HB.out (Int.le_refl _) hl h0 hlg _ HS.out.2.2.2.2.1 HS.out.1).mono ?_;rintro ee w1 ⟨rfl,hI1,hB1⟩;have S1:=QA (HS.out.cur HS.out.lt hI1 hB1);obtain⟨⟨c10,l,m,n⟩,f10,f11,f12,f13⟩:=S1.out.cells;have T1:=QA (S1.out.sd false);have PT1:=QA T1.out.2.2.2.2.1;have QT1:=QA T1.out.1))
 exact⟨rfl,rfl,_,_,_,_,T2.out.cur T2.out.lt hI3 hB3⟩
theorem Qpq(rb lo g:Nat)(bs:List Int)(hb:CodecP.Bytes bs)(hl:bs.length≤140737488355328)(hlg:lo≤g)(w:World)(hS:RS w w rb lo g bs 0 false 0 (⟨#[]⟩:ByteArray) (⟨#[]⟩:ByteArray))(h0:(0:Int)<(bs.length:Int))(hy:(2:Int)=YteaocbonofboeaaGreatW.PrintWords.rd bs 0)(q i2:Int)(hv2:(Qph bs 10 0 (0+1) 0).map (fun p=>(Value.int .u64 p.1,p.2))=.ok (.int .u64 q,i2))(hi2:0≤i2∧i2≤(bs.length:Int))(a:List Int)(i3:Int)(hv3:(Qpk bs 1 4096 i2).map (fun p=>(Value.string (strOfNums p.1),p.2))=.ok (.string (strOfNums a),i3))(hi3:0≤i3∧i3≤(bs.length:Int))(er i4:Int)(hvf:(Qpk bs 0 1048576 i3).map (fun p=>(Value.string (strOfNums p.1),p.2))=.error (er,i4)) :
  Calls Tryz.prog 172 #[.pointer (some ⟨g,0,none⟩),.pointer (some ⟨rb,0,none⟩)] w fun e W'=>e=.panicked [Qlq g er]∧∃d q a b,RS w W' rb lo g bs i4 d q a b:=by
 have HS:=QA hS;have HB:=QA hb;have hu:=Tryz.underlying37;have dA:(0:Int)≤1∧(1:Int)≤4611686018427387904:=⟨by decide,by decide⟩;have dB:(0:Int)≤4096∧(4096:Int)≤4611686018427387904:=⟨by decide,by decide⟩;have dC:(0:Int)≤0∧(0:Int)≤4611686018427387904:=⟨by decide,by decide⟩;have dD:(0:Int)≤1048576∧(1048576:Int)≤4611686018427387904:=⟨by decide,by decide⟩;have DD:=QA (And.intro dA (And.intro dB (And.intro dC dD)));clear hS hb dA dB dC dD;have HY:=QA hy;clear hy;have HV2:=QA hv2;clear hv2;have HV3:=QA hv3;clear hv3;have HVF:=QA hvf;clear hvf
 go_enter Tryz.func172,Tryz.ntmps172
 go_wp2_with (first
  |(go_at_call 176;have dA:=DD.out.1;have dB:=DD.out.2.1;have dC:=DD.out.2.2.1;have dD:=DD.out.2.2.2;refine(Qpl lo g bs i3 0 1048576 dC dD HB.out hi3 hl hlg _ PT3.out QT3.out (.error (er,i4)) HVF.out).mono ?_;rintro ee w4 ⟨rfl,hI4,hB4⟩)
  |(go_at_call 176;have dA:=DD.out.1;have dB:=DD.out.2.1;have dC:=DD.out.2.2.1;have dD:=DD.out.2.2.2;refine(Qpl lo g bs i2 1 4096 dA dB HB.out hi2 hl hlg _ PT2.out QT2.out (.ok (.string (strOfNums a),i3)) HV3.out).mono ?_;rintro ee w3 ⟨rfl,hI3,hB3⟩;have S3:=QA (T2.out.cur T2.out.lt hI3 hB3);obtain⟨⟨c,h,j,k⟩,f30,f31,f32,f33⟩:=S3.out.cells;have T3:=QA (S3.out.sa (strOfNums a));have PT3:=QA T3.out.2.2.2.2.1;have QT3:=QA T3.out.1;obtain⟨⟨t0,t1,t2,t3⟩,_⟩:=T3.out.cells)
  |(go_at_call 175;refine(Qpi lo g bs (0+1) HB.out ⟨by omega,by omega⟩ hl hlg _ PT1.out QT1.out (.ok (.int .u64 q,i2)) HV2.out).mono ?_;rintro ee w2 ⟨rfl,hI2,hB2⟩;have S2:=QA (T1.out.cur T1.out.lt hI2 hB2);obtain⟨⟨l,m,n,o⟩,f20,f21,f22,f23⟩:=S2.out.cells;have T2:=QA (S2.out.sq q);have PT2:=QA T2.out.2.2.2.2.1;have QT2:=QA T2.out.1)
  |(go_at_call 173;refine(Qpg lo g bs 0 2 HY.out HB.out (Int.le_refl _) hl h0 hlg _ HS.out.2.2.2.2.1 HS.out.1).mono ?_;rintro ee w1 ⟨rfl,hI1,hB1⟩;have S1:=QA (HS.out.cur HS.out.lt hI1 hB1);obtain⟨⟨c10,r,s,t⟩,f10,f11,f12,f13⟩:=S1.out.cells;have T1:=QA (S1.out.sd false);have PT1:=QA T1.out.2.2.2.2.1;have QT1:=QA T1.out.1))
 exact⟨rfl,rfl,_,_,_,_,T3.out.cur T3.out.lt hI4 hB4⟩
theorem Qpr(rb lo g:Nat)(bs:List Int)(hb:CodecP.Bytes bs)(hl:bs.length≤140737488355328)(hlg:lo≤g)(w:World)(hS:RS w w rb lo g bs 0 false 0 (⟨#[]⟩:ByteArray) (⟨#[]⟩:ByteArray))(h0:(0:Int)<(bs.length:Int))(hy:(2:Int)=YteaocbonofboeaaGreatW.PrintWords.rd bs 0)(q i2:Int)(hv2:(Qph bs 10 0 (0+1) 0).map (fun p=>(Value.int .u64 p.1,p.2))=.ok (.int .u64 q,i2))(hi2:0≤i2∧i2≤(bs.length:Int))(a:List Int)(i3:Int)(hv3:(Qpk bs 1 4096 i2).map (fun p=>(Value.string (strOfNums p.1),p.2))=.ok (.string (strOfNums a),i3))(hi3:0≤i3∧i3≤(bs.length:Int))(v:List Int)(i4:Int)(hv4:(Qpk bs 0 1048576 i3).map (fun p=>(Value.string (strOfNums p.1),p.2))=.ok (.string (strOfNums v),i4))(hi4:0≤i4∧i4≤(bs.length:Int))(hlt:0<(bs.length:Int)-i4) :
  Calls Tryz.prog 172 #[.pointer (some ⟨g,0,none⟩),.pointer (some ⟨rb,0,none⟩)] w fun e W'=>e=.panicked [Qlq g 3]∧∃d q a b,RS w W' rb lo g bs i4 d q a b:=by
 have HS:=QA hS;have HB:=QA hb;have hu:=Tryz.underlying37;have dA:(0:Int)≤1∧(1:Int)≤4611686018427387904:=⟨by decide,by decide⟩;have dB:(0:Int)≤4096∧(4096:Int)≤4611686018427387904:=⟨by decide,by decide⟩;have dC:(0:Int)≤0∧(0:Int)≤4611686018427387904:=⟨by decide,by decide⟩;have dD:(0:Int)≤1048576∧(1048576:Int)≤4611686018427387904:=⟨by decide,by decide⟩;have DD:=QA (And.intro dA (And.intro dB (And.intro dC dD)));clear hS hb dA dB dC dD;have HY:=QA hy;clear hy;have HV2:=QA hv2;clear hv2;have HV3:=QA hv3;clear hv3;have HV4:=QA hv4;clear hv4
 go_enter Tryz.func172,Tryz.ntmps172
 go_wp2_with (first
  |(go_at_call 177;refine(Qos lo g bs i4 hi4 hl hlt _ PT4.out QT4.out).mono ?_;rintro ee w5 ⟨rfl,hI5,hB5⟩)
  |(go_at_call 176;have dA:=DD.out.1;have dB:=DD.out.2.1;have dC:=DD.out.2.2.1;have dD:=DD.out.2.2.2;refine(Qpl lo g bs i3 0 1048576 dC dD HB.out hi3 hl hlg _ PT3.out QT3.out (.ok (.string (strOfNums v),i4)) HV4.out).mono ?_;rintro ee w4 ⟨rfl,hI4,hB4⟩;have S4:=QA (T3.out.cur T3.out.lt hI4 hB4);obtain⟨⟨c,h,j,k⟩,f40,f41,f42,f43⟩:=S4.out.cells;have T4:=QA (S4.out.sb (strOfNums v));have PT4:=QA T4.out.2.2.2.2.1;have QT4:=QA T4.out.1)
  |(go_at_call 176;have dA:=DD.out.1;have dB:=DD.out.2.1;have dC:=DD.out.2.2.1;have dD:=DD.out.2.2.2;refine(Qpl lo g bs i2 1 4096 dA dB HB.out hi2 hl hlg _ PT2.out QT2.out (.ok (.string (strOfNums a),i3)) HV3.out).mono ?_;rintro ee w3 ⟨rfl,hI3,hB3⟩;have S3:=QA (T2.out.cur T2.out.lt hI3 hB3);obtain⟨⟨l,m,n,o⟩,f30,f31,f32,f33⟩:=S3.out.cells;have T3:=QA (S3.out.sa (strOfNums a));have PT3:=QA T3.out.2.2.2.2.1;have QT3:=QA T3.out.1;obtain⟨⟨t0,t1,t2,t3⟩,_⟩:=T3.out.cells)
  |(go_at_call 175;refine(Qpi lo g bs (0+1) HB.out ⟨by omega,by omega⟩ hl hlg _ PT1.out QT1.out (.ok (.int .u64 q,i2)) HV2.out).mono ?_;rintro ee w2 ⟨rfl,hI2,hB2⟩;have S2:=QA (T1.out.cur T1.out.lt hI2 hB2);obtain⟨⟨r,s,t,u⟩,f20,f21,f22,f23⟩:=S2.out.cells;have T2:=QA (S2.out.sq q);have PT2:=QA T2.out.2.2.2.2.1;have QT2:=QA T2.out.1)
  |(go_at_call 173;refine(Qpg lo g bs 0 2 HY.out HB.out (Int.le_refl _) hl h0 hlg _ HS.out.2.2.2.2.1 HS.out.1).mono ?_;rintro ee w1 ⟨rfl,hI1,hB1⟩;have S1:=QA (HS.out.cur HS.out.lt hI1 hB1);obtain⟨⟨c10,x,y,z⟩,f10,f11,f12,f13⟩:=S1.out.cells;have T1:=QA (S1.out.sd false);have PT1:=QA T1.out.2.2.2.2.1;have QT1:=QA T1.out.1))
 exact⟨rfl,rfl,_,_,_,_,T4.out.cur T4.out.lt hI5 hB5⟩
theorem rec_ok2(rb lo g:Nat)(bs:List Int)(hb:CodecP.Bytes bs)(hl:bs.length≤140737488355328)(hlg:lo≤g)(w:World)(hS:RS w w rb lo g bs 0 false 0 (⟨#[]⟩:ByteArray) (⟨#[]⟩:ByteArray))(h0:(0:Int)<(bs.length:Int))(hy:(2:Int)=YteaocbonofboeaaGreatW.PrintWords.rd bs 0)(q i2:Int)(hv2:(Qph bs 10 0 (0+1) 0).map (fun p=>(Value.int .u64 p.1,p.2))=.ok (.int .u64 q,i2))(hi2:0≤i2∧i2≤(bs.length:Int))(a:List Int)(i3:Int)(hv3:(Qpk bs 1 4096 i2).map (fun p=>(Value.string (strOfNums p.1),p.2))=.ok (.string (strOfNums a),i3))(hi3:0≤i3∧i3≤(bs.length:Int))(v:List Int)(i4:Int)(hv4:(Qpk bs 0 1048576 i3).map (fun p=>(Value.string (strOfNums p.1),p.2))=.ok (.string (strOfNums v),i4))(hi4:0≤i4∧i4≤(bs.length:Int))(hle:(bs.length:Int)-i4≤0) :
  Calls Tryz.prog 172 #[.pointer (some ⟨g,0,none⟩),.pointer (some ⟨rb,0,none⟩)] w fun e W'=>e=.returned (.tuple #[])∧RS w W' rb lo g bs i4 false q (strOfNums a) (strOfNums v):=by
 have HS:=QA hS;have HB:=QA hb;have hu:=Tryz.underlying37;have dA:(0:Int)≤1∧(1:Int)≤4611686018427387904:=⟨by decide,by decide⟩;have dB:(0:Int)≤4096∧(4096:Int)≤4611686018427387904:=⟨by decide,by decide⟩;have dC:(0:Int)≤0∧(0:Int)≤4611686018427387904:=⟨by decide,by decide⟩;have dD:(0:Int)≤1048576∧(1048576:Int)≤4611686018427387904:=⟨by decide,by decide⟩;have DD:=QA (And.intro dA (And.intro dB (And.intro dC dD)));clear hS hb dA dB dC dD;have HY:=QA hy;clear hy;have HV2:=QA hv2;clear hv2;have HV3:=QA hv3;clear hv3;have HV4:=QA hv4;clear hv4
 go_enter Tryz.func172,Tryz.ntmps172
 go_wp2_with (first
  |(go_at_call 177;refine(Qor lo g bs i4 hi4 hl hle _ PT4.out QT4.out).mono ?_;rintro ee w5 ⟨rfl,hI5,hB5⟩)
  |(go_at_call 176;have dA:=DD.out.1;have dB:=DD.out.2.1;have dC:=DD.out.2.2.1;have dD:=DD.out.2.2.2;refine(Qpl lo g bs i3 0 1048576 dC dD HB.out hi3 hl hlg _ PT3.out QT3.out (.ok (.string (strOfNums v),i4)) HV4.out).mono ?_;rintro ee w4 ⟨rfl,hI4,hB4⟩;have S4:=QA (T3.out.cur T3.out.lt hI4 hB4);obtain⟨⟨b,c,d,h⟩,f40,f41,f42,f43⟩:=S4.out.cells;have T4:=QA (S4.out.sb (strOfNums v));have PT4:=QA T4.out.2.2.2.2.1;have QT4:=QA T4.out.1)
  |(go_at_call 176;have dA:=DD.out.1;have dB:=DD.out.2.1;have dC:=DD.out.2.2.1;have dD:=DD.out.2.2.2;refine(Qpl lo g bs i2 1 4096 dA dB HB.out hi2 hl hlg _ PT2.out QT2.out (.ok (.string (strOfNums a),i3)) HV3.out).mono ?_;rintro ee w3 ⟨rfl,hI3,hB3⟩;have S3:=QA (T2.out.cur T2.out.lt hI3 hB3);obtain⟨⟨j,k,l,m⟩,f30,f31,f32,f33⟩:=S3.out.cells;have T3:=QA (S3.out.sa (strOfNums a));have PT3:=QA T3.out.2.2.2.2.1;have QT3:=QA T3.out.1;obtain⟨⟨t0,t1,t2,t3⟩,_⟩:=T3.out.cells)
  |(go_at_call 175;refine(Qpi lo g bs (0+1) HB.out ⟨by omega,by omega⟩ hl hlg _ PT1.out QT1.out (.ok (.int .u64 q,i2)) HV2.out).mono ?_;rintro ee w2 ⟨rfl,hI2,hB2⟩;have S2:=QA (T1.out.cur T1.out.lt hI2 hB2);obtain⟨⟨n,o,r,s⟩,f20,f21,f22,f23⟩:=S2.out.cells;have T2:=QA (S2.out.sq q);have PT2:=QA T2.out.2.2.2.2.1;have QT2:=QA T2.out.1)
  |(go_at_call 173;refine(Qpg lo g bs 0 2 HY.out HB.out (Int.le_refl _) hl h0 hlg _ HS.out.2.2.2.2.1 HS.out.1).mono ?_;rintro ee w1 ⟨rfl,hI1,hB1⟩;have S1:=QA (HS.out.cur HS.out.lt hI1 hB1);obtain⟨⟨c10,t,u,x⟩,f10,f11,f12,f13⟩:=S1.out.cells;have T1:=QA (S1.out.sd false);have PT1:=QA T1.out.2.2.2.2.1;have QT1:=QA T1.out.1))
 go_end0
 exact⟨rfl,T4.out.cur T4.out.lt hI5 hB5⟩
theorem Qps(rb lo g:Nat)(bs:List Int)(hb:CodecP.Bytes bs)(hl:bs.length≤140737488355328)(hlg:lo≤g)(w:World)(hS:RS w w rb lo g bs 0 false 0 (⟨#[]⟩:ByteArray) (⟨#[]⟩:ByteArray))(h0:(0:Int)<(bs.length:Int))(hy:(3:Int)=YteaocbonofboeaaGreatW.PrintWords.rd bs 0)(er i2:Int)(hvf:(Qph bs 10 0 (0+1) 0).map (fun p=>(Value.int .u64 p.1,p.2))=.error (er,i2)) :
  Calls Tryz.prog 172 #[.pointer (some ⟨g,0,none⟩),.pointer (some ⟨rb,0,none⟩)] w fun e W'=>e=.panicked [Qlq g er]∧∃d q a b,RS w W' rb lo g bs i2 d q a b:=by
 have HS:=QA hS;have HB:=QA hb;have hu:=Tryz.underlying37;have dA:(0:Int)≤1∧(1:Int)≤4611686018427387904:=⟨by decide,by decide⟩;have dB:(0:Int)≤4096∧(4096:Int)≤4611686018427387904:=⟨by decide,by decide⟩;have dC:(0:Int)≤0∧(0:Int)≤4611686018427387904:=⟨by decide,by decide⟩;have dD:(0:Int)≤1048576∧(1048576:Int)≤4611686018427387904:=⟨by decide,by decide⟩;have DD:=QA (And.intro dA (And.intro dB (And.intro dC dD)));clear hS hb dA dB dC dD;have HY:=QA hy;clear hy;have HVF:=QA hvf;clear hvf
 go_enter Tryz.func172,Tryz.ntmps172
 go_wp2_with (first
  |(go_at_call 175;refine(Qpi lo g bs (0+1) HB.out ⟨by omega,by omega⟩ hl hlg _ PT1.out QT1.out (.error (er,i2)) HVF.out).mono ?_;rintro ee w2 ⟨rfl,hI2,hB2⟩)
  |(go_at_call 173;refine(Qpg lo g bs 0 3 HY.out HB.out (Int.le_refl _) hl h0 hlg _ HS.out.2.2.2.2.1 HS.out.1).mono ?_;rintro ee w1 ⟨rfl,hI1,hB1⟩;have S1:=QA (HS.out.cur HS.out.lt hI1 hB1);obtain⟨⟨c10,c,h,j⟩,f10,f11,f12,f13⟩:=S1.out.cells;have T1:=QA (S1.out.sd true);have PT1:=QA T1.out.2.2.2.2.1;have QT1:=QA T1.out.1))
 exact⟨rfl,rfl,_,_,_,_,T1.out.cur T1.out.lt hI2 hB2⟩
theorem Qpt(rb lo g:Nat)(bs:List Int)(hb:CodecP.Bytes bs)(hl:bs.length≤140737488355328)(hlg:lo≤g)(w:World)(hS:RS w w rb lo g bs 0 false 0 (⟨#[]⟩:ByteArray) (⟨#[]⟩:ByteArray))(h0:(0:Int)<(bs.length:Int))(hy:(3:Int)=YteaocbonofboeaaGreatW.PrintWords.rd bs 0)(q i2:Int)(hv2:(Qph bs 10 0 (0+1) 0).map (fun p=>(Value.int .u64 p.1,p.2))=.ok (.int .u64 q,i2))(hi2:0≤i2∧i2≤(bs.length:Int))(er i3:Int)(hvf:(Qpk bs 1 4096 i2).map (fun p=>(Value.string (strOfNums p.1),p.2))=.error (er,i3)) :
  Calls Tryz.prog 172 #[.pointer (some ⟨g,0,none⟩),.pointer (some ⟨rb,0,none⟩)] w fun e W'=>e=.panicked [Qlq g er]∧∃d q a b,RS w W' rb lo g bs i3 d q a b:=by
 have HS:=QA hS;have HB:=QA hb;have hu:=Tryz.underlying37;have dA:(0:Int)≤1∧(1:Int)≤4611686018427387904:=⟨by decide,by decide⟩;have dB:(0:Int)≤4096∧(4096:Int)≤4611686018427387904:=⟨by decide,by decide⟩;have dC:(0:Int)≤0∧(0:Int)≤4611686018427387904:=⟨by decide,by decide⟩;have dD:(0:Int)≤1048576∧(1048576:Int)≤4611686018427387904:=⟨by decide,by decide⟩;have DD:=QA (And.intro dA (And.intro dB (And.intro dC dD)));clear hS hb dA dB dC dD;have HY:=QA hy;clear hy;have HV2:=QA hv2;clear hv2;have HVF:=QA hvf;clear hvf
 go_enter Tryz.func172,Tryz.ntmps172
 go_wp2_with (first
  |(go_at_call 176;have dA:=DD.out.1;have dB:=DD.out.2.1;have dC:=DD.out.2.2.1;have dD:=DD.out.2.2.2;refine(Qpl lo g bs i2 1 4096 dA dB HB.out hi2 hl hlg _ PT2.out QT2.out (.error (er,i3)) HVF.out).mono ?_;rintro ee w3 ⟨rfl,hI3,hB3⟩)
  |(go_at_call 175;refine(Qpi lo g bs (0+1) HB.out ⟨by omega,by omega⟩ hl hlg _ PT1.out QT1.out (.ok (.int .u64 q,i2)) HV2.out).mono ?_;rintro ee w2 ⟨rfl,hI2,hB2⟩;have S2:=QA (T1.out.cur T1.out.lt hI2 hB2);obtain⟨⟨c,h,j,k⟩,f20,f21,f22,f23⟩:=S2.out.cells;have T2:=QA (S2.out.sq q);have PT2:=QA T2.out.2.2.2.2.1;have QT2:=QA T2.out.1)
  |(go_at_call 173;refine(Qpg lo g bs 0 3 HY.out HB.out (Int.le_refl _) hl h0 hlg _ HS.out.2.2.2.2.1 HS.out.1).mono ?_;rintro ee w1 ⟨rfl,hI1,hB1⟩;have S1:=QA (HS.out.cur HS.out.lt hI1 hB1);obtain⟨⟨c10,l,m,n⟩,f10,f11,f12,f13⟩:=S1.out.cells;have T1:=QA (S1.out.sd true);have PT1:=QA T1.out.2.2.2.2.1;have QT1:=QA T1.out.1))
 exact⟨rfl,rfl,_,_,_,_,T2.out.cur T2.out.lt hI3 hB3⟩
theorem Qpu(rb lo g:Nat)(bs:List Int)(hb:CodecP.Bytes bs)(hl:bs.length≤140737488355328)(hlg:lo≤g)(w:World)(hS:RS w w rb lo g bs 0 false 0 (⟨#[]⟩:ByteArray) (⟨#[]⟩:ByteArray))(h0:(0:Int)<(bs.length:Int))(hy:(3:Int)=YteaocbonofboeaaGreatW.PrintWords.rd bs 0)(q i2:Int)(hv2:(Qph bs 10 0 (0+1) 0).map (fun p=>(Value.int .u64 p.1,p.2))=.ok (.int .u64 q,i2))(hi2:0≤i2∧i2≤(bs.length:Int))(a:List Int)(i3:Int)(hv3:(Qpk bs 1 4096 i2).map (fun p=>(Value.string (strOfNums p.1),p.2))=.ok (.string (strOfNums a),i3))(hi3:0≤i3∧i3≤(bs.length:Int))(hlt:0<(bs.length:Int)-i3) :
  Calls Tryz.prog 172 #[.pointer (some ⟨g,0,none⟩),.pointer (some ⟨rb,0,none⟩)] w fun e W'=>e=.panicked [Qlq g 3]∧∃d q a b,RS w W' rb lo g bs i3 d q a b:=by
 have HS:=QA hS;have HB:=QA hb;have hu:=Tryz.underlying37;have dA:(0:Int)≤1∧(1:Int)≤4611686018427387904:=⟨by decide,by decide⟩;have dB:(0:Int)≤4096∧(4096:Int)≤4611686018427387904:=⟨by decide,by decide⟩;have dC:(0:Int)≤0∧(0:Int)≤4611686018427387904:=⟨by decide,by decide⟩;have dD:(0:Int)≤1048576∧(1048576:Int)≤4611686018427387904:=⟨by decide,by decide⟩;have DD:=QA (And.intro dA (And.intro dB (And.intro dC dD)));clear hS hb dA dB dC dD;have HY:=QA hy;clear hy;have HV2:=QA hv2;clear hv2;have HV3:=QA hv3;clear hv3
 go_enter Tryz.func172,Tryz.ntmps172
 go_wp2_with (first
  |(go_at_call 177;refine(Qos lo g bs i3 hi3 hl hlt _ PT3.out QT3.out).mono ?_;rintro ee w5 ⟨rfl,hI5,hB5⟩)
  |(go_at_call 176;have dA:=DD.out.1;have dB:=DD.out.2.1;have dC:=DD.out.2.2.1;have dD:=DD.out.2.2.2;refine(Qpl lo g bs i2 1 4096 dA dB HB.out hi2 hl hlg _ PT2.out QT2.out (.ok (.string (strOfNums a),i3)) HV3.out).mono ?_;rintro ee w3 ⟨rfl,hI3,hB3⟩;have S3:=QA (T2.out.cur T2.out.lt hI3 hB3);obtain⟨⟨c,h,j,k⟩,f30,f31,f32,f33⟩:=S3.out.cells;have T3:=QA (S3.out.sa (strOfNums a));have PT3:=QA T3.out.2.2.2.2.1;have QT3:=QA T3.out.1;obtain⟨⟨t0,t1,t2,t3⟩,_⟩:=T3.out.cells)
  |(go_at_call 175;refine(Qpi lo g bs (0+1) HB.out ⟨by omega,by omega⟩ hl hlg _ PT1.out QT1.out (.ok (.int .u64 q,i2)) HV2.out).mono ?_;rintro ee w2 ⟨rfl,hI2,hB2⟩;have S2:=QA (T1.out.cur T1.out.lt hI2 hB2);obtain⟨⟨l,m,n,o⟩,f20,f21,f22,f23⟩:=S2.out.cells;have T2:=QA (S2.out.sq q);have PT2:=QA T2.out.2.2.2.2.1;have QT2:=QA T2.out.1)
  |(go_at_call 173;refine(Qpg lo g bs 0 3 HY.out HB.out (Int.le_refl _) hl h0 hlg _ HS.out.2.2.2.2.1 HS.out.1).mono ?_;rintro ee w1 ⟨rfl,hI1,hB1⟩;have S1:=QA (HS.out.cur HS.out.lt hI1 hB1);obtain⟨⟨c10,r,s,t⟩,f10,f11,f12,f13⟩:=S1.out.cells;have T1:=QA (S1.out.sd true);have PT1:=QA T1.out.2.2.2.2.1;have QT1:=QA T1.out.1))
 exact⟨rfl,rfl,_,_,_,_,T3.out.cur T3.out.lt hI5 hB5⟩
theorem rec_ok3(rb lo g:Nat)(bs:List Int)(hb:CodecP.Bytes bs)(hl:bs.length≤140737488355328)(hlg:lo≤g)(w:World)(hS:RS w w rb lo g bs 0 false 0 (⟨#[]⟩:ByteArray) (⟨#[]⟩:ByteArray))(h0:(0:Int)<(bs.length:Int))(hy:(3:Int)=YteaocbonofboeaaGreatW.PrintWords.rd bs 0)(q i2:Int)(hv2:(Qph bs 10 0 (0+1) 0).map (fun p=>(Value.int .u64 p.1,p.2))=.ok (.int .u64 q,i2))(hi2:0≤i2∧i2≤(bs.length:Int))(a:List Int)(i3:Int)(hv3:(Qpk bs 1 4096 i2).map (fun p=>(Value.string (strOfNums p.1),p.2))=.ok (.string (strOfNums a),i3))(hi3:0≤i3∧i3≤(bs.length:Int))(hle:(bs.length:Int)-i3≤0) :
  Calls Tryz.prog 172 #[.pointer (some ⟨g,0,none⟩),.pointer (some ⟨rb,0,none⟩)] w fun e W'=>e=.returned (.tuple #[])∧RS w W' rb lo g bs i3 true q (strOfNums a) (⟨#[]⟩:ByteArray):=by
 have HS:=QA hS;have HB:=QA hb;have hu:=Tryz.underlying37;have dA:(0:Int)≤1∧(1:Int)≤4611686018427387904:=⟨by decide,by decide⟩;have dB:(0:Int)≤4096∧(4096:Int)≤4611686018427387904:=⟨by decide,by decide⟩;have dC:(0:Int)≤0∧(0:Int)≤4611686018427387904:=⟨by decide,by decide⟩;have dD:(0:Int)≤1048576∧(1048576:Int)≤4611686018427387904:=⟨by decide,by decide⟩;have DD:=QA (And.intro dA (And.intro dB (And.intro dC dD)));clear hS hb dA dB dC dD;have HY:=QA hy;clear hy;have HV2:=QA hv2;clear hv2;have HV3:=QA hv3;clear hv3
 go_enter Tryz.func172,Tryz.ntmps172
 go_wp2_with (first
  |(go_at_call 177;refine(Qor lo g bs i3 hi3 hl hle _ PT3.out QT3.out).mono ?_;rintro ee w5 ⟨rfl,hI5,hB5⟩)
  |(go_at_call 176;have dA:=DD.out.1;have dB:=DD.out.2.1;have dC:=DD.out.2.2.1;have dD:=DD.out.2.2.2;refine(Qpl lo g bs i2 1 4096 dA dB HB.out hi2 hl hlg _ PT2.out QT2.out (.ok (.string (strOfNums a),i3)) HV3.out).mono ?_;rintro ee w3 ⟨rfl,hI3,hB3⟩;have S3:=QA (T2.out.cur T2.out.lt hI3 hB3);obtain⟨⟨b,c,d,h⟩,f30,f31,f32,f33⟩:=S3.out.cells;have T3:=QA (S3.out.sa (strOfNums a));have PT3:=QA T3.out.2.2.2.2.1;have QT3:=QA T3.out.1;obtain⟨⟨t0,t1,t2,t3⟩,_⟩:=T3.out.cells)
  |(go_at_call 175;refine(Qpi lo g bs (0+1) HB.out ⟨by omega,by omega⟩ hl hlg _ PT1.out QT1.out (.ok (.int .u64 q,i2)) HV2.out).mono ?_;rintro ee w2 ⟨rfl,hI2,hB2⟩;have S2:=QA (T1.out.cur T1.out.lt hI2 hB2);obtain⟨⟨j,k,l,m⟩,f20,f21,f22,f23⟩:=S2.out.cells;have T2:=QA (S2.out.sq q);have PT2:=QA T2.out.2.2.2.2.1;have QT2:=QA T2.out.1)
  |(go_at_call 173;refine(Qpg lo g bs 0 3 HY.out HB.out (Int.le_refl _) hl h0 hlg _ HS.out.2.2.2.2.1 HS.out.1).mono ?_;rintro ee w1 ⟨rfl,hI1,hB1⟩;have S1:=QA (HS.out.cur HS.out.lt hI1 hB1);obtain⟨⟨c10,n,o,r⟩,f10,f11,f12,f13⟩:=S1.out.cells;have T1:=QA (S1.out.sd true);have PT1:=QA T1.out.2.2.2.2.1;have QT1:=QA T1.out.1))
 go_end0
 exact⟨rfl,T3.out.cur T3.out.lt hI5 hB5⟩
def recL (bs:List Int):Except (Int × Int) ((Bool × Int × ByteArray × ByteArray) × Int) :=
 if (0:Int)<(bs.length:Int)then
  if YteaocbonofboeaaGreatW.PrintWords.rd bs 0≠2∧YteaocbonofboeaaGreatW.PrintWords.rd bs 0≠3 then .error (4,0+1)
  else match Qph bs 10 0 (0+1) 0 with
   | .error p=>.error p
   | .ok (q,i2)=>match Qpk bs 1 4096 i2 with
    | .error p=>.error p
    | .ok (a,i3) =>
     if YteaocbonofboeaaGreatW.PrintWords.rd bs 0=3 then(if 0<(bs.length:Int)-i3 then .error (3,i3)else .ok ((true,q,strOfNums a,(⟨#[]⟩:ByteArray)),i3))
     else match Qpk bs 0 1048576 i3 with
      | .error p=>.error p
      | .ok (v,i4)=>if 0<(bs.length:Int)-i4 then .error (3,i4)else .ok ((false,q,strOfNums a,strOfNums v),i4)
 else .error (2,0)
theorem Qpv{bs:List Int}{least most i:Int}(h0:0≤i)(h1:i≤(bs.length:Int)){xs:List Int}{i2:Int}(h:Qpk bs least most i=.ok (xs,i2)):0≤i2∧i2≤(bs.length:Int):=by
 have hr:=Qpj bs 10 0 i 0 h0 h1 (by decide) (by decide);unfold Qpk at h
 cases hv:Qph bs 10 0 i 0 with
 | error p=>rw[hv]at h;cases h
 | ok p =>
  obtain⟨n,i1⟩:=p;rw[hv]at h hr;dsimp only at h hr;split at h
  ·cases h
  ·split at h
   ·cases h
   ·split at h
    ·cases h;omega
    ·cases h
theorem rec_all (rb lo g:Nat) (bs:List Int) (hb:CodecP.Bytes bs) (hl:bs.length≤140737488355328) (hlg:lo≤g) (w:World) (hS:RS w w rb lo g bs 0 false 0 (⟨#[]⟩:ByteArray) (⟨#[]⟩:ByteArray)) :
  Calls Tryz.prog 172 #[.pointer (some ⟨g,0,none⟩),.pointer (some ⟨rb,0,none⟩)] w fun e W' =>
   match recL bs with
   | .ok ((d,q,a,b),i)=>e=.returned (.tuple #[])∧RS w W' rb lo g bs i d q a b
   | .error (er,i)=>e=.panicked [Qlq g er]∧∃d q a b,RS w W' rb lo g bs i d q a b:=by
 unfold recL
 by_cases h0:(0:Int)<(bs.length:Int)
 ·rw [if_pos h0]
  by_cases hk:YteaocbonofboeaaGreatW.PrintWords.rd bs 0≠2∧YteaocbonofboeaaGreatW.PrintWords.rd bs 0≠3
  ·rw[if_pos hk];exact Qpn rb lo g bs hb hl hlg w hS h0 _ rfl hk.1 hk.2
  ·rw [if_neg hk];have hg:=Qpj bs 10 0 (0+1) 0 (by omega) (by omega) (by decide) (by decide);have hcase:(2:Int)=YteaocbonofboeaaGreatW.PrintWords.rd bs 0∨(3:Int)=YteaocbonofboeaaGreatW.PrintWords.rd bs 0:=by omega
   cases hv:Qph bs 10 0 (0+1) 0 with
   | error p =>
    obtain⟨er,i2⟩:=p
    rcases hcase with hy|hy
    ·exact Qpo rb lo g bs hb hl hlg w hS h0 hy er i2 (by rw[hv];rfl)
    ·exact Qps rb lo g bs hb hl hlg w hS h0 hy er i2 (by rw[hv];rfl)
   | ok p =>
    obtain⟨q,i2⟩:=p;rw[hv]at hg;have hi2:0≤i2∧i2≤(bs.length:Int):=⟨by have:=hg.2.2.1;omega,hg.2.2.2⟩;have hv2:(Qph bs 10 0 (0+1) 0).map (fun p=>(Value.int .u64 p.1,p.2))=.ok (.int .u64 q,i2):=by rw[hv];rfl
    dsimp only
    cases ht:Qpk bs 1 4096 i2 with
    | error p =>
     obtain⟨er,i3⟩:=p
     rcases hcase with hy|hy
     ·exact Qpp rb lo g bs hb hl hlg w hS h0 hy q i2 hv2 hi2 er i3 (by rw[ht];rfl)
     ·exact Qpt rb lo g bs hb hl hlg w hS h0 hy q i2 hv2 hi2 er i3 (by rw[ht];rfl)
    | ok p =>
     obtain⟨a,i3⟩:=p;have hi3:=Qpv hi2.1 hi2.2 ht;have hv3:(Qpk bs 1 4096 i2).map (fun p=>(Value.string (strOfNums p.1),p.2))=.ok (.string (strOfNums a),i3):=by rw[ht];rfl
     dsimp only
     rcases hcase with hy|hy
     ·rw[if_neg (by omega)]
      cases hu:Qpk bs 0 1048576 i3 with
      | error p =>
       obtain⟨er,i4⟩:=p;exact Qpq rb lo g bs hb hl hlg w hS h0 hy q i2 hv2 hi2 a i3 hv3 hi3 er i4 (by rw[hu];rfl)
      | ok p =>
       obtain⟨v,i4⟩:=p;have hi4:=Qpv hi3.1 hi3.2 hu;have hv4:(Qpk bs 0 1048576 i3).map (fun p=>(Value.string (strOfNums p.1),p.2))=.ok (.string (strOfNums v),i4):=by rw[hu];rfl
       dsimp only
       by_cases hlt:0<(bs.length:Int)-i4
       ·rw[if_pos hlt];exact Qpr rb lo g bs hb hl hlg w hS h0 hy q i2 hv2 hi2 a i3 hv3 hi3 v i4 hv4 hi4 hlt
       ·rw[if_neg hlt];exact rec_ok2 rb lo g bs hb hl hlg w hS h0 hy q i2 hv2 hi2 a i3 hv3 hi3 v i4 hv4 hi4 (by omega)
     ·rw[if_pos hy.symm]
      by_cases hlt:0<(bs.length:Int)-i3
      ·rw[if_pos hlt];exact Qpu rb lo g bs hb hl hlg w hS h0 hy q i2 hv2 hi2 a i3 hv3 hi3 hlt
      ·rw[if_neg hlt];exact rec_ok3 rb lo g bs hb hl hlg w hS h0 hy q i2 hv2 hi2 a i3 hv3 hi3 (by omega)
 ·rw[if_neg h0];exact Qpm rb lo g bs hb hl hlg w hS h0
end Go.Proofs.YteaocbonofboeaaGreat.C
end
