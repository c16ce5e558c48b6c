/- Merged texts. -/
import Derived.Test.YtepkfjmjidjedaaGreatMA02
import Derived.WalkLawsBesides
import Derived.Recover
import Derived.Defers
import Derived.Test.YtepkfjmjidjedaaGreatMA13
import Derived.Test.YtepkfjmjidjedaaGreatMA05
import Derived.Test.YtepkfjmjidjedaaGreatMA03
import Derived.Test.YtepkfjmjidjedaaGreatMA06
import Derived.Test.YtepkfjmjidjedaaGreatMA07
import Derived.Test.YtepkfjmjidjedaaGreatMA15
import Derived.Test.YtepkfjmjidjedaaGreatMA11
import Derived.Test.YtepkfjmjidjedaaGreatMA12
set_option linter.unusedVariables false
set_option linter.unusedSimpArgs false
set_option maxHeartbeats 8000000
set_option maxRecDepth 100000
section
namespace Go.Proofs.YtepkfjmjidjedaaGreat.C
open Go.RowKit Go.Proofs.YtepkfjmjidjedaaGreatW.PrintWords Go.Proofs.YtepkfjmjidjedaaGreatW.PrintLast Go.Proofs.YtepkfjmjidjedaaGreatW.PrintMore
theorem IsCur.farT{W:World}{b g rb j:Nat}{bs:List Int}{i:Int}{u:Value}{cs:Array Value}{t:TypeId}(h:IsCur W b g bs i)(hr:W.heap[rb]? = some (.cells cs t (0,0)))(ht:t≠5∧t≠315):IsCur (W.setCell ⟨rb,j,none⟩ u) b g bs i:=by
 obtain⟨v,h1,h2⟩:=h;exact⟨v,Qdd h1 (p:=⟨rb,j,none⟩) (Qdi h1 hr (fun e=>ht.2 e.symm)) u,h2.set hr (fun e=>ht.1 e.symm) j u⟩
def FS(w W:World)(fb xb lo g:Nat)(bs:List Int)(i:Int)(u:Int)(tv fv:Value):Prop :=
 IsCur W lo g bs i∧W.heap[fb]? = some (.cells #[.int .u32 u,tv] 169 (0,0))∧W.heap[xb]? = some (.cells #[fv] 56 (0,0))∧Below fb w W∧Tl lo g w W∧lo≤W.heap.size∧fb<xb∧xb<lo
section
variable {w W W':World} {fb xb lo g:Nat} {bs:List Int} {i j u:Int} {tv fv:Value}
theorem FS.le(h:FS w W fb xb lo g bs i u tv fv):lo≤W.heap.size:=h.2.2.2.2.2.1
theorem FS.cur(h:FS w W fb xb lo g bs i u tv fv)(hI:IsCur W' lo g bs j)(hb:Bw lo g W W'):FS w W' fb xb lo g bs j u tv fv:=by
 obtain⟨h1,h2,h3,h4,h5,h6,h7,h8⟩:=h;exact⟨hI,(hb.1.block fb (by omega)).trans h2,(hb.1.block xb h8).trans h3,h4.trans (Qis hb.1 (by omega)),fun k cs t q1 q2 q3 q4=>hb.2 _ _ _ (h5 _ _ _ q1 q2 q3 q4) q3 q4,Nat.le_trans h6 hb.size,h7,h8⟩
theorem FS.tl(h:FS w W fb xb lo g bs i u tv fv)(b n:Nat)(hb:b<lo)(x:Value):Tl lo g w (W.setCell ⟨b,n,none⟩ x):=fun k cs t h1 h2 h3 h4=>Qdd (h.2.2.2.2.1 _ _ _ h1 h2 h3 h4) (p:=⟨b,n,none⟩) (by show k≠b;omega) x
theorem FS.size(h:FS w W fb xb lo g bs i u tv fv)(b n:Nat)(x:Value):lo≤(W.setCell ⟨b,n,none⟩ x).heap.size:=by simpa [World.setCell]using h.le
theorem FS.su(h:FS w W fb xb lo g bs i u tv fv)(x:Int):FS w (W.setCell ⟨fb,0,none⟩ (.int .u32 x)) fb xb lo g bs i x tv fv :=
 ⟨h.1.farT h.2.1 (by decide),Qdc h.2.1 0 _,Qdd h.2.2.1 (p:=⟨fb,0,none⟩) (by have:=h.2.2.2.2.2.2.1;show xb≠fb;omega) _,Qir h.2.2.2.1 (Nat.le_refl _),h.tl fb 0 (by have:=h.2.2.2.2.2.2;omega) _,h.size _ _ _,h.2.2.2.2.2.2⟩
theorem FS.st(h:FS w W fb xb lo g bs i u tv fv)(x:Value):FS w (W.setCell ⟨fb,1,none⟩ x) fb xb lo g bs i u x fv :=
 ⟨h.1.farT h.2.1 (by decide),Qdc h.2.1 1 _,Qdd h.2.2.1 (p:=⟨fb,1,none⟩) (by have:=h.2.2.2.2.2.2.1;show xb≠fb;omega) _,Qir h.2.2.2.1 (Nat.le_refl _),h.tl fb 1 (by have:=h.2.2.2.2.2.2;omega) _,h.size _ _ _,h.2.2.2.2.2.2⟩
theorem FS.sf(h:FS w W fb xb lo g bs i u tv fv)(x:Value):FS w (W.setCell ⟨xb,0,none⟩ x) fb xb lo g bs i u tv x :=
 ⟨h.1.farT h.2.2.1 (by decide),Qdd h.2.1 (p:=⟨xb,0,none⟩) (by have:=h.2.2.2.2.2.2.1;show fb≠xb;omega) _,Qdc h.2.2.1 0 _,Qir h.2.2.2.1 (by have:=h.2.2.2.2.2.2.1;show fb≤xb;omega),h.tl xb 0 h.2.2.2.2.2.2.2 _,h.size _ _ _,h.2.2.2.2.2.2⟩
theorem FS.cells(h:FS w W fb xb lo g bs i u tv fv):(W.cell? ⟨fb,0,none⟩=some (.int .u32 u)∧W.cell? ⟨fb,1,none⟩=some tv∧W.cell? ⟨xb,0,none⟩=some fv)∧W.frozen? ⟨fb,0,none⟩=false∧W.frozen? ⟨fb,1,none⟩=false∧W.frozen? ⟨xb,0,none⟩=false :=
 ⟨⟨(Qdf h.2.1 0).trans rfl,(Qdf h.2.1 1).trans rfl,(Qdf h.2.2.1 0).trans rfl⟩,Qdg h.2.1 0,Qdg h.2.1 1,Qdg h.2.2.1 0⟩
end
theorem Qrt(n:Nat)(h:n≤4611686018427387903):Qbb.f (n:Int)=some (((n+15)/16:Nat):Int):=by
 have e:mx 0 (n:Int)=(n:Int):=by unfold mx;split<;>omega
 unfold Qbb.f;rw[e];have e1:wrap64 ((n:Int)+16)=(n:Int)+16:=by unfold wrap64;omega
 have e2:wrap64 ((n:Int)+16-1)=((n+15:Nat):Int):=by unfold wrap64;omega
 have e3:Int.tdiv ((n+15:Nat):Int) 16=(((n+15)/16:Nat):Int):=rfl;rw[e1,e2,e3]
 congr 1
 unfold wrap64;omega
theorem fg_none(k fb xb lo g:Nat)(bs:List Int)(hb:CodecP.Bytes bs)(hl:bs.length≤100000000000)(hlg:lo≤g)(w:World)(hS:FS w w fb xb lo g bs 0 0 (.slice none 0 0) (.slice none 0 0))(h1:¬1≤bs.length) :
  Calls Tryz.prog 236 #[.pointer (some ⟨g,0,none⟩),.pointer (some ⟨fb,0,none⟩),.pointer (some ⟨xb,0,none⟩)] w fun e W'=>∃er,er≠0∧e=.panicked [Qlq g er]∧∃i u tv fv,FS w W' fb xb lo g bs i u tv fv:=by
 have HS:=QA hS;have HB:=QA hb;have hl2:bs.length≤140737488355328:=by omega
 have hft:=Tryz.underlying169;clear hS hb
 go_enter Tryz.func236,Tryz.ntmps236
 go_wp2_with (first
  |(go_at_call 232;refine(Qpo lo g bs 0 ⟨Int.le_refl _,by omega⟩ hl2 (by omega) _ HS.out.le HS.out.1).mono ?_;rintro ee w1 ⟨rfl,hI1,hB1⟩))
 exact⟨rfl,2,by decide,rfl,_,_,_,_,HS.out.cur hI1 hB1⟩
theorem fg_kind(k fb xb lo g:Nat)(bs:List Int)(hb:CodecP.Bytes bs)(hl:bs.length≤100000000000)(hlg:lo≤g)(w:World)(hS:FS w w fb xb lo g bs 0 0 (.slice none 0 0) (.slice none 0 0))(h1:1≤bs.length)(y:Int)(hy:y=YtepkfjmjidjedaaGreatW.PrintWords.rd bs 0)(h4:y≠4) :
  Calls Tryz.prog 236 #[.pointer (some ⟨g,0,none⟩),.pointer (some ⟨fb,0,none⟩),.pointer (some ⟨xb,0,none⟩)] w fun e W'=>∃er,er≠0∧e=.panicked [Qlq g er]∧∃i u tv fv,FS w W' fb xb lo g bs i u tv fv:=by
 have HS:=QA hS;have HB:=QA hb;have hl2:bs.length≤140737488355328:=by omega
 have hft:=Tryz.underlying169;have HY:=QA hy;have h4b:(y != 4)=true:=bne_iff_ne.2 h4;clear hS hb hy
 go_enter Tryz.func236,Tryz.ntmps236
 go_wp2_with (first
  |(go_at_call 220;refine(Qls lo g bs 1 4 (by decide) _ S1.out.1).mono ?_;rintro ee w9 ⟨rfl,rfl⟩)
  |(go_at_call 232;refine(Qqg lo g bs 0 y HY.out HB.out (Int.le_refl _) hl2 (by omega) hlg _ HS.out.le HS.out.1).mono ?_;rintro ee w1 ⟨rfl,hI1,hB1⟩;have S1:=QA (HS.out.cur (j:=1) hI1 hB1);clear hI1 hB1))
 exact⟨rfl,4,by decide,rfl,_,_,_,_,S1.out⟩
theorem fg_n(k fb xb lo g:Nat)(bs:List Int)(hb:CodecP.Bytes bs)(hl:bs.length≤100000000000)(hlg:lo≤g)(w:World)(hS:FS w w fb xb lo g bs 0 0 (.slice none 0 0) (.slice none 0 0))(h1:1≤bs.length)(y:Int)(hy:y=YtepkfjmjidjedaaGreatW.PrintWords.rd bs 0)(h4:y=4)(h2:¬5≤bs.length) :
  Calls Tryz.prog 236 #[.pointer (some ⟨g,0,none⟩),.pointer (some ⟨fb,0,none⟩),.pointer (some ⟨xb,0,none⟩)] w fun e W'=>∃er,er≠0∧e=.panicked [Qlq g er]∧∃i u tv fv,FS w W' fb xb lo g bs i u tv fv:=by
 have HS:=QA hS;have HB:=QA hb;have hl2:bs.length≤140737488355328:=by omega
 have hft:=Tryz.underlying169;have HY:=QA hy;have h4b:(y != 4)=false:=bne_eq_false_iff_eq.2 h4;clear hS hb hy
 go_enter Tryz.func236,Tryz.ntmps236
 go_wp2_with (first
  |(go_at_call 221;refine(Qri lo g bs 1 ⟨by decide,by omega⟩ hl2 (by omega) _ S1.out.le S1.out.1).mono ?_;rintro ee w2 ⟨rfl,hI2,hB2⟩)
  |(go_at_call 232;refine(Qqg lo g bs 0 y HY.out HB.out (Int.le_refl _) hl2 (by omega) hlg _ HS.out.le HS.out.1).mono ?_;rintro ee w1 ⟨rfl,hI1,hB1⟩;have S1:=QA (HS.out.cur (j:=1) hI1 hB1);clear hI1 hB1))
 exact⟨rfl,2,by decide,rfl,_,_,_,_,S1.out.cur hI2 hB2⟩
theorem fg_big(k fb xb lo g:Nat)(bs:List Int)(hb:CodecP.Bytes bs)(hl:bs.length≤100000000000)(hlg:lo≤g)(w:World)(hS:FS w w fb xb lo g bs 0 0 (.slice none 0 0) (.slice none 0 0))(h1:1≤bs.length)(y:Int)(hy:y=YtepkfjmjidjedaaGreatW.PrintWords.rd bs 0)(h4:y=4)(h2:5≤bs.length)(n:Nat)(hn:(n:Int)=CodecP.leI ((bs.drop 1).take 4))(a:¬n≤1048576) :
  Calls Tryz.prog 236 #[.pointer (some ⟨g,0,none⟩),.pointer (some ⟨fb,0,none⟩),.pointer (some ⟨xb,0,none⟩)] w fun e W'=>∃er,er≠0∧e=.panicked [Qlq g er]∧∃i u tv fv,FS w W' fb xb lo g bs i u tv fv:=by
 have HS:=QA hS;have HB:=QA hb;have hl2:bs.length≤140737488355328:=by omega
 have hft:=Tryz.underlying169;have HY:=QA hy;have b:(y != 4)=false:=bne_eq_false_iff_eq.2 h4;obtain⟨N,hN⟩:∃N:Int,N=(n:Int):=⟨_,rfl⟩;have HNN:=QA hN;have HN:Aside0 (N=CodecP.leI ((bs.drop (1:Int).toNat).take 4)):=⟨by rw[hN];exact hn⟩;have hnb:decide (1048576<N)=true:=decide_eq_true (by omega);clear hS hb hy hn hN
 go_enter Tryz.func236,Tryz.ntmps236
 go_wp2_with (first
  |(go_at_call 220;refine(Qls lo g bs 5 3 (by decide) _ S2.out.1).mono ?_;rintro ee w9 ⟨rfl,rfl⟩)
  |(go_at_call 221;refine(Qrh lo g bs 1 N HN.out HB.out (by decide) hl2 (by omega) hlg _ S1.out.le S1.out.1).mono ?_;rintro ee w2 ⟨rfl,hI2,hB2⟩;have S2:=QA (S1.out.cur (j:=5) hI2 hB2);clear hI2 hB2)
  |(go_at_call 232;refine(Qqg lo g bs 0 y HY.out HB.out (Int.le_refl _) hl2 (by omega) hlg _ HS.out.le HS.out.1).mono ?_;rintro ee w1 ⟨rfl,hI1,hB1⟩;have S1:=QA (HS.out.cur (j:=1) hI1 hB1);clear hI1 hB1))
 exact⟨rfl,3,by decide,rfl,_,_,_,_,S2.out⟩
theorem fg_u(k fb xb lo g:Nat)(bs:List Int)(hb:CodecP.Bytes bs)(hl:bs.length≤100000000000)(hlg:lo≤g)(w:World)(hS:FS w w fb xb lo g bs 0 0 (.slice none 0 0) (.slice none 0 0))(h1:1≤bs.length)(y:Int)(hy:y=YtepkfjmjidjedaaGreatW.PrintWords.rd bs 0)(h4:y=4)(h2:5≤bs.length)(n:Nat)(hn:(n:Int)=CodecP.leI ((bs.drop 1).take 4))(a:n≤1048576)(h3:¬9≤bs.length) :
  Calls Tryz.prog 236 #[.pointer (some ⟨g,0,none⟩),.pointer (some ⟨fb,0,none⟩),.pointer (some ⟨xb,0,none⟩)] w fun e W'=>∃er,er≠0∧e=.panicked [Qlq g er]∧∃i u tv fv,FS w W' fb xb lo g bs i u tv fv:=by
 have HS:=QA hS;have HB:=QA hb;have hl2:bs.length≤140737488355328:=by omega
 have hft:=Tryz.underlying169;have HY:=QA hy;have b:(y != 4)=false:=bne_eq_false_iff_eq.2 h4;obtain⟨N,hN⟩:∃N:Int,N=(n:Int):=⟨_,rfl⟩;have HNN:=QA hN;have HN:Aside0 (N=CodecP.leI ((bs.drop (1:Int).toNat).take 4)):=⟨by rw[hN];exact hn⟩;have hnb:decide (1048576<N)=false:=decide_eq_false (by omega);have hnw:IntKind.i64.wrap N=N:=IntWalk.i64_in _ (by omega);clear hS hb hy hn hN
 go_enter Tryz.func236,Tryz.ntmps236
 go_wp2_with (first
  |(go_at_call 221;refine(Qri lo g bs 5 ⟨by decide,by omega⟩ hl2 (by omega) _ S2.out.le S2.out.1).mono ?_;rintro ee w3 ⟨rfl,hI3,hB3⟩)
  |(go_at_call 221;refine(Qrh lo g bs 1 N HN.out HB.out (by decide) hl2 (by omega) hlg _ S1.out.le S1.out.1).mono ?_;rintro ee w2 ⟨rfl,hI2,hB2⟩;have S2:=QA (S1.out.cur (j:=5) hI2 hB2);clear hI2 hB2)
  |(go_at_call 232;refine(Qqg lo g bs 0 y HY.out HB.out (Int.le_refl _) hl2 (by omega) hlg _ HS.out.le HS.out.1).mono ?_;rintro ee w1 ⟨rfl,hI1,hB1⟩;have S1:=QA (HS.out.cur (j:=1) hI1 hB1);clear hI1 hB1))
 exact⟨rfl,2,by decide,rfl,_,_,_,_,S2.out.cur hI3 hB3⟩
theorem fg_tab(k fb xb lo g:Nat)(bs:List Int)(hb:CodecP.Bytes bs)(hl:bs.length≤100000000000)(hlg:lo≤g)(w:World)(hS:FS w w fb xb lo g bs 0 0 (.slice none 0 0) (.slice none 0 0))(h1:1≤bs.length)(y:Int)(hy:y=YtepkfjmjidjedaaGreatW.PrintWords.rd bs 0)(h4:y=4)(h2:5≤bs.length)(n:Nat)(hn:(n:Int)=CodecP.leI ((bs.drop 1).take 4))(a:n≤1048576)(h3:9≤bs.length)(u:Int)(hu:u=CodecP.leI ((bs.drop 5).take 4))(h5:¬9+12*n≤bs.length) :
  Calls Tryz.prog 236 #[.pointer (some ⟨g,0,none⟩),.pointer (some ⟨fb,0,none⟩),.pointer (some ⟨xb,0,none⟩)] w fun e W'=>∃er,er≠0∧e=.panicked [Qlq g er]∧∃i u tv fv,FS w W' fb xb lo g bs i u tv fv:=by
 have HS:=QA hS;have HB:=QA hb;have hl2:bs.length≤140737488355328:=by omega
 have hft:=Tryz.underlying169;have HY:=QA hy;have b:(y != 4)=false:=bne_eq_false_iff_eq.2 h4;obtain⟨N,hN⟩:∃N:Int,N=(n:Int):=⟨_,rfl⟩;have HNN:=QA hN;have HN:Aside0 (N=CodecP.leI ((bs.drop (1:Int).toNat).take 4)):=⟨by rw[hN];exact hn⟩;have hnb:decide (1048576<N)=false:=decide_eq_false (by omega);have hnw:IntKind.i64.wrap N=N:=IntWalk.i64_in _ (by omega);have HU:Aside0 (u=CodecP.leI ((bs.drop (5:Int).toNat).take 4)):=⟨hu⟩;have HH5:=QA h5;clear hS hb hy hn hu hN
 go_enter Tryz.func236,Tryz.ntmps236
 go_wp2_with (first
  |(go_at_call 237;refine(Qrr lo g bs 9 N ⟨by decide,by omega⟩ hl2 (by have:=HNN.out;omega) (by have:=HNN.out;have:=HH5.out;omega) _ T3.out.le T3.out.1).mono ?_;rintro ee w4 ⟨rfl,hI4,hB4⟩)
  |(go_at_call 221;refine(Qrh lo g bs 5 u HU.out HB.out (by decide) hl2 (by omega) hlg _ S2.out.le S2.out.1).mono ?_;rintro ee w3 ⟨rfl,hI3,hB3⟩;have S3:=QA (S2.out.cur (j:=9) hI3 hB3);obtain⟨⟨c,d,h⟩,f30,f31,f32⟩:=S3.out.cells;have T3:=QA (S3.out.su u);clear hI3 hB3)
  |(go_at_call 221;refine(Qrh lo g bs 1 N HN.out HB.out (by decide) hl2 (by omega) hlg _ S1.out.le S1.out.1).mono ?_;rintro ee w2 ⟨rfl,hI2,hB2⟩;have S2:=QA (S1.out.cur (j:=5) hI2 hB2);clear hI2 hB2)
  |(go_at_call 232;refine(Qqg lo g bs 0 y HY.out HB.out (Int.le_refl _) hl2 (by omega) hlg _ HS.out.le HS.out.1).mono ?_;rintro ee w1 ⟨rfl,hI1,hB1⟩;have S1:=QA (HS.out.cur (j:=1) hI1 hB1);clear hI1 hB1))
 exact⟨rfl,2,by decide,rfl,_,_,_,_,T3.out.cur hI4 hB4⟩
theorem fg_ris(k fb xb lo g:Nat)(bs:List Int)(hb:CodecP.Bytes bs)(hl:bs.length≤100000000000)(hlg:lo≤g)(w:World)(hS:FS w w fb xb lo g bs 0 0 (.slice none 0 0) (.slice none 0 0))(h1:1≤bs.length)(y:Int)(hy:y=YtepkfjmjidjedaaGreatW.PrintWords.rd bs 0)(h4:y=4)(h2:5≤bs.length)(n:Nat)(hn:(n:Int)=CodecP.leI ((bs.drop 1).take 4))(a:n≤1048576)(h3:9≤bs.length)(u:Int)(hu:u=CodecP.leI ((bs.drop 5).take 4))(h5:9+12*n≤bs.length)(hr:Qcf.f k (Qro bs 9 n)=some false) :
  Calls Tryz.prog 236 #[.pointer (some ⟨g,0,none⟩),.pointer (some ⟨fb,0,none⟩),.pointer (some ⟨xb,0,none⟩)] w fun e W'=>∃er,er≠0∧e=.panicked [Qlq g er]∧∃i u tv fv,FS w W' fb xb lo g bs i u tv fv:=by
 have HS:=QA hS;have HB:=QA hb;have hl2:bs.length≤140737488355328:=by omega
 have hft:=Tryz.underlying169;have HY:=QA hy;have b:(y != 4)=false:=bne_eq_false_iff_eq.2 h4;obtain⟨N,hN⟩:∃N:Int,N=(n:Int):=⟨_,rfl⟩;have HNN:=QA hN;have HN:Aside0 (N=CodecP.leI ((bs.drop (1:Int).toNat).take 4)):=⟨by rw[hN];exact hn⟩;have hnb:decide (1048576<N)=false:=decide_eq_false (by omega);have hnw:IntKind.i64.wrap N=N:=IntWalk.i64_in _ (by omega);have HU:Aside0 (u=CodecP.leI ((bs.drop (5:Int).toNat).take 4)):=⟨hu⟩;have HH5:=QA h5;have HR:=QA hr;clear hS hb hy hn hu hr hN
 go_enter Tryz.func236,Tryz.ntmps236
 go_wp2_with (first
  |(go_at_call 237;refine(Qrs k lo g bs 9 n N HNN.out false HB.out hl HH5.out HR.out hlg _ T3.out.le T3.out.1).mono ?_;rintro ee w4 ⟨hI4,hB4,⟨hf,_⟩ |⟨_,rfl⟩⟩;(exact absurd hf (by decide)))
  |(go_at_call 221;refine(Qrh lo g bs 5 u HU.out HB.out (by decide) hl2 (by omega) hlg _ S2.out.le S2.out.1).mono ?_;rintro ee w3 ⟨rfl,hI3,hB3⟩;have S3:=QA (S2.out.cur (j:=9) hI3 hB3);obtain⟨⟨c,d,h⟩,f30,f31,f32⟩:=S3.out.cells;have T3:=QA (S3.out.su u);clear hI3 hB3)
  |(go_at_call 221;refine(Qrh lo g bs 1 N HN.out HB.out (by decide) hl2 (by omega) hlg _ S1.out.le S1.out.1).mono ?_;rintro ee w2 ⟨rfl,hI2,hB2⟩;have S2:=QA (S1.out.cur (j:=5) hI2 hB2);clear hI2 hB2)
  |(go_at_call 232;refine(Qqg lo g bs 0 y HY.out HB.out (Int.le_refl _) hl2 (by omega) hlg _ HS.out.le HS.out.1).mono ?_;rintro ee w1 ⟨rfl,hI1,hB1⟩;have S1:=QA (HS.out.cur (j:=1) hI1 hB1);clear hI1 hB1))
 exact⟨rfl,8,by decide,rfl,_,_,_,_,T3.out.cur hI4 hB4⟩
theorem fg_fen(k fb xb lo g:Nat)(bs:List Int)(hb:CodecP.Bytes bs)(hl:bs.length≤100000000000)(hlg:lo≤g)(w:World)(hS:FS w w fb xb lo g bs 0 0 (.slice none 0 0) (.slice none 0 0))(h1:1≤bs.length)(y:Int)(hy:y=YtepkfjmjidjedaaGreatW.PrintWords.rd bs 0)(h4:y=4)(h2:5≤bs.length)(n:Nat)(hn:(n:Int)=CodecP.leI ((bs.drop 1).take 4))(a:n≤1048576)(h3:9≤bs.length)(u:Int)(hu:u=CodecP.leI ((bs.drop 5).take 4))(h5:9+12*n≤bs.length)(hr:Qcf.f k (Qro bs 9 n)=some true)(m:Nat)(hm:m=(n+15)/16)(h6:¬9+12*n+8*m≤bs.length) :
  Calls Tryz.prog 236 #[.pointer (some ⟨g,0,none⟩),.pointer (some ⟨fb,0,none⟩),.pointer (some ⟨xb,0,none⟩)] w fun e W'=>∃er,er≠0∧e=.panicked [Qlq g er]∧∃i u tv fv,FS w W' fb xb lo g bs i u tv fv:=by
 have HS:=QA hS;have HB:=QA hb;have hl2:bs.length≤140737488355328:=by omega
 have hft:=Tryz.underlying169;have HY:=QA hy;have b:(y != 4)=false:=bne_eq_false_iff_eq.2 h4;obtain⟨N,hN⟩:∃N:Int,N=(n:Int):=⟨_,rfl⟩;have HNN:=QA hN;have HN:Aside0 (N=CodecP.leI ((bs.drop (1:Int).toNat).take 4)):=⟨by rw[hN];exact hn⟩;have hnb:decide (1048576<N)=false:=decide_eq_false (by omega);have hnw:IntKind.i64.wrap N=N:=IntWalk.i64_in _ (by omega);have HU:Aside0 (u=CodecP.leI ((bs.drop (5:Int).toNat).take 4)):=⟨hu⟩;have HH5:=QA h5;have HR:=QA hr;obtain⟨M,hM⟩:∃M:Int,M=(m:Int):=⟨_,rfl⟩;have HM:=QA hM;have HC:Aside0 (Qbb.f N=some M):=⟨by rw[hM,hm,hN];exact Qrt n (by omega)⟩;have HH6:=QA h6;clear hS hb hy hn hu hr hm hM hN
 go_enter Tryz.func236,Tryz.ntmps236
 go_wp2_with (first
  |(go_at_call 238;refine(Qrm lo g bs ((9+12*n:Nat):Int) M ⟨by omega,by have:=HH5.out;omega⟩ hl2 (by have:=HM.out;omega) (by have:=HM.out;have:=HH5.out;have:=HH6.out;omega) _ T4B.out.le T4B.out.1).mono ?_;rintro ee w5 ⟨rfl,hI5,hB5⟩)
  |(go_at_call 239;refine(Qbb.calls N M _ HC.out).mono ?_;rintro ee c ⟨rfl,hb4b⟩;have T4B:=QA (T4.out.cur (T4.out.1.kept hb4b) (Bw.below hb4b T4.out.le));have R4B:=QA (Kd.R_below R4.out hb4b);clear hb4b)
  |(go_at_call 237;refine(Qrs k lo g bs 9 n N HNN.out true HB.out hl HH5.out HR.out hlg _ T3.out.le T3.out.1).mono ?_;rintro ee w4 ⟨hI4,hB4,⟨_,tv,rfl,hR4⟩ |⟨hf,_⟩⟩;rotate_left;(exact absurd hf (by decide));obtain⟨A4,c4,hv4⟩:=Kd.R_slice hR4;subst hv4;have S4:=QA (T3.out.cur hI4 hB4);obtain⟨⟨d,h,l⟩,f40,f41,f42⟩:=S4.out.cells;have T4:=QA (S4.out.st (.slice A4 (Qro bs 9 n).length c4));have R4:=QA (Kd.R_set hR4 S4.out.2.1 (by decide) 1 (.slice A4 (Qro bs 9 n).length c4));clear hI4 hB4 hR4)
  |(go_at_call 221;refine(Qrh lo g bs 5 u HU.out HB.out (by decide) hl2 (by omega) hlg _ S2.out.le S2.out.1).mono ?_;rintro ee w3 ⟨rfl,hI3,hB3⟩;have S3:=QA (S2.out.cur (j:=9) hI3 hB3);obtain⟨⟨o,p,q⟩,f30,f31,f32⟩:=S3.out.cells;have T3:=QA (S3.out.su u);clear hI3 hB3)
  |(go_at_call 221;refine(Qrh lo g bs 1 N HN.out HB.out (by decide) hl2 (by omega) hlg _ S1.out.le S1.out.1).mono ?_;rintro ee w2 ⟨rfl,hI2,hB2⟩;have S2:=QA (S1.out.cur (j:=5) hI2 hB2);clear hI2 hB2)
  |(go_at_call 232;refine(Qqg lo g bs 0 y HY.out HB.out (Int.le_refl _) hl2 (by omega) hlg _ HS.out.le HS.out.1).mono ?_;rintro ee w1 ⟨rfl,hI1,hB1⟩;have S1:=QA (HS.out.cur (j:=1) hI1 hB1);clear hI1 hB1))
 exact⟨rfl,2,by decide,rfl,_,_,_,_,T4B.out.cur hI5 hB5⟩
theorem fg_srt(k fb xb lo g:Nat)(bs:List Int)(hb:CodecP.Bytes bs)(hl:bs.length≤100000000000)(hlg:lo≤g)(w:World)(hS:FS w w fb xb lo g bs 0 0 (.slice none 0 0) (.slice none 0 0))(h1:1≤bs.length)(y:Int)(hy:y=YtepkfjmjidjedaaGreatW.PrintWords.rd bs 0)(h4:y=4)(h2:5≤bs.length)(n:Nat)(hn:(n:Int)=CodecP.leI ((bs.drop 1).take 4))(a:n≤1048576)(h3:9≤bs.length)(u:Int)(hu:u=CodecP.leI ((bs.drop 5).take 4))(h5:9+12*n≤bs.length)(hr:Qcf.f k (Qro bs 9 n)=some true)(m:Nat)(hm:m=(n+15)/16)(h6:9+12*n+8*m≤bs.length)(hs:Qcc.f k (Qrj bs (9+12*n) m)=some false) :
  Calls Tryz.prog 236 #[.pointer (some ⟨g,0,none⟩),.pointer (some ⟨fb,0,none⟩),.pointer (some ⟨xb,0,none⟩)] w fun e W'=>∃er,er≠0∧e=.panicked [Qlq g er]∧∃i u tv fv,FS w W' fb xb lo g bs i u tv fv:=by
 have HS:=QA hS;have HB:=QA hb;have hl2:bs.length≤140737488355328:=by omega
 have hft:=Tryz.underlying169;have HY:=QA hy;have b:(y != 4)=false:=bne_eq_false_iff_eq.2 h4;obtain⟨N,hN⟩:∃N:Int,N=(n:Int):=⟨_,rfl⟩;have HNN:=QA hN;have HN:Aside0 (N=CodecP.leI ((bs.drop (1:Int).toNat).take 4)):=⟨by rw[hN];exact hn⟩;have hnb:decide (1048576<N)=false:=decide_eq_false (by omega);have hnw:IntKind.i64.wrap N=N:=IntWalk.i64_in _ (by omega);have HU:Aside0 (u=CodecP.leI ((bs.drop (5:Int).toNat).take 4)):=⟨hu⟩;have HH5:=QA h5;have HR:=QA hr;obtain⟨M,hM⟩:∃M:Int,M=(m:Int):=⟨_,rfl⟩;have HM:=QA hM;have HC:Aside0 (Qbb.f N=some M):=⟨by rw[hM,hm,hN];exact Qrt n (by omega)⟩;have HH6:=QA h6;have HSO:=QA hs;clear hS hb hy hn hu hr hm hs hM hN
 go_enter Tryz.func236,Tryz.ntmps236
 go_wp2_with (first
  |(go_at_call 238;refine(Qrn k lo g bs (9+12*n) m M HM.out false HB.out hl2 HH6.out HSO.out hlg _ T4B.out.le T4B.out.1).mono ?_;rintro ee w5 ⟨hI5,hB5,⟨hf,_⟩ |⟨_,rfl⟩⟩;(exact absurd hf (by decide)))
  |(go_at_call 239;refine(Qbb.calls N M _ HC.out).mono ?_;rintro ee c ⟨rfl,hb4b⟩;have T4B:=QA (T4.out.cur (T4.out.1.kept hb4b) (Bw.below hb4b T4.out.le));have R4B:=QA (Kd.R_below R4.out hb4b);clear hb4b)
  |(go_at_call 237;refine(Qrs k lo g bs 9 n N HNN.out true HB.out hl HH5.out HR.out hlg _ T3.out.le T3.out.1).mono ?_;rintro ee w4 ⟨hI4,hB4,⟨_,tv,rfl,hR4⟩ |⟨hf,_⟩⟩;rotate_left;(exact absurd hf (by decide));obtain⟨A4,c4,hv4⟩:=Kd.R_slice hR4;subst hv4;have S4:=QA (T3.out.cur hI4 hB4);obtain⟨⟨d,h,l⟩,f40,f41,f42⟩:=S4.out.cells;have T4:=QA (S4.out.st (.slice A4 (Qro bs 9 n).length c4));have R4:=QA (Kd.R_set hR4 S4.out.2.1 (by decide) 1 (.slice A4 (Qro bs 9 n).length c4));clear hI4 hB4 hR4)
  |(go_at_call 221;refine(Qrh lo g bs 5 u HU.out HB.out (by decide) hl2 (by omega) hlg _ S2.out.le S2.out.1).mono ?_;rintro ee w3 ⟨rfl,hI3,hB3⟩;have S3:=QA (S2.out.cur (j:=9) hI3 hB3);obtain⟨⟨o,p,q⟩,f30,f31,f32⟩:=S3.out.cells;have T3:=QA (S3.out.su u);clear hI3 hB3)
  |(go_at_call 221;refine(Qrh lo g bs 1 N HN.out HB.out (by decide) hl2 (by omega) hlg _ S1.out.le S1.out.1).mono ?_;rintro ee w2 ⟨rfl,hI2,hB2⟩;have S2:=QA (S1.out.cur (j:=5) hI2 hB2);clear hI2 hB2)
  |(go_at_call 232;refine(Qqg lo g bs 0 y HY.out HB.out (Int.le_refl _) hl2 (by omega) hlg _ HS.out.le HS.out.1).mono ?_;rintro ee w1 ⟨rfl,hI1,hB1⟩;have S1:=QA (HS.out.cur (j:=1) hI1 hB1);clear hI1 hB1))
 exact⟨rfl,8,by decide,rfl,_,_,_,_,T4B.out.cur hI5 hB5⟩
theorem fg_long(k fb xb lo g:Nat)(bs:List Int)(hb:CodecP.Bytes bs)(hl:bs.length≤100000000000)(hlg:lo≤g)(w:World)(hS:FS w w fb xb lo g bs 0 0 (.slice none 0 0) (.slice none 0 0))(h1:1≤bs.length)(y:Int)(hy:y=YtepkfjmjidjedaaGreatW.PrintWords.rd bs 0)(h4:y=4)(h2:5≤bs.length)(n:Nat)(hn:(n:Int)=CodecP.leI ((bs.drop 1).take 4))(a:n≤1048576)(h3:9≤bs.length)(u:Int)(hu:u=CodecP.leI ((bs.drop 5).take 4))(h5:9+12*n≤bs.length)(hr:Qcf.f k (Qro bs 9 n)=some true)(m:Nat)(hm:m=(n+15)/16)(h6:9+12*n+8*m≤bs.length)(hs:Qcc.f k (Qrj bs (9+12*n) m)=some true)(h7:9+12*n+8*m<bs.length) :
  Calls Tryz.prog 236 #[.pointer (some ⟨g,0,none⟩),.pointer (some ⟨fb,0,none⟩),.pointer (some ⟨xb,0,none⟩)] w fun e W'=>∃er,er≠0∧e=.panicked [Qlq g er]∧∃i u tv fv,FS w W' fb xb lo g bs i u tv fv:=by
 have HS:=QA hS;have HB:=QA hb;have hl2:bs.length≤140737488355328:=by omega
 have hft:=Tryz.underlying169;have HY:=QA hy;have b:(y != 4)=false:=bne_eq_false_iff_eq.2 h4;obtain⟨N,hN⟩:∃N:Int,N=(n:Int):=⟨_,rfl⟩;have HNN:=QA hN;have HN:Aside0 (N=CodecP.leI ((bs.drop (1:Int).toNat).take 4)):=⟨by rw[hN];exact hn⟩;have hnb:decide (1048576<N)=false:=decide_eq_false (by omega);have hnw:IntKind.i64.wrap N=N:=IntWalk.i64_in _ (by omega);have HU:Aside0 (u=CodecP.leI ((bs.drop (5:Int).toNat).take 4)):=⟨hu⟩;have HH5:=QA h5;have HR:=QA hr;obtain⟨M,hM⟩:∃M:Int,M=(m:Int):=⟨_,rfl⟩;have HM:=QA hM;have HC:Aside0 (Qbb.f N=some M):=⟨by rw[hM,hm,hN];exact Qrt n (by omega)⟩;have HH6:=QA h6;have HSO:=QA hs;clear hS hb hy hn hu hr hm hs hM hN
 go_enter Tryz.func236,Tryz.ntmps236
 go_wp2_with (first
  |(go_at_call 235;refine(Qps lo g bs ((9+12*n+8*m:Nat):Int) ⟨by omega,by omega⟩ hl2 (by omega) _ T5.out.le T5.out.1).mono ?_;rintro ee w6 ⟨rfl,hI6,hB6⟩)
  |(go_at_call 238;refine(Qrn k lo g bs (9+12*n) m M HM.out true HB.out hl2 HH6.out HSO.out hlg _ T4B.out.le T4B.out.1).mono ?_;rintro ee w5 ⟨hI5,hB5,⟨_,fv,rfl,hR5⟩ |⟨hf,_⟩⟩;rotate_left;(exact absurd hf (by decide));obtain⟨A5,c5,hv5⟩:=Kd.R_slice hR5;subst hv5;have S5:=QA (T4B.out.cur hI5 hB5);obtain⟨⟨c,d,h⟩,f50,f51,f52⟩:=S5.out.cells;have T5:=QA (S5.out.sf (.slice A5 (Qrj bs (9+12*n) m).length c5));have R5:=QA (Kd.R_set (RE.cur R4B.out T4B.out.1 hB5) S5.out.2.2.1 (by decide) 0 (.slice A5 (Qrj bs (9+12*n) m).length c5));have X5:=QA (Kd.R_set hR5 S5.out.2.2.1 (by decide) 0 (.slice A5 (Qrj bs (9+12*n) m).length c5));clear hI5 hB5 hR5)
  |(go_at_call 239;refine(Qbb.calls N M _ HC.out).mono ?_;rintro ee l ⟨rfl,hb4b⟩;have T4B:=QA (T4.out.cur (T4.out.1.kept hb4b) (Bw.below hb4b T4.out.le));have R4B:=QA (Kd.R_below R4.out hb4b);clear hb4b)
  |(go_at_call 237;refine(Qrs k lo g bs 9 n N HNN.out true HB.out hl HH5.out HR.out hlg _ T3.out.le T3.out.1).mono ?_;rintro ee w4 ⟨hI4,hB4,⟨_,tv,rfl,hR4⟩ |⟨hf,_⟩⟩;rotate_left;(exact absurd hf (by decide));obtain⟨A4,c4,hv4⟩:=Kd.R_slice hR4;subst hv4;have S4:=QA (T3.out.cur hI4 hB4);obtain⟨⟨o,p,q⟩,f40,f41,f42⟩:=S4.out.cells;have T4:=QA (S4.out.st (.slice A4 (Qro bs 9 n).length c4));have R4:=QA (Kd.R_set hR4 S4.out.2.1 (by decide) 1 (.slice A4 (Qro bs 9 n).length c4));clear hI4 hB4 hR4)
  |(go_at_call 221;refine(Qrh lo g bs 5 u HU.out HB.out (by decide) hl2 (by omega) hlg _ S2.out.le S2.out.1).mono ?_;rintro ee w3 ⟨rfl,hI3,hB3⟩;have S3:=QA (S2.out.cur (j:=9) hI3 hB3);obtain⟨⟨r,s,t⟩,f30,f31,f32⟩:=S3.out.cells;have T3:=QA (S3.out.su u);clear hI3 hB3)
  |(go_at_call 221;refine(Qrh lo g bs 1 N HN.out HB.out (by decide) hl2 (by omega) hlg _ S1.out.le S1.out.1).mono ?_;rintro ee w2 ⟨rfl,hI2,hB2⟩;have S2:=QA (S1.out.cur (j:=5) hI2 hB2);clear hI2 hB2)
  |(go_at_call 232;refine(Qqg lo g bs 0 y HY.out HB.out (Int.le_refl _) hl2 (by omega) hlg _ HS.out.le HS.out.1).mono ?_;rintro ee w1 ⟨rfl,hI1,hB1⟩;have S1:=QA (HS.out.cur (j:=1) hI1 hB1);clear hI1 hB1))
 exact⟨rfl,3,by decide,rfl,_,_,_,_,T5.out.cur hI6 hB6⟩
theorem fg_ok(k fb xb lo g:Nat)(bs:List Int)(hb:CodecP.Bytes bs)(hl:bs.length≤100000000000)(hlg:lo≤g)(w:World)(hS:FS w w fb xb lo g bs 0 0 (.slice none 0 0) (.slice none 0 0))(h1:1≤bs.length)(y:Int)(hy:y=YtepkfjmjidjedaaGreatW.PrintWords.rd bs 0)(h4:y=4)(h2:5≤bs.length)(n:Nat)(hn:(n:Int)=CodecP.leI ((bs.drop 1).take 4))(a:n≤1048576)(h3:9≤bs.length)(u:Int)(hu:u=CodecP.leI ((bs.drop 5).take 4))(h5:9+12*n≤bs.length)(hr:Qcf.f k (Qro bs 9 n)=some true)(m:Nat)(hm:m=(n+15)/16)(h6:9+12*n+8*m≤bs.length)(hs:Qcc.f k (Qrj bs (9+12*n) m)=some true)(h7:bs.length=9+12*n+8*m) :
  Calls Tryz.prog 236 #[.pointer (some ⟨g,0,none⟩),.pointer (some ⟨fb,0,none⟩),.pointer (some ⟨xb,0,none⟩)] w fun e W'=>e=.returned (.tuple #[])∧∃i tv fv,FS w W' fb xb lo g bs i u tv fv∧RE W' 0 tv (Qro bs 9 n)∧RU W' 0 fv (Qrj bs (9+12*n) m):=by
 have HS:=QA hS;have HB:=QA hb;have hl2:bs.length≤140737488355328:=by omega
 have hft:=Tryz.underlying169;have HY:=QA hy;have b:(y != 4)=false:=bne_eq_false_iff_eq.2 h4;obtain⟨N,hN⟩:∃N:Int,N=(n:Int):=⟨_,rfl⟩;have HNN:=QA hN;have HN:Aside0 (N=CodecP.leI ((bs.drop (1:Int).toNat).take 4)):=⟨by rw[hN];exact hn⟩;have hnb:decide (1048576<N)=false:=decide_eq_false (by omega);have hnw:IntKind.i64.wrap N=N:=IntWalk.i64_in _ (by omega);have HU:Aside0 (u=CodecP.leI ((bs.drop (5:Int).toNat).take 4)):=⟨hu⟩;have HH5:=QA h5;have HR:=QA hr;obtain⟨M,hM⟩:∃M:Int,M=(m:Int):=⟨_,rfl⟩;have HM:=QA hM;have HC:Aside0 (Qbb.f N=some M):=⟨by rw[hM,hm,hN];exact Qrt n (by omega)⟩;have HH6:=QA h6;have HSO:=QA hs;clear hS hb hy hn hu hr hm hs hM hN
 go_enter Tryz.func236,Tryz.ntmps236
 go_wp2_with (first
  |(go_at_call 235;refine(Qpr lo g bs ((9+12*n+8*m:Nat):Int) ⟨by omega,by omega⟩ hl2 (by omega) _ T5.out.le T5.out.1).mono ?_;rintro ee w6 ⟨rfl,hI6,hB6⟩;have R6:=QA (RE.cur R5.out T5.out.1 hB6);have X6:=QA (RU.cur X5.out T5.out.1 hB6))
  |(go_at_call 238;refine(Qrn k lo g bs (9+12*n) m M HM.out true HB.out hl2 HH6.out HSO.out hlg _ T4B.out.le T4B.out.1).mono ?_;rintro ee w5 ⟨hI5,hB5,⟨_,fv,rfl,hR5⟩ |⟨hf,_⟩⟩;rotate_left;(exact absurd hf (by decide));obtain⟨A5,c5,hv5⟩:=Kd.R_slice hR5;subst hv5;have S5:=QA (T4B.out.cur hI5 hB5);obtain⟨⟨c,d,h⟩,f50,f51,f52⟩:=S5.out.cells;have T5:=QA (S5.out.sf (.slice A5 (Qrj bs (9+12*n) m).length c5));have R5:=QA (Kd.R_set (RE.cur R4B.out T4B.out.1 hB5) S5.out.2.2.1 (by decide) 0 (.slice A5 (Qrj bs (9+12*n) m).length c5));have X5:=QA (Kd.R_set hR5 S5.out.2.2.1 (by decide) 0 (.slice A5 (Qrj bs (9+12*n) m).length c5));clear hI5 hB5 hR5)
  |(go_at_call 239;refine(Qbb.calls N M _ HC.out).mono ?_;rintro ee l ⟨rfl,hb4b⟩;have T4B:=QA (T4.out.cur (T4.out.1.kept hb4b) (Bw.below hb4b T4.out.le));have R4B:=QA (Kd.R_below R4.out hb4b);clear hb4b)
  |(go_at_call 237;refine(Qrs k lo g bs 9 n N HNN.out true HB.out hl HH5.out HR.out hlg _ T3.out.le T3.out.1).mono ?_;rintro ee w4 ⟨hI4,hB4,⟨_,tv,rfl,hR4⟩ |⟨hf,_⟩⟩;rotate_left;(exact absurd hf (by decide));obtain⟨A4,c4,hv4⟩:=Kd.R_slice hR4;subst hv4;have S4:=QA (T3.out.cur hI4 hB4);obtain⟨⟨o,p,q⟩,f40,f41,f42⟩:=S4.out.cells;have T4:=QA (S4.out.st (.slice A4 (Qro bs 9 n).length c4));have R4:=QA (Kd.R_set hR4 S4.out.2.1 (by decide) 1 (.slice A4 (Qro bs 9 n).length c4));clear hI4 hB4 hR4)
  |(go_at_call 221;refine(Qrh lo g bs 5 u HU.out HB.out (by decide) hl2 (by omega) hlg _ S2.out.le S2.out.1).mono ?_;rintro ee w3 ⟨rfl,hI3,hB3⟩;have S3:=QA (S2.out.cur (j:=9) hI3 hB3);obtain⟨⟨r,s,t⟩,f30,f31,f32⟩:=S3.out.cells;have T3:=QA (S3.out.su u);clear hI3 hB3)
  |(go_at_call 221;refine(Qrh lo g bs 1 N HN.out HB.out (by decide) hl2 (by omega) hlg _ S1.out.le S1.out.1).mono ?_;rintro ee w2 ⟨rfl,hI2,hB2⟩;have S2:=QA (S1.out.cur (j:=5) hI2 hB2);clear hI2 hB2)
  |(go_at_call 232;refine(Qqg lo g bs 0 y HY.out HB.out (Int.le_refl _) hl2 (by omega) hlg _ HS.out.le HS.out.1).mono ?_;rintro ee w1 ⟨rfl,hI1,hB1⟩;have S1:=QA (HS.out.cur (j:=1) hI1 hB1);clear hI1 hB1))
 go_end0
 exact⟨rfl,_,_,_,T5.out.cur hI6 hB6,Kd.R_lower R6.out (Nat.zero_le _),Kd.R_lower X6.out (Nat.zero_le _)⟩
theorem Qru{α:Type}{f:Nat→Option α}(h:∀k,LeO (f k) (f (k+1))):∀ {j k:Nat},j≤k→LeO (f j) (f k)
 | j,0,hjk=>by
  obtain rfl:j=0:=by omega
  exact LeO.refl _
 | j,k+1,hjk=>by
  rcases Nat.lt_or_ge j (k+1)with h1|h1
  ·exact(Qru h (by omega)).trans (h k)
  ·obtain rfl:j=k+1:=by omega
   exact LeO.refl _
theorem Qrv(a b:Int):Qah.f a b=some (decide (a<b)):=by
 simp[Qah.f,Qak.f]
theorem Qrw(l:List Int)(hl:l.length≤1099511627776):∀(d k:Nat),(d=0∨d<l.length)→d+1≤k→∃s,Qcc.l0 k l (d:Int)=some s∧((∀j:Nat,j<d→rd l (j:Int)≤rd l ((j+1:Nat):Int))→s=true)
 | 0,k+1,_,_=>⟨true,by unfold Qcc.l0;rw[if_neg (by decide)],fun _=>rfl⟩
 | d+1,k+1,hd,hk=>by
  have hw:wrap64 (((d+1:Nat):Int)-1)=(d:Int):=by unfold wrap64;omega
  obtain⟨s,hs,hp⟩:=Qrw l hl d k (by omega) (by omega);unfold Qcc.l0;rw[if_pos (by omega),if_pos (by omega),if_pos (by omega),hw,if_pos (by omega),if_pos (by omega),Qrv,Option.bind_some]
  by_cases h:rd l ((d+1:Nat):Int)<rd l (d:Int)
  ·exact⟨false,by rw[if_pos (decide_eq_true h)],fun q=>by have:=q d (by omega);omega⟩
  ·exact⟨s,by rw[if_neg (by simpa using h)];exact hs,fun q=>hp (fun j hj=>q j (by omega))⟩
def srtB(l:List Int):Bool:=(Qcc.f (l.length+8) l).getD false
theorem Qrx(l:List Int)(hl:l.length≤1099511627776):Qcc.f (l.length+8) l=some (srtB l)∧((∀j:Nat,j+1<l.length→rd l (j:Int)≤rd l ((j+1:Nat):Int))→srtB l=true):=by
 have h:∃s,Qcc.f (l.length+8) l=some s∧((∀j:Nat,j+1<l.length→rd l (j:Int)≤rd l ((j+1:Nat):Int))→s=true):=by
  unfold Qcc.f
  cases hn:l.length with
  | zero =>
   rw[show wrap64 (((0:Nat):Int)-1)=-1 by unfold wrap64;omega];exact⟨true,by unfold Qcc.l0;rw[if_neg (by decide)],fun _=>rfl⟩
  | succ n =>
   rw[show wrap64 (((n+1:Nat):Int)-1)=(n:Int)by unfold wrap64;omega];obtain⟨s,hs,hp⟩:=Qrw l hl n (n+1+8) (by omega) (by omega);exact⟨s,hs,fun q=>hp (fun j hj=>q j (by omega))⟩
 obtain⟨s,hs,hp⟩:=h;have e:srtB l=s:=by unfold srtB;rw[hs];rfl
 rw[e];exact⟨hs,hp⟩
def Qry (bs:List Int):Option (Int × List Ent × List Int) :=
 if 9≤bs.length∧rd bs 0=4 then
  if(CodecP.leI ((bs.drop 1).take 4)).toNat≤1048576∧bs.length=9+12*(CodecP.leI ((bs.drop 1).take 4)).toNat+8*(((CodecP.leI ((bs.drop 1).take 4)).toNat+15)/16)then
   if Qnh (Qro bs 9 (CodecP.leI ((bs.drop 1).take 4)).toNat)=true∧srtB (Qrj bs (9+12*(CodecP.leI ((bs.drop 1).take 4)).toNat) (((CodecP.leI ((bs.drop 1).take 4)).toNat+15)/16))=true then
    some (CodecP.leI ((bs.drop 5).take 4),Qro bs 9 (CodecP.leI ((bs.drop 1).take 4)).toNat,Qrj bs (9+12*(CodecP.leI ((bs.drop 1).take 4)).toNat) (((CodecP.leI ((bs.drop 1).take 4)).toNat+15)/16))
   else none
  else none
 else none
theorem Qrz (fb xb lo g:Nat) (bs:List Int) (hb:CodecP.Bytes bs) (hl:bs.length≤100000000000) (hlg:lo≤g) (w:World) (hS:FS w w fb xb lo g bs 0 0 (.slice none 0 0) (.slice none 0 0)) :
  Calls Tryz.prog 236 #[.pointer (some ⟨g,0,none⟩),.pointer (some ⟨fb,0,none⟩),.pointer (some ⟨xb,0,none⟩)] w fun e W' =>
   match Qry bs with
   | some (u,t,x)=>e=.returned (.tuple #[])∧∃i tv fv,FS w W' fb xb lo g bs i u tv fv∧RE W' 0 tv t∧RU W' 0 fv x
   | none=>∃er,er≠0∧e=.panicked [Qlq g er]∧∃i u tv fv,FS w W' fb xb lo g bs i u tv fv:=by
 unfold Qry;obtain⟨n,hn⟩:∃n,n=(CodecP.leI ((bs.drop 1).take 4)).toNat:=⟨_,rfl⟩;obtain⟨m,hm⟩:∃m,m=(n+15)/16:=⟨_,rfl⟩;have hnI:(n:Int)=CodecP.leI ((bs.drop 1).take 4):=by
  have:=(CodecP.leI_range ((hb.drop 1).take 4)).1;omega
 rw[← hn,← hm]
 by_cases h1:1≤bs.length
 ·by_cases h4:rd bs 0=4
  ·by_cases h2:5≤bs.length
   ·by_cases a:n≤1048576
    ·by_cases h3:9≤bs.length
     ·rw [if_pos ⟨h3,h4⟩]
      by_cases h5:9+12*n≤bs.length
      ·have hrt:=Qnl (Qro bs 9 n) (by rw[Qrq];omega)
       by_cases hr:Qnh (Qro bs 9 n)=true
       ·rw [hr]at hrt
        by_cases h6:9+12*n+8*m≤bs.length
        ·have hst:=(Qrx (Qrj bs (9+12*n) m) (by rw[Qrl];omega)).1;obtain⟨k,hk1,hk2⟩:∃k,Qcf.f k (Qro bs 9 n)=some true∧Qcc.f k (Qrj bs (9+12*n) m)=some (srtB (Qrj bs (9+12*n) m)) :=
          ⟨_,Qru (Qcf.mono _) (Nat.le_max_left _ _) _ hrt,Qru (Qcc.mono _) (Nat.le_max_right _ _) _ hst⟩
         by_cases hs:srtB (Qrj bs (9+12*n) m)=true
         ·rw[hs]at hk2
          by_cases h7:bs.length=9+12*n+8*m
          ·rw[if_pos ⟨a,h7⟩,if_pos ⟨hr,hs⟩];exact fg_ok k fb xb lo g bs hb hl hlg w hS h1 _ rfl h4 h2 n hnI a h3 _ rfl h5 hk1 m hm h6 hk2 h7
          ·rw[if_neg (fun h=>h7 h.2)];exact fg_long k fb xb lo g bs hb hl hlg w hS h1 _ rfl h4 h2 n hnI a h3 _ rfl h5 hk1 m hm h6 hk2 (by omega)
         ·have hg:(if n≤1048576∧bs.length=9+12*n+8*m then(if Qnh (Qro bs 9 n)=true∧srtB (Qrj bs (9+12*n) m)=true then some (CodecP.leI ((bs.drop 5).take 4),Qro bs 9 n,Qrj bs (9+12*n) m)else none)else none)=none:=by
           split
           ·rw[if_neg (fun h=>hs h.2)]
           ·rfl
          rw[hg];rw[Bool.not_eq_true]at hs;rw[hs]at hk2;exact fg_srt k fb xb lo g bs hb hl hlg w hS h1 _ rfl h4 h2 n hnI a h3 _ rfl h5 hk1 m hm h6 hk2
        ·rw[if_neg (fun h=>h6 (by omega))];exact fg_fen _ fb xb lo g bs hb hl hlg w hS h1 _ rfl h4 h2 n hnI a h3 _ rfl h5 hrt m hm h6
       ·have hg:(if n≤1048576∧bs.length=9+12*n+8*m then(if Qnh (Qro bs 9 n)=true∧srtB (Qrj bs (9+12*n) m)=true then some (CodecP.leI ((bs.drop 5).take 4),Qro bs 9 n,Qrj bs (9+12*n) m)else none)else none)=none:=by
         split
         ·rw[if_neg (fun h=>hr h.1)]
         ·rfl
        rw[hg];rw[Bool.not_eq_true]at hr;rw[hr]at hrt;exact fg_ris _ fb xb lo g bs hb hl hlg w hS h1 _ rfl h4 h2 n hnI a h3 _ rfl h5 hrt
      ·rw[if_neg (fun h=>h5 (by omega))];exact fg_tab 0 fb xb lo g bs hb hl hlg w hS h1 _ rfl h4 h2 n hnI a h3 _ rfl h5
     ·rw[if_neg (fun h=>h3 h.1)];exact fg_u 0 fb xb lo g bs hb hl hlg w hS h1 _ rfl h4 h2 n hnI a h3
    ·have hg:(if 9≤bs.length∧rd bs 0=4 then(if n≤1048576∧bs.length=9+12*n+8*m then(if Qnh (Qro bs 9 n)=true∧srtB (Qrj bs (9+12*n) m)=true then some (CodecP.leI ((bs.drop 5).take 4),Qro bs 9 n,Qrj bs (9+12*n) m)else none)else none)else none)=none:=by
      split
      ·rw[if_neg (fun h=>a h.1)]
      ·rfl
     rw[hg];exact fg_big 0 fb xb lo g bs hb hl hlg w hS h1 _ rfl h4 h2 n hnI a
   ·rw[if_neg (fun h=>h2 (by omega))];exact fg_n 0 fb xb lo g bs hb hl hlg w hS h1 _ rfl h4 h2
  ·rw[if_neg (fun h=>h4 h.2)];exact fg_kind 0 fb xb lo g bs hb hl hlg w hS h1 _ rfl h4
 ·rw[if_neg (fun h=>h1 (by omega))];exact fg_none 0 fb xb lo g bs hb hl hlg w hS h1
theorem RE.ty{W W':World}{b':Nat}{v:Value}{xs:List Ent}(h:RE W b' v xs)(hT:Ty W W'):RE W' b' v xs:=by
 refine Kd.R_mono (Kd.R_step (Kd.R_bound h) (fun k hk _=>?_)) (fun _ _=>trivial);obtain⟨q,hq,cells,hc⟩:=hk.2.2.2;have ht:∀q,q∈177 :: (k177).E→q=177:=by decide
 obtain rfl:=ht q hq;rw[hc];exact hT k cells _ hc (by decide) (by decide) (by decide)
theorem RU.ty{W W':World}{b':Nat}{v:Value}{xs:List Int}(h:RU W b' v xs)(hT:Ty W W'):RU W' b' v xs:=by
 refine Kd.R_mono (Kd.R_step (Kd.R_bound h) (fun k hk _=>?_)) (fun _ _=>trivial);obtain⟨q,hq,cells,hc⟩:=hk.2.2.2;have hq':q=32:=by simpa [Kd.int,Kd.scalar]using hq
 subst hq';rw[hc];exact hT k cells _ hc (by decide) (by decide) (by decide)
theorem Qsa(as_:Array Value)(W:World):(callFunc 236 as_).run Tryz.prog W=.ok (.enter 236 as_) W:=by
 simp[callFunc,Tryz.func236,Tryz.f236]
def Qsb(l0:List Int)(fb xb:Nat)(w:World)(er:Int)(w':World):Prop :=
 Below fb w w'∧∃u tv fv,w'.heap[fb]? = some (.cells #[.int .u32 u,tv] 169 (0,0))∧w'.heap[xb]? = some (.cells #[fv] 56 (0,0)) ∧
  match Qry l0 with
  | some (u',t,x)=>er=0∧u'=u∧RE w' 0 tv t∧RU w' 0 fv x
  | none=>er≠0
theorem Qsc(A0:Option Addr)(c0:Nat)(l0:List Int)(fb xb:Nat)(w:World)(hb:CodecP.Bytes l0)(hl:l0.length≤100000000000)(hr0:Kd.C (Kd.int .u8) w A0 l0.length l0)
  (hkf:w.heap[fb]? = some (.cells #[.int .u32 0,.slice none 0 0] 169 (0,0))) (hkx:w.heap[xb]? = some (.cells #[.slice none 0 0] 56 (0,0))) (hfx:fb<xb) :
  Calls Tryz.prog 170 #[.slice A0 l0.length c0,.func (.func 236) #[] #[.pointer (some ⟨fb,0,none⟩),.pointer (some ⟨xb,0,none⟩)]] w fun e w'=>∃er i,e=.returned (.tuple #[.int .i64 i,.int .i64 er])∧Qsb l0 fb xb w er w':=by
 have hlt:=Qde hkx;refine Qpz 236 #[.pointer (some ⟨fb,0,none⟩),.pointer (some ⟨xb,0,none⟩)] A0 c0 l0 w hr0 (by omega) Qsa (fun er _ W'=>Qsb l0 fb xb w er W') ?_ ?_
 ·rintro er i W W' ⟨h1,u,tv,fv,h4,h5,h6⟩ h2 h3;refine⟨h1.trans (Qis h2 (by omega)),u,tv,fv,(h2.block fb (by omega)).trans h4,(h2.block xb hlt).trans h5,?_⟩
  cases hg:Qry l0 with
  | none=>rw[hg]at h6;exact h6
  | some p =>
   obtain⟨u',t,x⟩:=p;rw[hg]at h6;exact⟨h6.1,h6.2.1,h6.2.2.1.ty h3,h6.2.2.2.ty h3⟩
 ·intro W g hg hB hI;have hlw:w.heap.size≤W.heap.size:=hB.size;have hS:FS W W fb xb w.heap.size g l0 0 0 (.slice none 0 0) (.slice none 0 0):=⟨hI,(hB.block fb (by omega)).trans hkf,(hB.block xb hlt).trans hkx,Below.refl _ _,fun k cs t _ h _ _=>h,hlw,hfx,hlt⟩;refine(Qrz fb xb w.heap.size g l0 hb hl hg W hS).mono ?_;intro e W' h
  cases hG:Qry l0 with
  | none =>
   rw[hG]at h;obtain⟨er,h1,h2,i,u,tv,fv,hF⟩:=h;exact⟨i,hF.1,hF.2.2.2.2.1,.inr ⟨er,h2,(Qis hB (by omega)).trans hF.2.2.2.1,u,tv,fv,hF.2.1,hF.2.2.1,by rw[hG];exact h1⟩⟩
  | some p =>
   obtain⟨u,t,x⟩:=p;rw[hG]at h;obtain⟨h1,i,tv,fv,hF,hR,hX⟩:=h;exact⟨i,hF.1,hF.2.2.2.2.1,.inl ⟨h1,(Qis hB (by omega)).trans hF.2.2.2.1,u,tv,fv,hF.2.1,hF.2.2.1,by rw[hG];exact⟨rfl,rfl,hR,hX⟩⟩⟩
def getF(e0:Int)(out:List Int):Option (Int × List Ent) :=
 if e0=0 then(match Qry out with
  | some (u,t,x)=>if Qnm u t=0∧x=Qmk t then some (u,t)else none
  | none=>none)else none
theorem Qsd(x y:List Int)(hxy:x.length=y.length)(hl:x.length≤1099511627776):∀(d i k:Nat),i+d=x.length→d+1≤k→Qcb.l0 k x y (x.length:Int) (i:Int)=some (decide (x.drop i=y.drop i))
 | 0,i,k+1,h,hk=>by
  unfold Qcb.l0;rw[if_neg (by omega),List.drop_eq_nil_of_le (show x.length≤i by omega),List.drop_eq_nil_of_le (show y.length≤i by omega)];simp
 | d+1,i,k+1,h,hk=>by
  unfold Qcb.l0;have hw:wrap64 ((i:Int)+1)=((i+1:Nat):Int):=by unfold wrap64;omega
  have hx:x.drop i=rd x (i:Int) :: x.drop (i+1):=by rw[CodecP.rd_get (show i<x.length by omega)];exact List.drop_eq_getElem_cons (by omega)
  have hy:y.drop i=rd y (i:Int) :: y.drop (i+1):=by rw[CodecP.rd_get (show i<y.length by omega)];exact List.drop_eq_getElem_cons (by omega)
  rw[if_pos (by omega),if_pos (by omega),if_pos (by omega),if_pos (by omega),hw,Qsd x y hxy hl d (i+1) k (by omega) (by omega),hx,hy]
  by_cases he:rd x (i:Int)=rd y (i:Int)
  ·simp[he]
  ·simp[he]
theorem eq64_is(x y:List Int)(hl:x.length≤1099511627776):Qcb.f (x.length+2) x y=some (decide (x=y)):=by
 unfold Qcb.f
 by_cases h:x.length=y.length
 ·rw[if_pos (by omega)];have:=Qsd x y h hl x.length 0 (x.length+2) (by omega) (by omega)
  simpa using this
 ·rw[if_neg (by omega)];have:¬x=y:=fun e=>h (by rw[e])
  simp[this]
def Qse(r:Option (Int × List Ent))(w:World)(e:Ending)(w':World):Prop :=
 (∃u A n c er,e=.returned (.tuple #[.agg #[.int .u32 u,.slice A n c],.int .i64 er])∧(match r with
  | some (u',t)=>er=0∧u'=u∧n=t.length∧n≤c∧Kd.C k177 w' A n t
  | none=>er≠0))∧Below w.heap.size w w'
theorem Qsf{W:World}{g:Nat}{u:Int}{v:Value}(h:W.heap[g]? = some (.cells #[.int .u32 u,v] 169 (0,0))):W.cell? ⟨g,0,none⟩=some (.int .u32 u)∧W.cell? ⟨g,1,none⟩=some v∧W.frozen? ⟨g,0,none⟩=false∧W.frozen? ⟨g,1,none⟩=false :=
 ⟨(Qdf h 0).trans rfl,(Qdf h 1).trans rfl,Qdg h 0,Qdg h 1⟩
theorem Qsg{w w1 W2 w3:World}{z:Obj}(B0:Below w.heap.size w (w.alloc z))(HB1:Below (w.alloc z).heap.size (w.alloc z) w1)(HA:Below w1.heap.size w1 W2)(HB3:Below w1.heap.size W2 w3):w3.heap[w.heap.size]? = some z∧Below w.heap.size w w3:=by
 have h1:=HB1.size;have h2:(w.alloc z).heap.size=w.heap.size+1:=by simp[World.size_alloc]
 refine⟨(HB3.block _ (by omega)).trans ((HA.block _ (by omega)).trans ((HB1.block _ (by omega)).trans (Qdt w z))),?_⟩;exact((B0.trans (Qis HB1 (by omega))).trans (Qis HA (by omega))).trans (Qis HB3 (by omega))
theorem Qsh(k:Nat)(A0:Option Addr)(c0:Nat)(l0 out:List Int)(e0:Int)(w:World)(hr0:Kd.C (Kd.int .u8) w A0 l0.length l0)(hc0:l0.length≤c0)(hO:Qbg.f k l0=some (out,e0))(he:e0≠0) :
  Calls Tryz.prog 183 #[.slice A0 l0.length c0] w (Qse none w):=by
 have hft:=Tryz.underlying169;obtain⟨z0,hz0⟩:∃z:Obj,z=.cells #[.int .u32 0,.slice none 0 0] 169 (0,0):=⟨_,rfl⟩;have b0:Below w.heap.size w (w.alloc z0):=Qci (Below.refl _ _) _;have k1:=Qdt w z0;subst hz0;have HU:=QA (Qbg.calls k A0 c0 l0 out e0 _ (Kd.C_below hr0 b0) hc0 hO);have B0:=QA b0;have K1:=QA k1;have hne:(e0 != 0)=true:=bne_iff_ne.2 he;clear hO hr0 b0 k1 hc0
 go_enter Tryz.func183,Tryz.ntmps183
 go_wp2_with (go_at_call 181;refine HU.out.mono ?_;rintro ee w1 ⟨A1,c1,rfl,hC1,hlc1,hb1⟩;have HB1:=QA hb1;have hr3:=(hb1.block w.heap.size (Qde K1.out)).trans K1.out;obtain⟨q0,q1,g0,g1⟩:=Qsf hr3;clear hb1 hC1 hlc1)
 have hbb:Below w.heap.size w w1:=B0.out.trans (Qis HB1.out B0.out.size);refine bodyPost_ret (Qdu rfl _ _ w.heap.size 169 #[.int .u32 0,.slice none 0 0] (0,0) _ rfl (Qdc (Qdc hr3 0 _) 1 _) hft rfl qq_5) rfl ?_;exact⟨⟨_,_,_,_,_,rfl,he⟩,Qir (Qir hbb (Nat.le_refl _)) (Nat.le_refl _)⟩
theorem Qsi(k:Nat)(A0:Option Addr)(c0:Nat)(l0 out:List Int)(w:World)(hr0:Kd.C (Kd.int .u8) w A0 l0.length l0)(hc0:l0.length≤c0)(hO:Qbg.f k l0=some (out,0))(hb:CodecP.Bytes out)(hl:out.length≤100000000000)(hG:Qry out=none) :
  Calls Tryz.prog 183 #[.slice A0 l0.length c0] w (Qse none w):=by
 have hft:=Tryz.underlying169;obtain⟨z0,hz0⟩:∃z:Obj,z=.cells #[.int .u32 0,.slice none 0 0] 169 (0,0):=⟨_,rfl⟩;have b0:Below w.heap.size w (w.alloc z0):=Qci (Below.refl _ _) _;have k1:=Qdt w z0;subst hz0;have HU:=QA (Qbg.calls k A0 c0 l0 out 0 _ (Kd.C_below hr0 b0) hc0 hO);have B0:=QA b0;have K1:=QA k1;have HG:=QA hG;have HB:=QA hb;have HL:=QA hl;clear hO hr0 b0 k1 hc0 hG hb hl
 go_enter Tryz.func183,Tryz.ntmps183
 go_upto_region 4 with(go_at_call 181;refine HU.out.mono ?_;rintro ee w1 ⟨A1,c1,rfl,hC1,hlc1,hb1⟩;have b:=QA hb1;have c:=QA hC1;clear hb1 hC1 hlc1)
 have hA:=Qci (Qci (Below.refl w1.heap.size w1) (.cells #[.int .u32 0,.slice none 0 0] 169)) (.cells #[.slice none 0 0] 56);have hkf:=Qdp (Qdt w1 (.cells #[.int .u32 0,.slice none 0 0] 169)) (.cells #[.slice none 0 0] 56);have hkx:=Qdt (w1.alloc (.cells #[.int .u32 0,.slice none 0 0] 169)) (.cells #[.slice none 0 0] 56);rw[World.size_alloc]at hkx;have RUN:=QA (Qsc A1 c1 out w1.heap.size (w1.heap.size+1) _ HB.out HL.out (Kd.C_below c.out hA) hkf hkx (Nat.lt_succ_self _));have HA:=QA hA;clear hA hkf hkx
 go_upto_region 9 with(go_at_call 170;refine RUN.out.mono ?_;rintro ee w3 ⟨er,i,rfl,hP⟩;unfold Qsb at hP;rw[HG.out]at hP;obtain⟨hb3,u,tv,fv,hf3,a,her⟩:=hP;have d:=QA hb3;have g:=QA (And.intro hf3 a);have HER:=QA her;have h0:(er == 0)=false:=beq_eq_false_iff_ne.2 her;have h:(er != 0)=true:=bne_iff_ne.2 her;clear hb3 hf3 a her)
 obtain⟨hr3,hbb⟩:=Qsg B0.out b.out HA.out d.out;obtain⟨q2,q3,g2,g3⟩:=Qsf hr3
 go_region
 go_wp2_with fail
 refine bodyPost_ret (Qdu rfl _ _ w.heap.size 169 #[.int .u32 0,.slice none 0 0] (0,0) _ rfl (Qdc (Qdc hr3 0 _) 1 _) hft rfl qq_5) rfl ?_;exact⟨⟨_,_,_,_,_,rfl,HER.out⟩,Qcj (Qir (Qir hbb (Nat.le_refl _)) (Nat.le_refl _))⟩
theorem Qsj(k:Nat)(A0:Option Addr)(c0:Nat)(l0 out:List Int)(w:World)(hr0:Kd.C (Kd.int .u8) w A0 l0.length l0)(hc0:l0.length≤c0)(hO:Qbg.f k l0=some (out,0))(hb:CodecP.Bytes out)(hl:out.length≤100000000000)(u:Int)(t:List Ent)(x:List Int)(hG:Qry out=some (u,t,x))(ht:t.length≤1099511627776)(cd:Int)(hc:Qnm u t=cd)(hcd:cd≠0) :
  Calls Tryz.prog 183 #[.slice A0 l0.length c0] w (Qse none w):=by
 have hft:=Tryz.underlying169;obtain⟨z0,hz0⟩:∃z:Obj,z=.cells #[.int .u32 0,.slice none 0 0] 169 (0,0):=⟨_,rfl⟩;have b0:Below w.heap.size w (w.alloc z0):=Qci (Below.refl _ _) _;have k1:=Qdt w z0;subst hz0;have HU:=QA (Qbg.calls k A0 c0 l0 out 0 _ (Kd.C_below hr0 b0) hc0 hO);have B0:=QA b0;have K1:=QA k1;have HG:=QA hG;have HB:=QA hb;have HL:=QA hl;have HT:=QA ht;have HC:=QA hc;have HER:=QA hcd;have h0:(cd == 0)=false:=beq_eq_false_iff_ne.2 hcd;have l:(cd != 0)=true:=bne_iff_ne.2 hcd;clear ht hc hcd hO hr0 b0 k1 hc0 hG hb hl
 go_enter Tryz.func183,Tryz.ntmps183
 go_upto_region 4 with(go_at_call 181;refine HU.out.mono ?_;rintro ee w1 ⟨A1,c1,rfl,hC1,hlc1,hb1⟩;have d:=QA hb1;have g:=QA hC1;clear hb1 hC1 hlc1)
 have hA:=Qci (Qci (Below.refl w1.heap.size w1) (.cells #[.int .u32 0,.slice none 0 0] 169)) (.cells #[.slice none 0 0] 56);have hkf:=Qdp (Qdt w1 (.cells #[.int .u32 0,.slice none 0 0] 169)) (.cells #[.slice none 0 0] 56);have hkx:=Qdt (w1.alloc (.cells #[.int .u32 0,.slice none 0 0] 169)) (.cells #[.slice none 0 0] 56);rw[World.size_alloc]at hkx;have RUN:=QA (Qsc A1 c1 out w1.heap.size (w1.heap.size+1) _ HB.out HL.out (Kd.C_below g.out hA) hkf hkx (Nat.lt_succ_self _));have HA:=QA hA;clear hA hkf hkx
 go_upto_region 9 with(first
  |(go_at_call 140;refine(Qno 0 u At _ ct t _ rfl b.out HT.out).mono ?_;rw[HC.out];rintro ee w4 ⟨rfl,hb4⟩;have h:=QA hb4;have d4:=(hb4.block _ (Qde a.out.1)).trans a.out.1;have x4:=(hb4.block _ (Qde a.out.2)).trans a.out.2;have m:=QA (And.intro d4 x4);have n:=QA (Kd.R_below b.out hb4);have HX4:=QA (Kd.R_below HX3.out hb4);clear hb4 d4 x4)
  |(go_at_call 170;refine RUN.out.mono ?_;rintro ee w3 ⟨er,i,rfl,hP⟩;unfold Qsb at hP;rw[HG.out]at hP;obtain⟨hb3,u3,tv,fv,hf3,c,rfl,rfl,hR3,hX3⟩:=hP;obtain⟨At,ct,htv⟩:=Kd.R_slice hR3;obtain⟨Ax,cx,hfv⟩:=Kd.R_slice hX3;subst htv;subst hfv;have j:=QA hb3;have a:=QA (And.intro hf3 c);have b:=QA hR3;have HX3:=QA hX3;obtain⟨d0,d1,_,_⟩:=Qsf hf3;clear hb3 hf3 c hR3 hX3))
 obtain⟨hr3,hbb⟩:=Qsg B0.out d.out HA.out (j.out.trans (Qis h.out (Nat.le_of_lt (Nat.lt_of_lt_of_le (Qde a.out.1) (Nat.le_refl _)))));obtain⟨q2,q3,g2,g3⟩:=Qsf hr3
 go_region
 go_wp2_with fail
 refine bodyPost_ret (Qdu rfl _ _ w.heap.size 169 #[.int .u32 0,.slice none 0 0] (0,0) _ rfl (Qdc (Qdc hr3 0 _) 1 _) hft rfl qq_5) rfl ?_;exact⟨⟨_,_,_,_,_,rfl,HER.out⟩,Qcj (Qir (Qir hbb (Nat.le_refl _)) (Nat.le_refl _))⟩
theorem Qsk(k:Nat)(A0:Option Addr)(c0:Nat)(l0 out:List Int)(w:World)(hr0:Kd.C (Kd.int .u8) w A0 l0.length l0)(hc0:l0.length≤c0)(hO:Qbg.f k l0=some (out,0))(hb:CodecP.Bytes out)(hl:out.length≤100000000000)(u:Int)(t:List Ent)(x:List Int)(hG:Qry out=some (u,t,x))(ht:t.length≤1099511627776)(hc:Qnm u t=0)(hxl:x.length≤1099511627776)(R:Option (Int × List Ent))(hRR:(if x=Qmk t then some (u,t)else none)=R) :
  Calls Tryz.prog 183 #[.slice A0 l0.length c0] w (Qse R w):=by
 have hft:=Tryz.underlying169;obtain⟨z0,hz0⟩:∃z:Obj,z=.cells #[.int .u32 0,.slice none 0 0] 169 (0,0):=⟨_,rfl⟩;have b0:Below w.heap.size w (w.alloc z0):=Qci (Below.refl _ _) _;have k1:=Qdt w z0;subst hz0;have HU:=QA (Qbg.calls k A0 c0 l0 out 0 _ (Kd.C_below hr0 b0) hc0 hO);have B0:=QA b0;have K1:=QA k1;have HG:=QA hG;have HB:=QA hb;have HL:=QA hl;have HT:=QA ht;have HC:=QA hc;have HLXX:=QA hxl;have l:=QA hRR;clear ht hc hxl hRR hO hr0 b0 k1 hc0 hG hb hl
 go_enter Tryz.func183,Tryz.ntmps183
 go_upto_region 4 with(go_at_call 181;refine HU.out.mono ?_;rintro ee w1 ⟨A1,c1,rfl,hC1,hlc1,hb1⟩;have p:=QA hb1;have q:=QA hC1;clear hb1 hC1 hlc1)
 have hA:=Qci (Qci (Below.refl w1.heap.size w1) (.cells #[.int .u32 0,.slice none 0 0] 169)) (.cells #[.slice none 0 0] 56);have hkf:=Qdp (Qdt w1 (.cells #[.int .u32 0,.slice none 0 0] 169)) (.cells #[.slice none 0 0] 56);have hkx:=Qdt (w1.alloc (.cells #[.int .u32 0,.slice none 0 0] 169)) (.cells #[.slice none 0 0] 56);rw[World.size_alloc]at hkx;have RUN:=QA (Qsc A1 c1 out w1.heap.size (w1.heap.size+1) _ HB.out HL.out (Kd.C_below q.out hA) hkf hkx (Nat.lt_succ_self _));have HA:=QA hA;clear hA hkf hkx
 go_upto_region 9 with(first
  |(go_at_call 140;refine(Qno 0 u At _ ct t _ rfl m.out HT.out).mono ?_;rw[HC.out];rintro ee w4 ⟨rfl,hb4⟩;have r:=QA hb4;have d4:=(hb4.block _ (Qde b.out.1)).trans b.out.1;have x4:=(hb4.block _ (Qde b.out.2)).trans b.out.2;have a:=QA (And.intro d4 x4);have g:=QA (Kd.R_below m.out hb4);have HX4:=QA (Kd.R_below HX3.out hb4);clear hb4 d4 x4)
  |(go_at_call 170;refine RUN.out.mono ?_;rintro ee w3 ⟨er,i,rfl,hP⟩;unfold Qsb at hP;rw[HG.out]at hP;obtain⟨hb3,u3,tv,fv,hf3,n,rfl,rfl,hR3,hX3⟩:=hP;obtain⟨At,ct,htv⟩:=Kd.R_slice hR3;obtain⟨Ax,cx,hfv⟩:=Kd.R_slice hX3;subst htv;subst hfv;have s:=QA hb3;have b:=QA (And.intro hf3 n);have m:=QA hR3;have HX3:=QA hX3;obtain⟨d0,d1,_,_⟩:=Qsf hf3;clear hb3 hf3 n hR3 hX3))
 have hpos:0<t.length:=by
  have hcc:=HC.out;unfold Qnm at hcc;apply Decidable.byContradiction;intro h;rw[if_pos (by omega)]at hcc
  cases hcc
 obtain⟨gt,cap,hf,_⟩:=Kd.R_form g.out hpos
 injection hf with hf1 hf2 hf3
 subst hf1;clear hf2 hf3 hpos;obtain⟨_,hlct,hCt⟩:=Kd.R_reads' g.out;obtain⟨_,hlcx,hCx⟩:=Kd.R_reads' HX4.out;have FE:=QA (Qmn ⟨gt,0,none⟩ ct t.length t w4.drew rfl (Kd.C_below hCt (Qcj (Below.refl _ _))) hlct HT.out);have HCX:=QA (Kd.C_below hCx (Qcj (Below.refl _ _)));have HLX:=QA hlcx;have HLT:=QA hlct;have j0:w4.drew.cell? ⟨w1.heap.size,1,none⟩=some (.slice (some ⟨gt,0,none⟩) t.length ct):=(Qsf a.out.1).2.1;have j1:w4.drew.cell? ⟨w1.heap.size+1,0,none⟩=some (.slice Ax x.length cx):=(Qdf a.out.2 0).trans rfl;clear hCt hCx hlcx hlct;have EQ:=QA (eq64_is x (Qmk t) (by have:=HLXX.out;omega));obtain⟨bq,hbq⟩:∃bq,bq=decide (x=Qmk t):=⟨_,rfl⟩;rw[← hbq]at EQ;have HBQ:=QA hbq;clear hbq
 go_region_held3 (fun w'=>w'.cell? ⟨w1.heap.size,1,none⟩=some (.slice (some ⟨gt,0,none⟩) t.length ct)∧w'.cell? ⟨w1.heap.size+1,0,none⟩=some (.slice Ax x.length cx)) (first|exact⟨j0,j1⟩|exact⟨j2,j3⟩|exact⟨j4,j5⟩) (first
  |(go_at_call 145;refine FE.out.mono ?_;rintro ee w5 ⟨⟨v5,rfl,hR5⟩,hb5⟩;obtain⟨A5,c5,rfl⟩:=Kd.R_slice hR5;have k5:=(hb5.block _ (Qde (show w4.drew.heap[w1.heap.size]? = _ from a.out.1))).trans a.out.1;have k6:=(hb5.block _ (Qde (show w4.drew.heap[w1.heap.size+1]? = _ from a.out.2))).trans a.out.2;have d:=QA (And.intro k5 k6);have j2:=(Qsf k5).2.1;have j3:w5.cell? ⟨w1.heap.size+1,0,none⟩=some (.slice Ax x.length cx):=(Qdf k6 0).trans rfl;have j:=QA hb5;have o:=QA (Kd.R_reads' hR5).2;clear hb5 hR5 k5 k6)
  |(go_at_call 240;refine(Qcb.calls _ Ax cx x A5 c5 (Qmk t) bq _ (Kd.C_below HCX.out j.out) HLX.out o.out.2 o.out.1 EQ.out).mono ?_;rintro ee w6 ⟨rfl,hd6⟩;have c:=QA hd6.below;have j4:=(Qsf (Qds d.out.1 c.out)).2.1;have j5:w6.cell? ⟨w1.heap.size+1,0,none⟩=some (.slice Ax x.length cx):=(Qdf (Qds d.out.2 c.out) 0).trans rfl;clear hd6))
 have l3:w1.heap.size+1<w3.heap.size:=Qde b.out.2;have l4:w1.heap.size+1<w4.heap.size:=Qde a.out.2;have l5:w1.heap.size+1<w5.heap.size:=Qde d.out.2;have b36:=((s.out.trans (Qis r.out (by omega))).trans (Qis (Qcj (Below.refl w4.heap.size w4)) (by omega))).trans (Qis j.out (show w1.heap.size≤w4.heap.size by omega));have b37:=b36.trans (Qis c.out (by omega));obtain⟨hr3,hbb⟩:=Qsg B0.out p.out HA.out b37;obtain⟨q2,q3,g2,g3⟩:=Qsf hr3;obtain⟨d6,d7,_,_⟩:=Qsf (Qds d.out.1 c.out);clear b36 b37
 cases bq with
 | false =>
  go_wp2_with fail
  refine bodyPost_ret (Qdu rfl _ _ w.heap.size 169 #[.int .u32 0,.slice none 0 0] (0,0) _ rfl (Qdc (Qdc hr3 0 _) 1 _) hft rfl qq_5) rfl ?_;have hR:=l.out;rw[if_neg (of_decide_eq_false HBQ.out.symm)]at hR;subst hR;exact⟨⟨_,_,_,_,_,rfl,(by decide:(4:Int)≠0)⟩,Qir (Qir hbb (Nat.le_refl _)) (Nat.le_refl _)⟩
 | true =>
  have HCT:=QA (Kd.R_set (Kd.R_set (Kd.R_below (Kd.R_below g.out ((Qcj (Below.refl w4.heap.size w4)).trans j.out)) c.out) hr3 (by decide) 0 (.int .u32 u)) (Qdc hr3 0 _) (by decide) 1 (.slice (some ⟨gt,0,none⟩) t.length ct))
  go_wp2_with fail
  refine bodyPost_ret (Qdu rfl _ _ w.heap.size 169 #[.int .u32 u,.slice (some ⟨gt,0,none⟩) t.length ct] (0,0) _ rfl (Qdc (Qdc hr3 0 _) 1 _) hft rfl qq_5) rfl ?_;have hR:=l.out;rw[if_pos (of_decide_eq_true HBQ.out.symm)]at hR;subst hR;exact⟨⟨_,_,_,_,_,rfl,rfl,rfl,rfl,HLT.out,(Kd.R_reads' HCT.out).2.2⟩,Qir (Qir hbb (Nat.le_refl _)) (Nat.le_refl _)⟩
theorem Qsl(k:Nat)(A0:Option Addr)(c0:Nat)(l0 out:List Int)(e0:Int)(w:World)(hr0:Kd.C (Kd.int .u8) w A0 l0.length l0)(hc0:l0.length≤c0)(hO:Qbg.f k l0=some (out,e0))(hb:e0=0→CodecP.Bytes out∧out.length≤100000000000) :
  Calls Tryz.prog 183 #[.slice A0 l0.length c0] w (Qse (getF e0 out) w):=by
 unfold getF
 by_cases he:e0=0
 ·rw [if_pos he];subst he;obtain⟨hb,hl⟩:=hb rfl
  cases hG:Qry out with
  | none=>exact Qsi k A0 c0 l0 out w hr0 hc0 hO hb hl hG
  | some p =>
   obtain⟨u,t,x⟩:=p;have hlen:t.length≤1099511627776∧x.length≤1099511627776:=by
    unfold Qry at hG;split at hG
    ·split at hG
     ·rename_i h2;split at hG
      ·simp only[Option.some.injEq,Prod.mk.injEq]at hG;obtain⟨_,rfl,rfl⟩:=hG;rw[Qrq,Qrl];omega
      ·cases hG
     ·cases hG
    ·cases hG
   dsimp only
   by_cases hc:Qnm u t=0
   ·refine Qsk k A0 c0 l0 out w hr0 hc0 hO hb hl u t x hG hlen.1 hc hlen.2 _ ?_
    by_cases hx:x=Qmk t
    ·rw[if_pos hx,if_pos ⟨hc,hx⟩]
    ·rw[if_neg hx,if_neg (fun h=>hx h.2)]
   ·rw[if_neg (fun h=>hc h.1)];exact Qsj k A0 c0 l0 out w hr0 hc0 hO hb hl u t x hG hlen.1 _ rfl hc
 ·rw[if_neg he];exact Qsh k A0 c0 l0 out e0 w hr0 hc0 hO he
end Go.Proofs.YtepkfjmjidjedaaGreat.C
end
