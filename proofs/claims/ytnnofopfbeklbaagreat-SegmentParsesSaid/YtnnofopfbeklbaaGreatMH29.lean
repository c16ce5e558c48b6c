/- Texts of this claim's author and of the print of its functions, merged by merge.py. -/
import Derived.Test.YtnnofopfbeklbaaGreatMH02
import Derived.WalkLawsBesides
import Derived.Recover
import Derived.Test.YtnnofopfbeklbaaGreatMH11
import Derived.Test.YtnnofopfbeklbaaGreatMH12
import Derived.Test.YtnnofopfbeklbaaGreatMH22
import Derived.Test.YtnnofopfbeklbaaGreatMH19
import Derived.Defers
import Derived.Test.YtnnofopfbeklbaaGreatMH21
import Derived.Test.YtnnofopfbeklbaaGreatMH08
import Derived.Test.YtnnofopfbeklbaaGreatMH10
import Derived.Test.YtnnofopfbeklbaaGreatMH13
import Derived.Test.YtnnofopfbeklbaaGreatMH28
import Derived.Test.YtnnofopfbeklbaaGreatMH27
import Derived.Test.YtnnofopfbeklbaaGreatMH09
import Derived.Test.YtnnofopfbeklbaaGreatMH26
set_option linter.unusedVariables false
set_option linter.unusedSimpArgs false
set_option maxHeartbeats 8000000
set_option maxRecDepth 100000
section
namespace Go.Proofs.YtnnofopfbeklbaaGreat.C
open Go.RowKit Go.Proofs.YtnnofopfbeklbaaGreatW.PrintWords Go.Proofs.YtnnofopfbeklbaaGreatW.PrintLast Go.Proofs.YtnnofopfbeklbaaGreatW.PrintMore
attribute [local go_sem] Qif Qig Qih Qii
theorem Qth(bs:List Int):∀(f:Nat) (j i x:Int),0≤i→i≤(bs.length:Int)→0≤x→x<18446744073709551616 →
  match Qrp bs f j i x with
  | .ok (n,i1)=>0≤n∧n<18446744073709551616∧i≤i1∧i1≤(bs.length:Int)
  | .error (_,i1)=>i≤i1∧i1≤(bs.length:Int)
 | 0,_,i,x=>fun h0 h1 h2 h3=>⟨h2,h3,Int.le_refl _,h1⟩
 | f + 1,j,i,x=>fun h0 h1 h2 h3=>by
  obtain⟨y,hy⟩:∃y,y=Go.bits .or .u64 x (shl .u64 (IntKind.u64.wrap (Go.bits .andNot .u8 (YtnnofopfbeklbaaGreatW.PrintWords.rd bs i) 128)) (7*j)):=⟨_,rfl⟩
  have hr:0≤y∧y<18446744073709551616:=by
   have e:∀z:Int,0≤IntKind.u64.wrap z∧IntKind.u64.wrap z<18446744073709551616:=fun z=>by rw[IntKind.wrap_u64];omega
   rw[hy];exact e _
  unfold Qrp
  rw[← hy]
  by_cases hlt:i<(bs.length:Int)
  ·rw[if_pos hlt]
   by_cases c1:j=9∧1<YtnnofopfbeklbaaGreatW.PrintWords.rd bs i
   ·rw[if_pos c1];exact⟨by omega,by omega⟩
   ·rw[if_neg c1]
    by_cases c2:128≤YtnnofopfbeklbaaGreatW.PrintWords.rd bs i
    ·rw[if_pos c2]
     have h:=Qth bs f (j+1) (i+1) y (by omega) (by omega) hr.1 hr.2
     revert h
     cases Qrp bs f (j+1) (i+1) y with
     | ok p=>exact fun h=>⟨h.1,h.2.1,by have:=h.2.2.1;omega,h.2.2.2⟩
     | error p=>exact fun h=>⟨by have:=h.1;omega,h.2⟩
    ·rw[if_neg c2]
     by_cases c3:YtnnofopfbeklbaaGreatW.PrintWords.rd bs i=0∧0<j
     ·rw[if_pos c3];exact⟨by omega,by omega⟩
     ·rw[if_neg c3];exact⟨hr.1,hr.2,by omega,by omega⟩
  ·rw[if_neg hlt];exact⟨Int.le_refl _,h1⟩
def Qti(bs:List Int)(least most i:Int):Except (Int × Int) (List Int × Int) :=
 match Qrp bs 10 0 i 0 with
 | .error p=>.error p
 | .ok (n,i1)=>if most<n then .error (3,i1)else if n<least then .error (4,i1)else if i1+n≤(bs.length:Int)then .ok ((bs.drop i1.toNat).take n.toNat,i1+n)else .error (2,i1)
theorem Qtj(b g:Nat)(bs:List Int)(i least most:Int)(hle:0≤least∧least≤4611686018427387904)(hmo:0≤most∧most≤4611686018427387904)(hb:CodecP.Bytes bs)(hi:0≤i∧i≤(bs.length:Int))(hl:bs.length≤140737488355328)(hbg:b≤g)(w:World)(hbw:b≤w.heap.size)(hI:IsCur w b g bs i)(R:Except (Int × Int) (Value × Int))(hR:(Qti bs least most i).map (fun p=>(Value.string (strOfNums p.1),p.2))=R) :
  Calls Tryz.prog 177 #[.pointer (some ⟨g,0,none⟩),.int .i64 least,.int .i64 most] w (Ends b g bs w R):=by
 have HI:=QA hI
 have HW:=QA hbw
 have hrg:=Qth bs 10 0 i 0 hi.1 hi.2 (by decide) (by decide)
 have hwl:IntKind.u64.wrap least=least:=IntWalk.u64_in _ (by omega)
 have hwm:IntKind.u64.wrap most=most:=IntWalk.u64_in _ (by omega)
 have hm1:max 0 most=most:=by omega
 have hm2:max 0 least=least:=by omega
 have hcv0:∀W:World,(convert 52 9 (.slice none 0 0)).run Tryz.prog W=.ok (.string (strOfNums [])) W:=fun W=>Qdd (P:=Tryz.prog) Tryz.underlying52 Tryz.underlying5 Tryz.underlying9 (Kd.own_of_R (Kd.R_nil (Kd.int .u8) 5 W b (fun _=>True)))
 unfold Qti at hR
 clear hI hbw
 cases hv:Qrp bs 10 0 i 0 with
 | error p =>
  obtain⟨er,i1⟩:=p
  rw[hv]at hR hrg
  simp only[Except.map]at hR
  have HV:=QA hv
  clear hv
  subst hR
  go_enter Tryz.func177,Tryz.ntmps177
  go_wp2_with (go_at_call 176;refine(Qrq b g bs i hb hi hl hbg _ HW.out HI.out (.error (er,i1)) (by rw[HV.out];rfl)).mono ?_;rintro ee w1 ⟨rfl,hI1,hB1⟩)
  all_goals first|exact⟨rfl,rfl,hI1,hB1⟩ |(exfalso;omega)
 | ok p =>
  obtain⟨n,i1⟩:=p
  rw[hv]at hR hrg
  obtain⟨hn0,hn1,hi0,hi1⟩:=hrg
  dsimp only at hR
  have HV:=QA hv
  clear hv
  have GET:Aside0 (Calls Tryz.prog 176 #[.pointer (some ⟨g,0,none⟩)] w (Ends b g bs w (.ok (.int .u64 n,i1)))):=⟨Qrq b g bs i hb hi hl hbg _ HW.out HI.out (.ok (.int .u64 n,i1)) (by rw[HV.out];rfl)⟩
  by_cases c1:most<n
  ·rw[if_pos c1]at hR
   simp only[Except.map]at hR
   subst hR
   have c1b:decide (most<n)=true:=decide_eq_true c1
   go_enter Tryz.func177,Tryz.ntmps177
   go_wp2_with (first
    |(go_at_call 176;refine GET.out.mono ?_;rintro ee w1 ⟨rfl,hI1,hB1⟩)
    |(go_at_call 175;refine(Qqo b g bs i1 3 (by decide) _ hI1).mono ?_;rintro ee w2 ⟨rfl,rfl⟩))
   all_goals first|exact⟨rfl,rfl,hI1,hB1⟩ |(exfalso;omega)
  ·rw [if_neg c1]at hR
   have c1b:decide (most<n)=false:=decide_eq_false c1
   have hwn:IntKind.i64.wrap n=n:=IntWalk.i64_in _ (by omega)
   by_cases c2:n<least
   ·rw[if_pos c2]at hR
    simp only[Except.map]at hR
    subst hR
    have c2b:decide (n<least)=true:=decide_eq_true c2
    go_enter Tryz.func177,Tryz.ntmps177
    go_wp2_with (first
     |(go_at_call 176;refine GET.out.mono ?_;rintro ee w1 ⟨rfl,hI1,hB1⟩)
     |(go_at_call 175;refine(Qqo b g bs i1 4 (by decide) _ hI1).mono ?_;rintro ee w2 ⟨rfl,rfl⟩))
    all_goals first|exact⟨rfl,rfl,hI1,hB1⟩ |(exfalso;omega)
   ·rw [if_neg c2]at hR
    have c2b:decide (n<least)=false:=decide_eq_false c2
    by_cases c3:i1+n≤(bs.length:Int)
    ·rw[if_pos c3]at hR
     simp only[Except.map]at hR
     subst hR
     by_cases c4:n≤0
     ·obtain rfl:n=0:=by omega
      go_enter Tryz.func177,Tryz.ntmps177
      go_wp2_with (first
       |(go_at_call 176;refine GET.out.mono ?_;rintro ee w1 ⟨rfl,hI1,hB1⟩)
       |(go_at_call 193;refine(Qqq b g bs i1 0 (by decide) _ hI1).mono ?_;rintro ee w2 ⟨rfl,rfl⟩))
      all_goals go_ret
      all_goals exact⟨rfl,hI1,hB1⟩
     ·obtain⟨xs,hxs⟩:∃xs,xs=(bs.drop i1.toNat).take n.toNat:=⟨_,rfl⟩
      rw[← hxs]
      have HX:=QA hxs
      clear hxs
      go_enter Tryz.func177,Tryz.ntmps177
      go_wp2_with (first
       |(go_at_call 176;refine GET.out.mono ?_;rintro ee w1 ⟨rfl,hI1,hB1⟩)
       |(go_at_call 193;refine(Qqr b g bs xs i1 n HX.out (by omega) (by omega) hl c3 hbg _ (Nat.le_trans HW.out hB1.size) hI1).mono ?_;rintro ee w2 ⟨v,rfl,hRv,hI2,hB2⟩;have cv:=Qdd (P:=Tryz.prog) Tryz.underlying52 Tryz.underlying5 Tryz.underlying9 (Kd.own_of_R hRv)))
      all_goals first |(go_ret;exact⟨rfl,hI2,hB1.trans hB2⟩) |(exfalso;omega)
    ·rw[if_neg c3]at hR
     simp only[Except.map]at hR
     subst hR
     go_enter Tryz.func177,Tryz.ntmps177
     go_wp2_with (first
      |(go_at_call 176;refine GET.out.mono ?_;rintro ee w1 ⟨rfl,hI1,hB1⟩)
      |(go_at_call 193;refine(Qqp b g bs i1 n (by omega) ⟨by omega,hi1⟩ hl (by omega) _ hI1).mono ?_;rintro ee w2 ⟨rfl,hb2⟩))
     all_goals first|exact⟨rfl,rfl,hI1.kept hb2,hB1.trans (Bw.below hb2 (Nat.le_trans HW.out hB1.size))⟩ |(exfalso;omega)
end Go.Proofs.YtnnofopfbeklbaaGreat.C
end
section
namespace Go.Proofs.YtnnofopfbeklbaaGreat.C
open Go.RowKit Go.Proofs.YtnnofopfbeklbaaGreatW.PrintWords Go.Proofs.YtnnofopfbeklbaaGreatW.PrintLast Go.Proofs.YtnnofopfbeklbaaGreatW.PrintMore
theorem IsCur.farT{W:World}{b g rb j:Nat}{bs:List Int}{i:Int}{u:Value}{cs:Array Value}{t:TypeId}(h:IsCur W b g bs i)(hr:W.heap[rb]? = some (.cells cs t (0,0)))(ht:t≠5∧t≠264):IsCur (W.setCell ⟨rb,j,none⟩ u) b g bs i:=by
 obtain⟨v,h1,h2⟩:=h
 exact⟨v,Qdq h1 (p:=⟨rb,j,none⟩) (Qdv h1 hr (fun e=>ht.2 e.symm)) u,h2.set hr (fun e=>ht.1 e.symm) j u⟩
def FS(w W:World)(fb xb lo g:Nat)(bs:List Int)(i:Int)(u:Int)(tv fv:Value):Prop :=
 IsCur W lo g bs i∧W.heap[fb]? = some (.cells #[.int .u32 u,tv] 127 (0,0))∧W.heap[xb]? = some (.cells #[fv] 70 (0,0))∧Below fb w W∧Tl lo g w W∧lo≤W.heap.size∧fb<xb∧xb<lo
section
variable {w W W':World} {fb xb lo g:Nat} {bs:List Int} {i j u:Int} {tv fv:Value}
theorem FS.le(h:FS w W fb xb lo g bs i u tv fv):lo≤W.heap.size:=h.2.2.2.2.2.1
theorem FS.cur(h:FS w W fb xb lo g bs i u tv fv)(hI:IsCur W' lo g bs j)(hb:Bw lo g W W'):FS w W' fb xb lo g bs j u tv fv:=by
 obtain⟨h1,h2,h3,h4,h5,h6,h7,h8⟩:=h
 exact⟨hI,(hb.1.block fb (by omega)).trans h2,(hb.1.block xb h8).trans h3,h4.trans (Qjn hb.1 (by omega)),fun k cs t q1 q2 q3 q4=>hb.2 _ _ _ (h5 _ _ _ q1 q2 q3 q4) q3 q4,Nat.le_trans h6 hb.size,h7,h8⟩
theorem FS.tl(h:FS w W fb xb lo g bs i u tv fv)(b n:Nat)(hb:b<lo)(x:Value):Tl lo g w (W.setCell ⟨b,n,none⟩ x):=fun k cs t h1 h2 h3 h4=>Qdq (h.2.2.2.2.1 _ _ _ h1 h2 h3 h4) (p:=⟨b,n,none⟩) (by show k≠b;omega) x
theorem FS.size(h:FS w W fb xb lo g bs i u tv fv)(b n:Nat)(x:Value):lo≤(W.setCell ⟨b,n,none⟩ x).heap.size:=by simpa [World.setCell]using h.le
theorem FS.su(h:FS w W fb xb lo g bs i u tv fv)(x:Int):FS w (W.setCell ⟨fb,0,none⟩ (.int .u32 x)) fb xb lo g bs i x tv fv :=
 ⟨h.1.farT h.2.1 (by decide),Qdp h.2.1 0 _,Qdq h.2.2.1 (p:=⟨fb,0,none⟩) (by have:=h.2.2.2.2.2.2.1;show xb≠fb;omega) _,Qjm h.2.2.2.1 (Nat.le_refl _),h.tl fb 0 (by have:=h.2.2.2.2.2.2;omega) _,h.size _ _ _,h.2.2.2.2.2.2⟩
theorem FS.st(h:FS w W fb xb lo g bs i u tv fv)(x:Value):FS w (W.setCell ⟨fb,1,none⟩ x) fb xb lo g bs i u x fv :=
 ⟨h.1.farT h.2.1 (by decide),Qdp h.2.1 1 _,Qdq h.2.2.1 (p:=⟨fb,1,none⟩) (by have:=h.2.2.2.2.2.2.1;show xb≠fb;omega) _,Qjm h.2.2.2.1 (Nat.le_refl _),h.tl fb 1 (by have:=h.2.2.2.2.2.2;omega) _,h.size _ _ _,h.2.2.2.2.2.2⟩
theorem FS.sf(h:FS w W fb xb lo g bs i u tv fv)(x:Value):FS w (W.setCell ⟨xb,0,none⟩ x) fb xb lo g bs i u tv x :=
 ⟨h.1.farT h.2.2.1 (by decide),Qdq h.2.1 (p:=⟨xb,0,none⟩) (by have:=h.2.2.2.2.2.2.1;show fb≠xb;omega) _,Qdp h.2.2.1 0 _,Qjm h.2.2.2.1 (by have:=h.2.2.2.2.2.2.1;show fb≤xb;omega),h.tl xb 0 h.2.2.2.2.2.2.2 _,h.size _ _ _,h.2.2.2.2.2.2⟩
theorem FS.cells(h:FS w W fb xb lo g bs i u tv fv):(W.cell? ⟨fb,0,none⟩=some (.int .u32 u)∧W.cell? ⟨fb,1,none⟩=some tv∧W.cell? ⟨xb,0,none⟩=some fv)∧W.frozen? ⟨fb,0,none⟩=false∧W.frozen? ⟨fb,1,none⟩=false∧W.frozen? ⟨xb,0,none⟩=false :=
 ⟨⟨(Qds h.2.1 0).trans rfl,(Qds h.2.1 1).trans rfl,(Qds h.2.2.1 0).trans rfl⟩,Qdt h.2.1 0,Qdt h.2.1 1,Qdt h.2.2.1 0⟩
end
theorem Qrz(n:Nat)(h:n≤4611686018427387903):Qcf.f (n:Int)=some (((n+15)/16:Nat):Int):=by
 have e:mx 0 (n:Int)=(n:Int):=by unfold mx;split<;>omega
 unfold Qcf.f
 rw[e]
 have e1:wrap64 ((n:Int)+16)=(n:Int)+16:=by unfold wrap64;omega
 have e2:wrap64 ((n:Int)+16-1)=((n+15:Nat):Int):=by unfold wrap64;omega
 have e3:Int.tdiv ((n+15:Nat):Int) 16=(((n+15)/16:Nat):Int):=rfl
 rw[e1,e2,e3]
 congr 1
 unfold wrap64
 omega
theorem fg_none(k fb xb lo g:Nat)(bs:List Int)(hb:CodecP.Bytes bs)(hl:bs.length≤100000000000)(hlg:lo≤g)(w:World)(hS:FS w w fb xb lo g bs 0 0 (.slice none 0 0) (.slice none 0 0))(h1:¬1≤bs.length) :
  Calls Tryz.prog 179 #[.pointer (some ⟨g,0,none⟩),.pointer (some ⟨fb,0,none⟩),.pointer (some ⟨xb,0,none⟩)] w fun e W'=>∃er,er≠0∧e=.panicked [Qqm g er]∧∃i u tv fv,FS w W' fb xb lo g bs i u tv fv:=by
 have HS:=QA hS
 have HB:=QA hb
 have hl2:bs.length≤140737488355328:=by omega
 have hft:=Tryz.underlying127
 clear hS hb
 go_enter Tryz.func179,Tryz.ntmps179
 go_wp2_with (first
  |(go_at_call 174;refine(Qqw lo g bs 0 ⟨Int.le_refl _,by omega⟩ hl2 (by omega) _ HS.out.le HS.out.1).mono ?_;rintro ee w1 ⟨rfl,hI1,hB1⟩))
 exact⟨rfl,2,by decide,rfl,_,_,_,_,HS.out.cur hI1 hB1⟩
theorem fg_kind(k fb xb lo g:Nat)(bs:List Int)(hb:CodecP.Bytes bs)(hl:bs.length≤100000000000)(hlg:lo≤g)(w:World)(hS:FS w w fb xb lo g bs 0 0 (.slice none 0 0) (.slice none 0 0))(h1:1≤bs.length)(y:Int)(hy:y=YtnnofopfbeklbaaGreatW.PrintWords.rd bs 0)(h4:y≠4) :
  Calls Tryz.prog 179 #[.pointer (some ⟨g,0,none⟩),.pointer (some ⟨fb,0,none⟩),.pointer (some ⟨xb,0,none⟩)] w fun e W'=>∃er,er≠0∧e=.panicked [Qqm g er]∧∃i u tv fv,FS w W' fb xb lo g bs i u tv fv:=by
 have HS:=QA hS
 have HB:=QA hb
 have hl2:bs.length≤140737488355328:=by omega
 have hft:=Tryz.underlying127
 have HY:=QA hy
 have h4b:(y != 4)=true:=bne_iff_ne.2 h4
 clear hS hb hy
 go_enter Tryz.func179,Tryz.ntmps179
 go_wp2_with (first
  |(go_at_call 175;refine(Qqo lo g bs 1 4 (by decide) _ S1.out.1).mono ?_;rintro ee w9 ⟨rfl,rfl⟩)
  |(go_at_call 174;refine(Qro lo g bs 0 y HY.out HB.out (Int.le_refl _) hl2 (by omega) hlg _ HS.out.le HS.out.1).mono ?_;rintro ee w1 ⟨rfl,hI1,hB1⟩;have S1:=QA (HS.out.cur (j:=1) hI1 hB1);clear hI1 hB1))
 exact⟨rfl,4,by decide,rfl,_,_,_,_,S1.out⟩
theorem fg_n(k fb xb lo g:Nat)(bs:List Int)(hb:CodecP.Bytes bs)(hl:bs.length≤100000000000)(hlg:lo≤g)(w:World)(hS:FS w w fb xb lo g bs 0 0 (.slice none 0 0) (.slice none 0 0))(h1:1≤bs.length)(y:Int)(hy:y=YtnnofopfbeklbaaGreatW.PrintWords.rd bs 0)(h4:y=4)(h2:¬5≤bs.length) :
  Calls Tryz.prog 179 #[.pointer (some ⟨g,0,none⟩),.pointer (some ⟨fb,0,none⟩),.pointer (some ⟨xb,0,none⟩)] w fun e W'=>∃er,er≠0∧e=.panicked [Qqm g er]∧∃i u tv fv,FS w W' fb xb lo g bs i u tv fv:=by
 have HS:=QA hS
 have HB:=QA hb
 have hl2:bs.length≤140737488355328:=by omega
 have hft:=Tryz.underlying127
 have HY:=QA hy
 have h4b:(y != 4)=false:=bne_eq_false_iff_eq.2 h4
 clear hS hb hy
 go_enter Tryz.func179,Tryz.ntmps179
 go_wp2_with (first
  |(go_at_call 180;refine(Qrd lo g bs 1 ⟨by decide,by omega⟩ hl2 (by omega) _ S1.out.le S1.out.1).mono ?_;rintro ee w2 ⟨rfl,hI2,hB2⟩)
  |(go_at_call 174;refine(Qro lo g bs 0 y HY.out HB.out (Int.le_refl _) hl2 (by omega) hlg _ HS.out.le HS.out.1).mono ?_;rintro ee w1 ⟨rfl,hI1,hB1⟩;have S1:=QA (HS.out.cur (j:=1) hI1 hB1);clear hI1 hB1))
 exact⟨rfl,2,by decide,rfl,_,_,_,_,S1.out.cur hI2 hB2⟩
theorem fg_big(k fb xb lo g:Nat)(bs:List Int)(hb:CodecP.Bytes bs)(hl:bs.length≤100000000000)(hlg:lo≤g)(w:World)(hS:FS w w fb xb lo g bs 0 0 (.slice none 0 0) (.slice none 0 0))(h1:1≤bs.length)(y:Int)(hy:y=YtnnofopfbeklbaaGreatW.PrintWords.rd bs 0)(h4:y=4)(h2:5≤bs.length)(n:Nat)(hn:(n:Int)=CodecP.leI ((bs.drop 1).take 4))(hn2:¬n≤1048576) :
  Calls Tryz.prog 179 #[.pointer (some ⟨g,0,none⟩),.pointer (some ⟨fb,0,none⟩),.pointer (some ⟨xb,0,none⟩)] w fun e W'=>∃er,er≠0∧e=.panicked [Qqm g er]∧∃i u tv fv,FS w W' fb xb lo g bs i u tv fv:=by
 have HS:=QA hS
 have HB:=QA hb
 have hl2:bs.length≤140737488355328:=by omega
 have hft:=Tryz.underlying127
 have HY:=QA hy
 have h4b:(y != 4)=false:=bne_eq_false_iff_eq.2 h4
 obtain⟨N,hN⟩:∃N:Int,N=(n:Int):=⟨_,rfl⟩
 have HNN:=QA hN
 have HN:Aside0 (N=CodecP.leI ((bs.drop (1:Int).toNat).take 4)):=⟨by rw[hN];exact hn⟩
 have hnb:decide (1048576<N)=true:=decide_eq_true (by omega)
 clear hS hb hy hn hN
 go_enter Tryz.func179,Tryz.ntmps179
 go_wp2_with (first
  |(go_at_call 175;refine(Qqo lo g bs 5 3 (by decide) _ S2.out.1).mono ?_;rintro ee w9 ⟨rfl,rfl⟩)
  |(go_at_call 180;refine(Qrc lo g bs 1 N HN.out HB.out (by decide) hl2 (by omega) hlg _ S1.out.le S1.out.1).mono ?_;rintro ee w2 ⟨rfl,hI2,hB2⟩;have S2:=QA (S1.out.cur (j:=5) hI2 hB2);clear hI2 hB2)
  |(go_at_call 174;refine(Qro lo g bs 0 y HY.out HB.out (Int.le_refl _) hl2 (by omega) hlg _ HS.out.le HS.out.1).mono ?_;rintro ee w1 ⟨rfl,hI1,hB1⟩;have S1:=QA (HS.out.cur (j:=1) hI1 hB1);clear hI1 hB1))
 exact⟨rfl,3,by decide,rfl,_,_,_,_,S2.out⟩
theorem fg_u(k fb xb lo g:Nat)(bs:List Int)(hb:CodecP.Bytes bs)(hl:bs.length≤100000000000)(hlg:lo≤g)(w:World)(hS:FS w w fb xb lo g bs 0 0 (.slice none 0 0) (.slice none 0 0))(h1:1≤bs.length)(y:Int)(hy:y=YtnnofopfbeklbaaGreatW.PrintWords.rd bs 0)(h4:y=4)(h2:5≤bs.length)(n:Nat)(hn:(n:Int)=CodecP.leI ((bs.drop 1).take 4))(hn2:n≤1048576)(h3:¬9≤bs.length) :
  Calls Tryz.prog 179 #[.pointer (some ⟨g,0,none⟩),.pointer (some ⟨fb,0,none⟩),.pointer (some ⟨xb,0,none⟩)] w fun e W'=>∃er,er≠0∧e=.panicked [Qqm g er]∧∃i u tv fv,FS w W' fb xb lo g bs i u tv fv:=by
 have HS:=QA hS
 have HB:=QA hb
 have hl2:bs.length≤140737488355328:=by omega
 have hft:=Tryz.underlying127
 have HY:=QA hy
 have h4b:(y != 4)=false:=bne_eq_false_iff_eq.2 h4
 obtain⟨N,hN⟩:∃N:Int,N=(n:Int):=⟨_,rfl⟩
 have HNN:=QA hN
 have HN:Aside0 (N=CodecP.leI ((bs.drop (1:Int).toNat).take 4)):=⟨by rw[hN];exact hn⟩
 have hnb:decide (1048576<N)=false:=decide_eq_false (by omega)
 have hnw:IntKind.i64.wrap N=N:=IntWalk.i64_in _ (by omega)
 clear hS hb hy hn hN
 go_enter Tryz.func179,Tryz.ntmps179
 go_wp2_with (first
  |(go_at_call 180;refine(Qrd lo g bs 5 ⟨by decide,by omega⟩ hl2 (by omega) _ S2.out.le S2.out.1).mono ?_;rintro ee w3 ⟨rfl,hI3,hB3⟩)
  |(go_at_call 180;refine(Qrc lo g bs 1 N HN.out HB.out (by decide) hl2 (by omega) hlg _ S1.out.le S1.out.1).mono ?_;rintro ee w2 ⟨rfl,hI2,hB2⟩;have S2:=QA (S1.out.cur (j:=5) hI2 hB2);clear hI2 hB2)
  |(go_at_call 174;refine(Qro lo g bs 0 y HY.out HB.out (Int.le_refl _) hl2 (by omega) hlg _ HS.out.le HS.out.1).mono ?_;rintro ee w1 ⟨rfl,hI1,hB1⟩;have S1:=QA (HS.out.cur (j:=1) hI1 hB1);clear hI1 hB1))
 exact⟨rfl,2,by decide,rfl,_,_,_,_,S2.out.cur hI3 hB3⟩
theorem fg_tab(k fb xb lo g:Nat)(bs:List Int)(hb:CodecP.Bytes bs)(hl:bs.length≤100000000000)(hlg:lo≤g)(w:World)(hS:FS w w fb xb lo g bs 0 0 (.slice none 0 0) (.slice none 0 0))(h1:1≤bs.length)(y:Int)(hy:y=YtnnofopfbeklbaaGreatW.PrintWords.rd bs 0)(h4:y=4)(h2:5≤bs.length)(n:Nat)(hn:(n:Int)=CodecP.leI ((bs.drop 1).take 4))(hn2:n≤1048576)(h3:9≤bs.length)(u:Int)(hu:u=CodecP.leI ((bs.drop 5).take 4))(h5:¬9+12*n≤bs.length) :
  Calls Tryz.prog 179 #[.pointer (some ⟨g,0,none⟩),.pointer (some ⟨fb,0,none⟩),.pointer (some ⟨xb,0,none⟩)] w fun e W'=>∃er,er≠0∧e=.panicked [Qqm g er]∧∃i u tv fv,FS w W' fb xb lo g bs i u tv fv:=by
 have HS:=QA hS
 have HB:=QA hb
 have hl2:bs.length≤140737488355328:=by omega
 have hft:=Tryz.underlying127
 have HY:=QA hy
 have h4b:(y != 4)=false:=bne_eq_false_iff_eq.2 h4
 obtain⟨N,hN⟩:∃N:Int,N=(n:Int):=⟨_,rfl⟩
 have HNN:=QA hN
 have HN:Aside0 (N=CodecP.leI ((bs.drop (1:Int).toNat).take 4)):=⟨by rw[hN];exact hn⟩
 have hnb:decide (1048576<N)=false:=decide_eq_false (by omega)
 have hnw:IntKind.i64.wrap N=N:=IntWalk.i64_in _ (by omega)
 have HU:Aside0 (u=CodecP.leI ((bs.drop (5:Int).toNat).take 4)):=⟨hu⟩
 have HH5:=QA h5
 clear hS hb hy hn hu hN
 go_enter Tryz.func179,Tryz.ntmps179
 go_wp2_with (first
  |(go_at_call 181;refine(Qrm lo g bs 9 N ⟨by decide,by omega⟩ hl2 (by have:=HNN.out;omega) (by have:=HNN.out;have:=HH5.out;omega) _ T3.out.le T3.out.1).mono ?_;rintro ee w4 ⟨rfl,hI4,hB4⟩)
  |(go_at_call 180;refine(Qrc lo g bs 5 u HU.out HB.out (by decide) hl2 (by omega) hlg _ S2.out.le S2.out.1).mono ?_;rintro ee w3 ⟨rfl,hI3,hB3⟩;have S3:=QA (S2.out.cur (j:=9) hI3 hB3);obtain⟨⟨c30,c31,c32⟩,f30,f31,f32⟩:=S3.out.cells;have T3:=QA (S3.out.su u);clear hI3 hB3)
  |(go_at_call 180;refine(Qrc lo g bs 1 N HN.out HB.out (by decide) hl2 (by omega) hlg _ S1.out.le S1.out.1).mono ?_;rintro ee w2 ⟨rfl,hI2,hB2⟩;have S2:=QA (S1.out.cur (j:=5) hI2 hB2);clear hI2 hB2)
  |(go_at_call 174;refine(Qro lo g bs 0 y HY.out HB.out (Int.le_refl _) hl2 (by omega) hlg _ HS.out.le HS.out.1).mono ?_;rintro ee w1 ⟨rfl,hI1,hB1⟩;have S1:=QA (HS.out.cur (j:=1) hI1 hB1);clear hI1 hB1))
 exact⟨rfl,2,by decide,rfl,_,_,_,_,T3.out.cur hI4 hB4⟩
theorem fg_ris(k fb xb lo g:Nat)(bs:List Int)(hb:CodecP.Bytes bs)(hl:bs.length≤100000000000)(hlg:lo≤g)(w:World)(hS:FS w w fb xb lo g bs 0 0 (.slice none 0 0) (.slice none 0 0))(h1:1≤bs.length)(y:Int)(hy:y=YtnnofopfbeklbaaGreatW.PrintWords.rd bs 0)(h4:y=4)(h2:5≤bs.length)(n:Nat)(hn:(n:Int)=CodecP.leI ((bs.drop 1).take 4))(hn2:n≤1048576)(h3:9≤bs.length)(u:Int)(hu:u=CodecP.leI ((bs.drop 5).take 4))(h5:9+12*n≤bs.length)(hr:Qcq.f k (Qrj bs 9 n)=some false) :
  Calls Tryz.prog 179 #[.pointer (some ⟨g,0,none⟩),.pointer (some ⟨fb,0,none⟩),.pointer (some ⟨xb,0,none⟩)] w fun e W'=>∃er,er≠0∧e=.panicked [Qqm g er]∧∃i u tv fv,FS w W' fb xb lo g bs i u tv fv:=by
 have HS:=QA hS
 have HB:=QA hb
 have hl2:bs.length≤140737488355328:=by omega
 have hft:=Tryz.underlying127
 have HY:=QA hy
 have h4b:(y != 4)=false:=bne_eq_false_iff_eq.2 h4
 obtain⟨N,hN⟩:∃N:Int,N=(n:Int):=⟨_,rfl⟩
 have HNN:=QA hN
 have HN:Aside0 (N=CodecP.leI ((bs.drop (1:Int).toNat).take 4)):=⟨by rw[hN];exact hn⟩
 have hnb:decide (1048576<N)=false:=decide_eq_false (by omega)
 have hnw:IntKind.i64.wrap N=N:=IntWalk.i64_in _ (by omega)
 have HU:Aside0 (u=CodecP.leI ((bs.drop (5:Int).toNat).take 4)):=⟨hu⟩
 have HH5:=QA h5
 have HR:=QA hr
 clear hS hb hy hn hu hr hN
 go_enter Tryz.func179,Tryz.ntmps179
 go_wp2_with (first
  |(go_at_call 181;refine(Qrn k lo g bs 9 n N HNN.out false HB.out hl HH5.out HR.out hlg _ T3.out.le T3.out.1).mono ?_;rintro ee w4 ⟨hI4,hB4,⟨hf,_⟩ |⟨_,rfl⟩⟩;(exact absurd hf (by decide)))
  |(go_at_call 180;refine(Qrc lo g bs 5 u HU.out HB.out (by decide) hl2 (by omega) hlg _ S2.out.le S2.out.1).mono ?_;rintro ee w3 ⟨rfl,hI3,hB3⟩;have S3:=QA (S2.out.cur (j:=9) hI3 hB3);obtain⟨⟨c30,c31,c32⟩,f30,f31,f32⟩:=S3.out.cells;have T3:=QA (S3.out.su u);clear hI3 hB3)
  |(go_at_call 180;refine(Qrc lo g bs 1 N HN.out HB.out (by decide) hl2 (by omega) hlg _ S1.out.le S1.out.1).mono ?_;rintro ee w2 ⟨rfl,hI2,hB2⟩;have S2:=QA (S1.out.cur (j:=5) hI2 hB2);clear hI2 hB2)
  |(go_at_call 174;refine(Qro lo g bs 0 y HY.out HB.out (Int.le_refl _) hl2 (by omega) hlg _ HS.out.le HS.out.1).mono ?_;rintro ee w1 ⟨rfl,hI1,hB1⟩;have S1:=QA (HS.out.cur (j:=1) hI1 hB1);clear hI1 hB1))
 exact⟨rfl,8,by decide,rfl,_,_,_,_,T3.out.cur hI4 hB4⟩
theorem fg_fen(k fb xb lo g:Nat)(bs:List Int)(hb:CodecP.Bytes bs)(hl:bs.length≤100000000000)(hlg:lo≤g)(w:World)(hS:FS w w fb xb lo g bs 0 0 (.slice none 0 0) (.slice none 0 0))(h1:1≤bs.length)(y:Int)(hy:y=YtnnofopfbeklbaaGreatW.PrintWords.rd bs 0)(h4:y=4)(h2:5≤bs.length)(n:Nat)(hn:(n:Int)=CodecP.leI ((bs.drop 1).take 4))(hn2:n≤1048576)(h3:9≤bs.length)(u:Int)(hu:u=CodecP.leI ((bs.drop 5).take 4))(h5:9+12*n≤bs.length)(hr:Qcq.f k (Qrj bs 9 n)=some true)(m:Nat)(hm:m=(n+15)/16)(h6:¬9+12*n+8*m≤bs.length) :
  Calls Tryz.prog 179 #[.pointer (some ⟨g,0,none⟩),.pointer (some ⟨fb,0,none⟩),.pointer (some ⟨xb,0,none⟩)] w fun e W'=>∃er,er≠0∧e=.panicked [Qqm g er]∧∃i u tv fv,FS w W' fb xb lo g bs i u tv fv:=by
 have HS:=QA hS
 have HB:=QA hb
 have hl2:bs.length≤140737488355328:=by omega
 have hft:=Tryz.underlying127
 have HY:=QA hy
 have h4b:(y != 4)=false:=bne_eq_false_iff_eq.2 h4
 obtain⟨N,hN⟩:∃N:Int,N=(n:Int):=⟨_,rfl⟩
 have HNN:=QA hN
 have HN:Aside0 (N=CodecP.leI ((bs.drop (1:Int).toNat).take 4)):=⟨by rw[hN];exact hn⟩
 have hnb:decide (1048576<N)=false:=decide_eq_false (by omega)
 have hnw:IntKind.i64.wrap N=N:=IntWalk.i64_in _ (by omega)
 have HU:Aside0 (u=CodecP.leI ((bs.drop (5:Int).toNat).take 4)):=⟨hu⟩
 have HH5:=QA h5
 have HR:=QA hr
 obtain⟨M,hM⟩:∃M:Int,M=(m:Int):=⟨_,rfl⟩
 have HM:=QA hM
 have HC:Aside0 (Qcf.f N=some M):=⟨by rw[hM,hm,hN];exact Qrz n (by omega)⟩
 have HH6:=QA h6
 clear hS hb hy hn hu hr hm hM hN
 go_enter Tryz.func179,Tryz.ntmps179
 go_wp2_with (first
  |(go_at_call 182;refine(Qrh lo g bs ((9+12*n:Nat):Int) M ⟨by omega,by have:=HH5.out;omega⟩ hl2 (by have:=HM.out;omega) (by have:=HM.out;have:=HH5.out;have:=HH6.out;omega) _ T4B.out.le T4B.out.1).mono ?_;rintro ee w5 ⟨rfl,hI5,hB5⟩)
  |(go_at_call 183;refine(Qcf.calls N M _ HC.out).mono ?_;rintro ee w4b ⟨rfl,hb4b⟩;have T4B:=QA (T4.out.cur (T4.out.1.kept hb4b) (Bw.below hb4b T4.out.le));have R4B:=QA (Kd.R_below R4.out hb4b);clear hb4b)
  |(go_at_call 181;refine(Qrn k lo g bs 9 n N HNN.out true HB.out hl HH5.out HR.out hlg _ T3.out.le T3.out.1).mono ?_;rintro ee w4 ⟨hI4,hB4,⟨_,tv,rfl,hR4⟩ |⟨hf,_⟩⟩;rotate_left;(exact absurd hf (by decide));obtain⟨A4,c4,hv4⟩:=Kd.R_slice hR4;subst hv4;have S4:=QA (T3.out.cur hI4 hB4);obtain⟨⟨c40,c41,c42⟩,f40,f41,f42⟩:=S4.out.cells;have T4:=QA (S4.out.st (.slice A4 (Qrj bs 9 n).length c4));have R4:=QA (Kd.R_set hR4 S4.out.2.1 (by decide) 1 (.slice A4 (Qrj bs 9 n).length c4));clear hI4 hB4 hR4)
  |(go_at_call 180;refine(Qrc lo g bs 5 u HU.out HB.out (by decide) hl2 (by omega) hlg _ S2.out.le S2.out.1).mono ?_;rintro ee w3 ⟨rfl,hI3,hB3⟩;have S3:=QA (S2.out.cur (j:=9) hI3 hB3);obtain⟨⟨c30,c31,c32⟩,f30,f31,f32⟩:=S3.out.cells;have T3:=QA (S3.out.su u);clear hI3 hB3)
  |(go_at_call 180;refine(Qrc lo g bs 1 N HN.out HB.out (by decide) hl2 (by omega) hlg _ S1.out.le S1.out.1).mono ?_;rintro ee w2 ⟨rfl,hI2,hB2⟩;have S2:=QA (S1.out.cur (j:=5) hI2 hB2);clear hI2 hB2)
  |(go_at_call 174;refine(Qro lo g bs 0 y HY.out HB.out (Int.le_refl _) hl2 (by omega) hlg _ HS.out.le HS.out.1).mono ?_;rintro ee w1 ⟨rfl,hI1,hB1⟩;have S1:=QA (HS.out.cur (j:=1) hI1 hB1);clear hI1 hB1))
 exact⟨rfl,2,by decide,rfl,_,_,_,_,T4B.out.cur hI5 hB5⟩
theorem fg_srt(k fb xb lo g:Nat)(bs:List Int)(hb:CodecP.Bytes bs)(hl:bs.length≤100000000000)(hlg:lo≤g)(w:World)(hS:FS w w fb xb lo g bs 0 0 (.slice none 0 0) (.slice none 0 0))(h1:1≤bs.length)(y:Int)(hy:y=YtnnofopfbeklbaaGreatW.PrintWords.rd bs 0)(h4:y=4)(h2:5≤bs.length)(n:Nat)(hn:(n:Int)=CodecP.leI ((bs.drop 1).take 4))(hn2:n≤1048576)(h3:9≤bs.length)(u:Int)(hu:u=CodecP.leI ((bs.drop 5).take 4))(h5:9+12*n≤bs.length)(hr:Qcq.f k (Qrj bs 9 n)=some true)(m:Nat)(hm:m=(n+15)/16)(h6:9+12*n+8*m≤bs.length)(hs:Qcn.f k (Qre bs (9+12*n) m)=some false) :
  Calls Tryz.prog 179 #[.pointer (some ⟨g,0,none⟩),.pointer (some ⟨fb,0,none⟩),.pointer (some ⟨xb,0,none⟩)] w fun e W'=>∃er,er≠0∧e=.panicked [Qqm g er]∧∃i u tv fv,FS w W' fb xb lo g bs i u tv fv:=by
 have HS:=QA hS
 have HB:=QA hb
 have hl2:bs.length≤140737488355328:=by omega
 have hft:=Tryz.underlying127
 have HY:=QA hy
 have h4b:(y != 4)=false:=bne_eq_false_iff_eq.2 h4
 obtain⟨N,hN⟩:∃N:Int,N=(n:Int):=⟨_,rfl⟩
 have HNN:=QA hN
 have HN:Aside0 (N=CodecP.leI ((bs.drop (1:Int).toNat).take 4)):=⟨by rw[hN];exact hn⟩
 have hnb:decide (1048576<N)=false:=decide_eq_false (by omega)
 have hnw:IntKind.i64.wrap N=N:=IntWalk.i64_in _ (by omega)
 have HU:Aside0 (u=CodecP.leI ((bs.drop (5:Int).toNat).take 4)):=⟨hu⟩
 have HH5:=QA h5
 have HR:=QA hr
 obtain⟨M,hM⟩:∃M:Int,M=(m:Int):=⟨_,rfl⟩
 have HM:=QA hM
 have HC:Aside0 (Qcf.f N=some M):=⟨by rw[hM,hm,hN];exact Qrz n (by omega)⟩
 have HH6:=QA h6
 have HSO:=QA hs
 clear hS hb hy hn hu hr hm hs hM hN
 go_enter Tryz.func179,Tryz.ntmps179
 go_wp2_with (first
  |(go_at_call 182;refine(Qri k lo g bs (9+12*n) m M HM.out false HB.out hl2 HH6.out HSO.out hlg _ T4B.out.le T4B.out.1).mono ?_;rintro ee w5 ⟨hI5,hB5,⟨hf,_⟩ |⟨_,rfl⟩⟩;(exact absurd hf (by decide)))
  |(go_at_call 183;refine(Qcf.calls N M _ HC.out).mono ?_;rintro ee w4b ⟨rfl,hb4b⟩;have T4B:=QA (T4.out.cur (T4.out.1.kept hb4b) (Bw.below hb4b T4.out.le));have R4B:=QA (Kd.R_below R4.out hb4b);clear hb4b)
  |(go_at_call 181;refine(Qrn k lo g bs 9 n N HNN.out true HB.out hl HH5.out HR.out hlg _ T3.out.le T3.out.1).mono ?_;rintro ee w4 ⟨hI4,hB4,⟨_,tv,rfl,hR4⟩ |⟨hf,_⟩⟩;rotate_left;(exact absurd hf (by decide));obtain⟨A4,c4,hv4⟩:=Kd.R_slice hR4;subst hv4;have S4:=QA (T3.out.cur hI4 hB4);obtain⟨⟨c40,c41,c42⟩,f40,f41,f42⟩:=S4.out.cells;have T4:=QA (S4.out.st (.slice A4 (Qrj bs 9 n).length c4));have R4:=QA (Kd.R_set hR4 S4.out.2.1 (by decide) 1 (.slice A4 (Qrj bs 9 n).length c4));clear hI4 hB4 hR4)
  |(go_at_call 180;refine(Qrc lo g bs 5 u HU.out HB.out (by decide) hl2 (by omega) hlg _ S2.out.le S2.out.1).mono ?_;rintro ee w3 ⟨rfl,hI3,hB3⟩;have S3:=QA (S2.out.cur (j:=9) hI3 hB3);obtain⟨⟨c30,c31,c32⟩,f30,f31,f32⟩:=S3.out.cells;have T3:=QA (S3.out.su u);clear hI3 hB3)
  |(go_at_call 180;refine(Qrc lo g bs 1 N HN.out HB.out (by decide) hl2 (by omega) hlg _ S1.out.le S1.out.1).mono ?_;rintro ee w2 ⟨rfl,hI2,hB2⟩;have S2:=QA (S1.out.cur (j:=5) hI2 hB2);clear hI2 hB2)
  |(go_at_call 174;refine(Qro lo g bs 0 y HY.out HB.out (Int.le_refl _) hl2 (by omega) hlg _ HS.out.le HS.out.1).mono ?_;rintro ee w1 ⟨rfl,hI1,hB1⟩;have S1:=QA (HS.out.cur (j:=1) hI1 hB1);clear hI1 hB1))
 exact⟨rfl,8,by decide,rfl,_,_,_,_,T4B.out.cur hI5 hB5⟩
theorem fg_long(k fb xb lo g:Nat)(bs:List Int)(hb:CodecP.Bytes bs)(hl:bs.length≤100000000000)(hlg:lo≤g)(w:World)(hS:FS w w fb xb lo g bs 0 0 (.slice none 0 0) (.slice none 0 0))(h1:1≤bs.length)(y:Int)(hy:y=YtnnofopfbeklbaaGreatW.PrintWords.rd bs 0)(h4:y=4)(h2:5≤bs.length)(n:Nat)(hn:(n:Int)=CodecP.leI ((bs.drop 1).take 4))(hn2:n≤1048576)(h3:9≤bs.length)(u:Int)(hu:u=CodecP.leI ((bs.drop 5).take 4))(h5:9+12*n≤bs.length)(hr:Qcq.f k (Qrj bs 9 n)=some true)(m:Nat)(hm:m=(n+15)/16)(h6:9+12*n+8*m≤bs.length)(hs:Qcn.f k (Qre bs (9+12*n) m)=some true)(h7:9+12*n+8*m<bs.length) :
  Calls Tryz.prog 179 #[.pointer (some ⟨g,0,none⟩),.pointer (some ⟨fb,0,none⟩),.pointer (some ⟨xb,0,none⟩)] w fun e W'=>∃er,er≠0∧e=.panicked [Qqm g er]∧∃i u tv fv,FS w W' fb xb lo g bs i u tv fv:=by
 have HS:=QA hS
 have HB:=QA hb
 have hl2:bs.length≤140737488355328:=by omega
 have hft:=Tryz.underlying127
 have HY:=QA hy
 have h4b:(y != 4)=false:=bne_eq_false_iff_eq.2 h4
 obtain⟨N,hN⟩:∃N:Int,N=(n:Int):=⟨_,rfl⟩
 have HNN:=QA hN
 have HN:Aside0 (N=CodecP.leI ((bs.drop (1:Int).toNat).take 4)):=⟨by rw[hN];exact hn⟩
 have hnb:decide (1048576<N)=false:=decide_eq_false (by omega)
 have hnw:IntKind.i64.wrap N=N:=IntWalk.i64_in _ (by omega)
 have HU:Aside0 (u=CodecP.leI ((bs.drop (5:Int).toNat).take 4)):=⟨hu⟩
 have HH5:=QA h5
 have HR:=QA hr
 obtain⟨M,hM⟩:∃M:Int,M=(m:Int):=⟨_,rfl⟩
 have HM:=QA hM
 have HC:Aside0 (Qcf.f N=some M):=⟨by rw[hM,hm,hN];exact Qrz n (by omega)⟩
 have HH6:=QA h6
 have HSO:=QA hs
 clear hS hb hy hn hu hr hm hs hM hN
 go_enter Tryz.func179,Tryz.ntmps179
 go_wp2_with (first
  |(go_at_call 178;refine(Qra lo g bs ((9+12*n+8*m:Nat):Int) ⟨by omega,by omega⟩ hl2 (by omega) _ T5.out.le T5.out.1).mono ?_;rintro ee w6 ⟨rfl,hI6,hB6⟩)
  |(go_at_call 182;refine(Qri k lo g bs (9+12*n) m M HM.out true HB.out hl2 HH6.out HSO.out hlg _ T4B.out.le T4B.out.1).mono ?_;rintro ee w5 ⟨hI5,hB5,⟨_,fv,rfl,hR5⟩ |⟨hf,_⟩⟩;rotate_left;(exact absurd hf (by decide));obtain⟨A5,c5,hv5⟩:=Kd.R_slice hR5;subst hv5;have S5:=QA (T4B.out.cur hI5 hB5);obtain⟨⟨c50,c51,c52⟩,f50,f51,f52⟩:=S5.out.cells;have T5:=QA (S5.out.sf (.slice A5 (Qre bs (9+12*n) m).length c5));have R5:=QA (Kd.R_set (RE.cur R4B.out T4B.out.1 hB5) S5.out.2.2.1 (by decide) 0 (.slice A5 (Qre bs (9+12*n) m).length c5));have X5:=QA (Kd.R_set hR5 S5.out.2.2.1 (by decide) 0 (.slice A5 (Qre bs (9+12*n) m).length c5));clear hI5 hB5 hR5)
  |(go_at_call 183;refine(Qcf.calls N M _ HC.out).mono ?_;rintro ee w4b ⟨rfl,hb4b⟩;have T4B:=QA (T4.out.cur (T4.out.1.kept hb4b) (Bw.below hb4b T4.out.le));have R4B:=QA (Kd.R_below R4.out hb4b);clear hb4b)
  |(go_at_call 181;refine(Qrn k lo g bs 9 n N HNN.out true HB.out hl HH5.out HR.out hlg _ T3.out.le T3.out.1).mono ?_;rintro ee w4 ⟨hI4,hB4,⟨_,tv,rfl,hR4⟩ |⟨hf,_⟩⟩;rotate_left;(exact absurd hf (by decide));obtain⟨A4,c4,hv4⟩:=Kd.R_slice hR4;subst hv4;have S4:=QA (T3.out.cur hI4 hB4);obtain⟨⟨c40,c41,c42⟩,f40,f41,f42⟩:=S4.out.cells;have T4:=QA (S4.out.st (.slice A4 (Qrj bs 9 n).length c4));have R4:=QA (Kd.R_set hR4 S4.out.2.1 (by decide) 1 (.slice A4 (Qrj bs 9 n).length c4));clear hI4 hB4 hR4)
  |(go_at_call 180;refine(Qrc lo g bs 5 u HU.out HB.out (by decide) hl2 (by omega) hlg _ S2.out.le S2.out.1).mono ?_;rintro ee w3 ⟨rfl,hI3,hB3⟩;have S3:=QA (S2.out.cur (j:=9) hI3 hB3);obtain⟨⟨c30,c31,c32⟩,f30,f31,f32⟩:=S3.out.cells;have T3:=QA (S3.out.su u);clear hI3 hB3)
  |(go_at_call 180;refine(Qrc lo g bs 1 N HN.out HB.out (by decide) hl2 (by omega) hlg _ S1.out.le S1.out.1).mono ?_;rintro ee w2 ⟨rfl,hI2,hB2⟩;have S2:=QA (S1.out.cur (j:=5) hI2 hB2);clear hI2 hB2)
  |(go_at_call 174;refine(Qro lo g bs 0 y HY.out HB.out (Int.le_refl _) hl2 (by omega) hlg _ HS.out.le HS.out.1).mono ?_;rintro ee w1 ⟨rfl,hI1,hB1⟩;have S1:=QA (HS.out.cur (j:=1) hI1 hB1);clear hI1 hB1))
 exact⟨rfl,3,by decide,rfl,_,_,_,_,T5.out.cur hI6 hB6⟩
theorem fg_ok(k fb xb lo g:Nat)(bs:List Int)(hb:CodecP.Bytes bs)(hl:bs.length≤100000000000)(hlg:lo≤g)(w:World)(hS:FS w w fb xb lo g bs 0 0 (.slice none 0 0) (.slice none 0 0))(h1:1≤bs.length)(y:Int)(hy:y=YtnnofopfbeklbaaGreatW.PrintWords.rd bs 0)(h4:y=4)(h2:5≤bs.length)(n:Nat)(hn:(n:Int)=CodecP.leI ((bs.drop 1).take 4))(hn2:n≤1048576)(h3:9≤bs.length)(u:Int)(hu:u=CodecP.leI ((bs.drop 5).take 4))(h5:9+12*n≤bs.length)(hr:Qcq.f k (Qrj bs 9 n)=some true)(m:Nat)(hm:m=(n+15)/16)(h6:9+12*n+8*m≤bs.length)(hs:Qcn.f k (Qre bs (9+12*n) m)=some true)(h7:bs.length=9+12*n+8*m) :
  Calls Tryz.prog 179 #[.pointer (some ⟨g,0,none⟩),.pointer (some ⟨fb,0,none⟩),.pointer (some ⟨xb,0,none⟩)] w fun e W'=>e=.returned (.tuple #[])∧∃i tv fv,FS w W' fb xb lo g bs i u tv fv∧RE W' 0 tv (Qrj bs 9 n)∧RU W' 0 fv (Qre bs (9+12*n) m):=by
 have HS:=QA hS
 have HB:=QA hb
 have hl2:bs.length≤140737488355328:=by omega
 have hft:=Tryz.underlying127
 have HY:=QA hy
 have h4b:(y != 4)=false:=bne_eq_false_iff_eq.2 h4
 obtain⟨N,hN⟩:∃N:Int,N=(n:Int):=⟨_,rfl⟩
 have HNN:=QA hN
 have HN:Aside0 (N=CodecP.leI ((bs.drop (1:Int).toNat).take 4)):=⟨by rw[hN];exact hn⟩
 have hnb:decide (1048576<N)=false:=decide_eq_false (by omega)
 have hnw:IntKind.i64.wrap N=N:=IntWalk.i64_in _ (by omega)
 have HU:Aside0 (u=CodecP.leI ((bs.drop (5:Int).toNat).take 4)):=⟨hu⟩
 have HH5:=QA h5
 have HR:=QA hr
 obtain⟨M,hM⟩:∃M:Int,M=(m:Int):=⟨_,rfl⟩
 have HM:=QA hM
 have HC:Aside0 (Qcf.f N=some M):=⟨by rw[hM,hm,hN];exact Qrz n (by omega)⟩
 have HH6:=QA h6
 have HSO:=QA hs
 clear hS hb hy hn hu hr hm hs hM hN
 go_enter Tryz.func179,Tryz.ntmps179
 go_wp2_with (first
  |(go_at_call 178;refine(Qqz lo g bs ((9+12*n+8*m:Nat):Int) ⟨by omega,by omega⟩ hl2 (by omega) _ T5.out.le T5.out.1).mono ?_;rintro ee w6 ⟨rfl,hI6,hB6⟩;have R6:=QA (RE.cur R5.out T5.out.1 hB6);have X6:=QA (RU.cur X5.out T5.out.1 hB6))
  |(go_at_call 182;refine(Qri k lo g bs (9+12*n) m M HM.out true HB.out hl2 HH6.out HSO.out hlg _ T4B.out.le T4B.out.1).mono ?_;rintro ee w5 ⟨hI5,hB5,⟨_,fv,rfl,hR5⟩ |⟨hf,_⟩⟩;rotate_left;(exact absurd hf (by decide));obtain⟨A5,c5,hv5⟩:=Kd.R_slice hR5;subst hv5;have S5:=QA (T4B.out.cur hI5 hB5);obtain⟨⟨c50,c51,c52⟩,f50,f51,f52⟩:=S5.out.cells;have T5:=QA (S5.out.sf (.slice A5 (Qre bs (9+12*n) m).length c5));have R5:=QA (Kd.R_set (RE.cur R4B.out T4B.out.1 hB5) S5.out.2.2.1 (by decide) 0 (.slice A5 (Qre bs (9+12*n) m).length c5));have X5:=QA (Kd.R_set hR5 S5.out.2.2.1 (by decide) 0 (.slice A5 (Qre bs (9+12*n) m).length c5));clear hI5 hB5 hR5)
  |(go_at_call 183;refine(Qcf.calls N M _ HC.out).mono ?_;rintro ee w4b ⟨rfl,hb4b⟩;have T4B:=QA (T4.out.cur (T4.out.1.kept hb4b) (Bw.below hb4b T4.out.le));have R4B:=QA (Kd.R_below R4.out hb4b);clear hb4b)
  |(go_at_call 181;refine(Qrn k lo g bs 9 n N HNN.out true HB.out hl HH5.out HR.out hlg _ T3.out.le T3.out.1).mono ?_;rintro ee w4 ⟨hI4,hB4,⟨_,tv,rfl,hR4⟩ |⟨hf,_⟩⟩;rotate_left;(exact absurd hf (by decide));obtain⟨A4,c4,hv4⟩:=Kd.R_slice hR4;subst hv4;have S4:=QA (T3.out.cur hI4 hB4);obtain⟨⟨c40,c41,c42⟩,f40,f41,f42⟩:=S4.out.cells;have T4:=QA (S4.out.st (.slice A4 (Qrj bs 9 n).length c4));have R4:=QA (Kd.R_set hR4 S4.out.2.1 (by decide) 1 (.slice A4 (Qrj bs 9 n).length c4));clear hI4 hB4 hR4)
  |(go_at_call 180;refine(Qrc lo g bs 5 u HU.out HB.out (by decide) hl2 (by omega) hlg _ S2.out.le S2.out.1).mono ?_;rintro ee w3 ⟨rfl,hI3,hB3⟩;have S3:=QA (S2.out.cur (j:=9) hI3 hB3);obtain⟨⟨c30,c31,c32⟩,f30,f31,f32⟩:=S3.out.cells;have T3:=QA (S3.out.su u);clear hI3 hB3)
  |(go_at_call 180;refine(Qrc lo g bs 1 N HN.out HB.out (by decide) hl2 (by omega) hlg _ S1.out.le S1.out.1).mono ?_;rintro ee w2 ⟨rfl,hI2,hB2⟩;have S2:=QA (S1.out.cur (j:=5) hI2 hB2);clear hI2 hB2)
  |(go_at_call 174;refine(Qro lo g bs 0 y HY.out HB.out (Int.le_refl _) hl2 (by omega) hlg _ HS.out.le HS.out.1).mono ?_;rintro ee w1 ⟨rfl,hI1,hB1⟩;have S1:=QA (HS.out.cur (j:=1) hI1 hB1);clear hI1 hB1))
 go_end0
 exact⟨rfl,_,_,_,T5.out.cur hI6 hB6,Kd.R_lower R6.out (Nat.zero_le _),Kd.R_lower X6.out (Nat.zero_le _)⟩
theorem Qsa{α:Type}{f:Nat→Option α}(h:∀k,LeO (f k) (f (k+1))):∀ {j k:Nat},j≤k→LeO (f j) (f k)
 | j,0,hjk=>by
  obtain rfl:j=0:=by omega
  exact LeO.refl _
 | j,k+1,hjk=>by
  rcases Nat.lt_or_ge j (k+1)with h1|h1
  ·exact(Qsa h (by omega)).trans (h k)
  ·obtain rfl:j=k+1:=by omega
   exact LeO.refl _
theorem Qsb(a b:Int):Qah.f a b=some (decide (a<b)):=by
 simp[Qah.f,Qak.f]
theorem Qsc(l:List Int)(hl:l.length≤1099511627776):∀(d k:Nat),(d=0∨d<l.length)→d+1≤k→∃s,Qcn.l0 k l (d:Int)=some s∧((∀j:Nat,j<d→rd l (j:Int)≤rd l ((j+1:Nat):Int))→s=true)
 | 0,k+1,_,_=>⟨true,by unfold Qcn.l0;rw[if_neg (by decide)],fun _=>rfl⟩
 | d+1,k+1,hd,hk=>by
  have hw:wrap64 (((d+1:Nat):Int)-1)=(d:Int):=by unfold wrap64;omega
  obtain⟨s,hs,hp⟩:=Qsc l hl d k (by omega) (by omega)
  unfold Qcn.l0
  rw[if_pos (by omega),if_pos (by omega),if_pos (by omega),hw,if_pos (by omega),if_pos (by omega),Qsb,Option.bind_some]
  by_cases h:rd l ((d+1:Nat):Int)<rd l (d:Int)
  ·exact⟨false,by rw[if_pos (decide_eq_true h)],fun q=>by have:=q d (by omega);omega⟩
  ·exact⟨s,by rw[if_neg (by simpa using h)];exact hs,fun q=>hp (fun j hj=>q j (by omega))⟩
def srtB(l:List Int):Bool:=(Qcn.f (l.length+8) l).getD false
theorem Qsd(l:List Int)(hl:l.length≤1099511627776):Qcn.f (l.length+8) l=some (srtB l)∧((∀j:Nat,j+1<l.length→rd l (j:Int)≤rd l ((j+1:Nat):Int))→srtB l=true):=by
 have h:∃s,Qcn.f (l.length+8) l=some s∧((∀j:Nat,j+1<l.length→rd l (j:Int)≤rd l ((j+1:Nat):Int))→s=true):=by
  unfold Qcn.f
  cases hn:l.length with
  | zero =>
   rw[show wrap64 (((0:Nat):Int)-1)=-1 by unfold wrap64;omega]
   exact⟨true,by unfold Qcn.l0;rw[if_neg (by decide)],fun _=>rfl⟩
  | succ n =>
   rw[show wrap64 (((n+1:Nat):Int)-1)=(n:Int)by unfold wrap64;omega]
   obtain⟨s,hs,hp⟩:=Qsc l hl n (n+1+8) (by omega) (by omega)
   exact⟨s,hs,fun q=>hp (fun j hj=>q j (by omega))⟩
 obtain⟨s,hs,hp⟩:=h
 have e:srtB l=s:=by unfold srtB;rw[hs];rfl
 rw[e]
 exact⟨hs,hp⟩
def Qse (bs:List Int):Option (Int × List Ent × List Int) :=
 if 9≤bs.length∧rd bs 0=4 then
  if(CodecP.leI ((bs.drop 1).take 4)).toNat≤1048576∧bs.length=9+12*(CodecP.leI ((bs.drop 1).take 4)).toNat+8*(((CodecP.leI ((bs.drop 1).take 4)).toNat+15)/16)then
   if Qpw (Qrj bs 9 (CodecP.leI ((bs.drop 1).take 4)).toNat)=true∧srtB (Qre bs (9+12*(CodecP.leI ((bs.drop 1).take 4)).toNat) (((CodecP.leI ((bs.drop 1).take 4)).toNat+15)/16))=true then
    some (CodecP.leI ((bs.drop 5).take 4),Qrj bs 9 (CodecP.leI ((bs.drop 1).take 4)).toNat,Qre bs (9+12*(CodecP.leI ((bs.drop 1).take 4)).toNat) (((CodecP.leI ((bs.drop 1).take 4)).toNat+15)/16))
   else none
  else none
 else none
theorem Qsf (fb xb lo g:Nat) (bs:List Int) (hb:CodecP.Bytes bs) (hl:bs.length≤100000000000) (hlg:lo≤g) (w:World) (hS:FS w w fb xb lo g bs 0 0 (.slice none 0 0) (.slice none 0 0)) :
  Calls Tryz.prog 179 #[.pointer (some ⟨g,0,none⟩),.pointer (some ⟨fb,0,none⟩),.pointer (some ⟨xb,0,none⟩)] w fun e W' =>
   match Qse bs with
   | some (u,t,x)=>e=.returned (.tuple #[])∧∃i tv fv,FS w W' fb xb lo g bs i u tv fv∧RE W' 0 tv t∧RU W' 0 fv x
   | none=>∃er,er≠0∧e=.panicked [Qqm g er]∧∃i u tv fv,FS w W' fb xb lo g bs i u tv fv:=by
 unfold Qse
 obtain⟨n,hn⟩:∃n,n=(CodecP.leI ((bs.drop 1).take 4)).toNat:=⟨_,rfl⟩
 obtain⟨m,hm⟩:∃m,m=(n+15)/16:=⟨_,rfl⟩
 have hnI:(n:Int)=CodecP.leI ((bs.drop 1).take 4):=by
  have:=(CodecP.leI_range ((hb.drop 1).take 4)).1
  omega
 rw[← hn,← hm]
 by_cases h1:1≤bs.length
 ·by_cases h4:rd bs 0=4
  ·by_cases h2:5≤bs.length
   ·by_cases hn2:n≤1048576
    ·by_cases h3:9≤bs.length
     ·rw [if_pos ⟨h3,h4⟩]
      by_cases h5:9+12*n≤bs.length
      ·have hrt:=Qqa (Qrj bs 9 n) (by rw[Qrl];omega)
       by_cases hr:Qpw (Qrj bs 9 n)=true
       ·rw [hr]at hrt
        by_cases h6:9+12*n+8*m≤bs.length
        ·have hst:=(Qsd (Qre bs (9+12*n) m) (by rw[Qrg];omega)).1
         obtain⟨k,hk1,hk2⟩:∃k,Qcq.f k (Qrj bs 9 n)=some true∧Qcn.f k (Qre bs (9+12*n) m)=some (srtB (Qre bs (9+12*n) m)) :=
          ⟨_,Qsa (Qcq.mono _) (Nat.le_max_left _ _) _ hrt,Qsa (Qcn.mono _) (Nat.le_max_right _ _) _ hst⟩
         by_cases hs:srtB (Qre bs (9+12*n) m)=true
         ·rw[hs]at hk2
          by_cases h7:bs.length=9+12*n+8*m
          ·rw[if_pos ⟨hn2,h7⟩,if_pos ⟨hr,hs⟩]
           exact fg_ok k fb xb lo g bs hb hl hlg w hS h1 _ rfl h4 h2 n hnI hn2 h3 _ rfl h5 hk1 m hm h6 hk2 h7
          ·rw[if_neg (fun h=>h7 h.2)]
           exact fg_long k fb xb lo g bs hb hl hlg w hS h1 _ rfl h4 h2 n hnI hn2 h3 _ rfl h5 hk1 m hm h6 hk2 (by omega)
         ·have hg:(if n≤1048576∧bs.length=9+12*n+8*m then(if Qpw (Qrj bs 9 n)=true∧srtB (Qre bs (9+12*n) m)=true then some (CodecP.leI ((bs.drop 5).take 4),Qrj bs 9 n,Qre bs (9+12*n) m)else none)else none)=none:=by
           split
           ·rw[if_neg (fun h=>hs h.2)]
           ·rfl
          rw[hg]
          rw[Bool.not_eq_true]at hs
          rw[hs]at hk2
          exact fg_srt k fb xb lo g bs hb hl hlg w hS h1 _ rfl h4 h2 n hnI hn2 h3 _ rfl h5 hk1 m hm h6 hk2
        ·rw[if_neg (fun h=>h6 (by omega))]
         exact fg_fen _ fb xb lo g bs hb hl hlg w hS h1 _ rfl h4 h2 n hnI hn2 h3 _ rfl h5 hrt m hm h6
       ·have hg:(if n≤1048576∧bs.length=9+12*n+8*m then(if Qpw (Qrj bs 9 n)=true∧srtB (Qre bs (9+12*n) m)=true then some (CodecP.leI ((bs.drop 5).take 4),Qrj bs 9 n,Qre bs (9+12*n) m)else none)else none)=none:=by
         split
         ·rw[if_neg (fun h=>hr h.1)]
         ·rfl
        rw[hg]
        rw[Bool.not_eq_true]at hr
        rw[hr]at hrt
        exact fg_ris _ fb xb lo g bs hb hl hlg w hS h1 _ rfl h4 h2 n hnI hn2 h3 _ rfl h5 hrt
      ·rw[if_neg (fun h=>h5 (by omega))]
       exact fg_tab 0 fb xb lo g bs hb hl hlg w hS h1 _ rfl h4 h2 n hnI hn2 h3 _ rfl h5
     ·rw[if_neg (fun h=>h3 h.1)]
      exact fg_u 0 fb xb lo g bs hb hl hlg w hS h1 _ rfl h4 h2 n hnI hn2 h3
    ·have hg:(if 9≤bs.length∧rd bs 0=4 then(if n≤1048576∧bs.length=9+12*n+8*m then(if Qpw (Qrj bs 9 n)=true∧srtB (Qre bs (9+12*n) m)=true then some (CodecP.leI ((bs.drop 5).take 4),Qrj bs 9 n,Qre bs (9+12*n) m)else none)else none)else none)=none:=by
      split
      ·rw[if_neg (fun h=>hn2 h.1)]
      ·rfl
     rw[hg]
     exact fg_big 0 fb xb lo g bs hb hl hlg w hS h1 _ rfl h4 h2 n hnI hn2
   ·rw[if_neg (fun h=>h2 (by omega))]
    exact fg_n 0 fb xb lo g bs hb hl hlg w hS h1 _ rfl h4 h2
  ·rw[if_neg (fun h=>h4 h.2)]
   exact fg_kind 0 fb xb lo g bs hb hl hlg w hS h1 _ rfl h4
 ·rw[if_neg (fun h=>h1 (by omega))]
  exact fg_none 0 fb xb lo g bs hb hl hlg w hS h1
end Go.Proofs.YtnnofopfbeklbaaGreat.C
end
