/- Merged texts. -/
import Derived.Test.YteaocbonofboeaaGreatME02
import Derived.WalkLawsBesides
import Derived.Recover
import Derived.Test.YteaocbonofboeaaGreatME07
import Derived.Test.YteaocbonofboeaaGreatME08
import Derived.Test.YteaocbonofboeaaGreatME25
import Derived.Test.YteaocbonofboeaaGreatME12
import Derived.Defers
import Derived.Test.YteaocbonofboeaaGreatME09
import Derived.Test.YteaocbonofboeaaGreatME10
set_option linter.unusedVariables false
set_option linter.unusedSimpArgs false
set_option maxHeartbeats 8000000
set_option maxRecDepth 100000
section
namespace Go.Proofs.YteaocbonofboeaaGreat.C
open Go.RowKit Go.Proofs.YteaocbonofboeaaGreatW.PrintWords Go.Proofs.YteaocbonofboeaaGreatW.PrintLast Go.Proofs.YteaocbonofboeaaGreatW.PrintMore
attribute [local go_sem] Qie Qif Qig Qih
theorem Qsn(bs:List Int):∀(f:Nat) (j i x:Int),0≤i→i≤(bs.length:Int)→0≤x→x<18446744073709551616 →
  match Qsl bs f j i x with
  | .ok (n,i1)=>0≤n∧n<18446744073709551616∧i≤i1∧i1≤(bs.length:Int)
  | .error (_,i1)=>i≤i1∧i1≤(bs.length:Int)
 | 0,_,i,x=>fun h0 h1 h2 h3=>⟨h2,h3,Int.le_refl _,h1⟩
 | f + 1,j,i,x=>fun h0 h1 h2 h3=>by
  obtain⟨y,hy⟩:∃y,y=Go.bits .or .u64 x (shl .u64 (IntKind.u64.wrap (Go.bits .andNot .u8 (YteaocbonofboeaaGreatW.PrintWords.rd bs i) 128)) (7*j)):=⟨_,rfl⟩;have hr:0≤y∧y<18446744073709551616:=by
   have e:∀z:Int,0≤IntKind.u64.wrap z∧IntKind.u64.wrap z<18446744073709551616:=fun z=>by rw[IntKind.wrap_u64];omega
   rw[hy];exact e _
  unfold Qsl;rw[← hy]
  by_cases hlt:i<(bs.length:Int)
  ·rw[if_pos hlt]
   by_cases c1:j=9∧1<YteaocbonofboeaaGreatW.PrintWords.rd bs i
   ·rw[if_pos c1];exact⟨by omega,by omega⟩
   ·rw[if_neg c1]
    by_cases c2:128≤YteaocbonofboeaaGreatW.PrintWords.rd bs i
    ·rw[if_pos c2];have h:=Qsn bs f (j+1) (i+1) y (by omega) (by omega) hr.1 hr.2
     revert h
     cases Qsl bs f (j+1) (i+1) y with
     | ok p=>exact fun h=>⟨h.1,h.2.1,by have:=h.2.2.1;omega,h.2.2.2⟩
     | error p=>exact fun h=>⟨by have:=h.1;omega,h.2⟩
    ·rw[if_neg c2]
     by_cases c3:YteaocbonofboeaaGreatW.PrintWords.rd bs i=0∧0<j
     ·rw[if_pos c3];exact⟨by omega,by omega⟩
     ·rw[if_neg c3];exact⟨hr.1,hr.2,by omega,by omega⟩
  ·rw[if_neg hlt];exact⟨Int.le_refl _,h1⟩
def Qso(bs:List Int)(least most i:Int):Except (Int × Int) (List Int × Int) :=
 match Qsl bs 10 0 i 0 with
 | .error p=>.error p
 | .ok (n,i1)=>if most<n then .error (3,i1)else if n<least then .error (4,i1)else if i1+n≤(bs.length:Int)then .ok ((bs.drop i1.toNat).take n.toNat,i1+n)else .error (2,i1)
theorem Qsp(b g:Nat)(bs:List Int)(i least most:Int)(hle:0≤least∧least≤4611686018427387904)(hmo:0≤most∧most≤4611686018427387904)(hb:CodecP.Bytes bs)(hi:0≤i∧i≤(bs.length:Int))(hl:bs.length≤140737488355328)(hbg:b≤g)(w:World)(hbw:b≤w.heap.size)(hI:IsCur w b g bs i)(R:Except (Int × Int) (Value × Int))(hR:(Qso bs least most i).map (fun p=>(Value.string (strOfNums p.1),p.2))=R) :
  Calls Tryz.prog 176 #[.pointer (some ⟨g,0,none⟩),.int .i64 least,.int .i64 most] w (Ends b g bs w R):=by
 have HI:=QA hI;have HW:=QA hbw;have hrg:=Qsn bs 10 0 i 0 hi.1 hi.2 (by decide) (by decide);have hwl:IntKind.u64.wrap least=least:=IntWalk.u64_in _ (by omega);have hwm:IntKind.u64.wrap most=most:=IntWalk.u64_in _ (by omega);have hm1:max 0 most=most:=by omega
 have hm2:max 0 least=least:=by omega
 have d:∀W:World,(convert 40 9 (.slice none 0 0)).run Tryz.prog W=.ok (.string (strOfNums [])) W:=fun W=>Qdc (P:=Tryz.prog) Tryz.underlying40 Tryz.underlying5 Tryz.underlying9 (Kd.own_of_R (Kd.R_nil (Kd.int .u8) 5 W b (fun _=>True)))
 unfold Qso at hR;clear hI hbw
 cases hv:Qsl bs 10 0 i 0 with
 | error p =>
  obtain⟨er,i1⟩:=p;rw[hv]at hR hrg;simp only[Except.map]at hR;have HV:=QA hv;clear hv;subst hR
  go_enter Tryz.func176,Tryz.ntmps176
  go_wp2_with (go_at_call 175;refine(Qsm b g bs i hb hi hl hbg _ HW.out HI.out (.error (er,i1)) (by rw[HV.out];rfl)).mono ?_;rintro ee w1 ⟨rfl,hI1,hB1⟩)
  all_goals first|exact⟨rfl,rfl,hI1,hB1⟩ |(exfalso;omega)
 | ok p =>
  obtain⟨n,i1⟩:=p;rw[hv]at hR hrg;obtain⟨h,j,hi0,hi1⟩:=hrg;dsimp only at hR;have HV:=QA hv;clear hv;have GET:Aside0 (Calls Tryz.prog 175 #[.pointer (some ⟨g,0,none⟩)] w (Ends b g bs w (.ok (.int .u64 n,i1)))):=⟨Qsm b g bs i hb hi hl hbg _ HW.out HI.out (.ok (.int .u64 n,i1)) (by rw[HV.out];rfl)⟩
  by_cases c1:most<n
  ·rw[if_pos c1]at hR;simp only[Except.map]at hR;subst hR;have a:decide (most<n)=true:=decide_eq_true c1
   go_enter Tryz.func176,Tryz.ntmps176
   go_wp2_with (first
    |(go_at_call 175;refine GET.out.mono ?_;rintro ee w1 ⟨rfl,hI1,hB1⟩)
    |(go_at_call 174;refine(Qnd b g bs i1 3 (by decide) _ hI1).mono ?_;rintro ee w2 ⟨rfl,rfl⟩))
   all_goals first|exact⟨rfl,rfl,hI1,hB1⟩ |(exfalso;omega)
  ·rw [if_neg c1]at hR;have a:decide (most<n)=false:=decide_eq_false c1;have hwn:IntKind.i64.wrap n=n:=IntWalk.i64_in _ (by omega)
   by_cases c2:n<least
   ·rw[if_pos c2]at hR;simp only[Except.map]at hR;subst hR;have c:decide (n<least)=true:=decide_eq_true c2
    go_enter Tryz.func176,Tryz.ntmps176
    go_wp2_with (first
     |(go_at_call 175;refine GET.out.mono ?_;rintro ee w1 ⟨rfl,hI1,hB1⟩)
     |(go_at_call 174;refine(Qnd b g bs i1 4 (by decide) _ hI1).mono ?_;rintro ee w2 ⟨rfl,rfl⟩))
    all_goals first|exact⟨rfl,rfl,hI1,hB1⟩ |(exfalso;omega)
   ·rw [if_neg c2]at hR;have c:decide (n<least)=false:=decide_eq_false c2
    by_cases c3:i1+n≤(bs.length:Int)
    ·rw[if_pos c3]at hR;simp only[Except.map]at hR;subst hR
     by_cases c4:n≤0
     ·obtain rfl:n=0:=by omega
      go_enter Tryz.func176,Tryz.ntmps176
      go_wp2_with (first
       |(go_at_call 175;refine GET.out.mono ?_;rintro ee w1 ⟨rfl,hI1,hB1⟩)
       |(go_at_call 221;refine(Qnf b g bs i1 0 (by decide) _ hI1).mono ?_;rintro ee w2 ⟨rfl,rfl⟩))
      all_goals go_ret
      all_goals exact⟨rfl,hI1,hB1⟩
     ·obtain⟨xs,hxs⟩:∃xs,xs=(bs.drop i1.toNat).take n.toNat:=⟨_,rfl⟩;rw[← hxs];have HX:=QA hxs;clear hxs
      go_enter Tryz.func176,Tryz.ntmps176
      go_wp2_with (first
       |(go_at_call 175;refine GET.out.mono ?_;rintro ee w1 ⟨rfl,hI1,hB1⟩)
       |(go_at_call 221;refine(Qnh b g bs xs i1 n HX.out (by omega) (by omega) hl c3 hbg _ (Nat.le_trans HW.out hB1.size) hI1).mono ?_;rintro ee w2 ⟨v,rfl,hRv,hI2,hB2⟩;have cv:=Qdc (P:=Tryz.prog) Tryz.underlying40 Tryz.underlying5 Tryz.underlying9 (Kd.own_of_R hRv)))
      all_goals first |(go_ret;exact⟨rfl,hI2,hB1.trans hB2⟩) |(exfalso;omega)
    ·rw[if_neg c3]at hR;simp only[Except.map]at hR;subst hR
     go_enter Tryz.func176,Tryz.ntmps176
     go_wp2_with (first
      |(go_at_call 175;refine GET.out.mono ?_;rintro ee w1 ⟨rfl,hI1,hB1⟩)
      |(go_at_call 221;refine(Qne b g bs i1 n (by omega) ⟨by omega,hi1⟩ hl (by omega) _ hI1).mono ?_;rintro ee w2 ⟨rfl,hb2⟩))
     all_goals first|exact⟨rfl,rfl,hI1.kept hb2,hB1.trans (Bw.below hb2 (Nat.le_trans HW.out hB1.size))⟩ |(exfalso;omega)
end Go.Proofs.YteaocbonofboeaaGreat.C
end
section
namespace Go.Proofs.YteaocbonofboeaaGreat.C
open Go.RowKit Go.Proofs.YteaocbonofboeaaGreatW.PrintWords Go.Proofs.YteaocbonofboeaaGreatW.PrintLast Go.Proofs.YteaocbonofboeaaGreatW.PrintMore
theorem IsCur.far{W:World}{b g rb j:Nat}{bs:List Int}{i:Int}{u:Value}{cs:Array Value}(h:IsCur W b g bs i)(hr:W.heap[rb]? = some (.cells cs 37 (0,0))):IsCur (W.setCell ⟨rb,j,none⟩ u) b g bs i:=by
 obtain⟨v,h1,h2⟩:=h;exact⟨v,Qdp h1 (p:=⟨rb,j,none⟩) (Qdu h1 hr (by decide)) u,h2.set hr (by decide) j u⟩
def RS(w W:World)(rb lo g:Nat)(bs:List Int)(i:Int)(d:Bool)(q:Int)(a b:ByteArray):Prop :=
 IsCur W lo g bs i∧W.heap[rb]? = some (.cells #[.bool d,.int .u64 q,.string a,.string b] 37 (0,0))∧Below rb w W∧Tl lo g w W∧lo≤W.heap.size∧rb<lo
section
variable {w W W':World} {rb lo g:Nat} {bs:List Int} {i j q:Int} {d:Bool} {a b:ByteArray}
theorem RS.cur(h:RS w W rb lo g bs i d q a b)(hw:rb≤W.heap.size)(hI:IsCur W' lo g bs j)(hb:Bw lo g W W'):RS w W' rb lo g bs j d q a b :=
 ⟨hI,(hb.1.block rb h.2.2.2.2.2).trans h.2.1,h.2.2.1.trans (Qju hb.1 (Nat.le_of_lt h.2.2.2.2.2)),fun k cs t h1 h2 h3 h4=>hb.2 _ _ _ (h.2.2.2.1 _ _ _ h1 h2 h3 h4) h3 h4,Nat.le_trans h.2.2.2.2.1 hb.size,h.2.2.2.2.2⟩
theorem RS.lt(h:RS w W rb lo g bs i d q a b):rb≤W.heap.size:=Nat.le_of_lt (Qdq h.2.1)
theorem RS.tl(h:RS w W rb lo g bs i d q a b)(n:Nat)(u:Value):Tl lo g w (W.setCell ⟨rb,n,none⟩ u):=fun k cs t h1 h2 h3 h4=>Qdp (h.2.2.2.1 _ _ _ h1 h2 h3 h4) (p:=⟨rb,n,none⟩) (by have:=h.2.2.2.2.2;show k≠rb;omega) u
theorem RS.size(h:RS w W rb lo g bs i d q a b)(n:Nat)(u:Value):lo≤(W.setCell ⟨rb,n,none⟩ u).heap.size:=by simpa [World.setCell]using h.2.2.2.2.1
theorem RS.sd(h:RS w W rb lo g bs i d q a b)(x:Bool):RS w (W.setCell ⟨rb,0,none⟩ (.bool x)) rb lo g bs i x q a b:=⟨h.1.far h.2.1,Qdo h.2.1 0 _,Qjt h.2.2.1 (Nat.le_refl _),h.tl _ _,h.size _ _,h.2.2.2.2.2⟩
theorem RS.sq(h:RS w W rb lo g bs i d q a b)(x:Int):RS w (W.setCell ⟨rb,1,none⟩ (.int .u64 x)) rb lo g bs i d x a b:=⟨h.1.far h.2.1,Qdo h.2.1 1 _,Qjt h.2.2.1 (Nat.le_refl _),h.tl _ _,h.size _ _,h.2.2.2.2.2⟩
theorem RS.sa(h:RS w W rb lo g bs i d q a b)(x:ByteArray):RS w (W.setCell ⟨rb,2,none⟩ (.string x)) rb lo g bs i d q x b:=⟨h.1.far h.2.1,Qdo h.2.1 2 _,Qjt h.2.2.1 (Nat.le_refl _),h.tl _ _,h.size _ _,h.2.2.2.2.2⟩
theorem RS.sb(h:RS w W rb lo g bs i d q a b)(x:ByteArray):RS w (W.setCell ⟨rb,3,none⟩ (.string x)) rb lo g bs i d q a x:=⟨h.1.far h.2.1,Qdo h.2.1 3 _,Qjt h.2.2.1 (Nat.le_refl _),h.tl _ _,h.size _ _,h.2.2.2.2.2⟩
theorem RS.cells(h:RS w W rb lo g bs i d q a b):(W.cell? ⟨rb,0,none⟩=some (.bool d)∧W.cell? ⟨rb,1,none⟩=some (.int .u64 q)∧W.cell? ⟨rb,2,none⟩=some (.string a)∧W.cell? ⟨rb,3,none⟩=some (.string b))∧(W.frozen? ⟨rb,0,none⟩=false∧W.frozen? ⟨rb,1,none⟩=false∧W.frozen? ⟨rb,2,none⟩=false∧W.frozen? ⟨rb,3,none⟩=false) :=
 ⟨⟨(Qdr h.2.1 0).trans rfl,(Qdr h.2.1 1).trans rfl,(Qdr h.2.1 2).trans rfl,(Qdr h.2.1 3).trans rfl⟩,Qds h.2.1 0,Qds h.2.1 1,Qds h.2.1 2,Qds h.2.1 3⟩
end
theorem Qsq(rb lo g:Nat)(bs:List Int)(hb:CodecP.Bytes bs)(hl:bs.length≤140737488355328)(hlg:lo≤g)(w:World)(hS:RS w w rb lo g bs 0 false 0 (⟨#[]⟩:ByteArray) (⟨#[]⟩:ByteArray))(h0:¬(0:Int)<(bs.length:Int)) :
  Calls Tryz.prog 172 #[.pointer (some ⟨g,0,none⟩),.pointer (some ⟨rb,0,none⟩)] w fun e W'=>e=.panicked [Qnb g 2]∧∃d q a b,RS w W' rb lo g bs 0 d q a b:=by
 have HS:=QA hS;have HB:=QA hb;have hu:=Tryz.underlying37;have dA:(0:Int)≤1∧(1:Int)≤4611686018427387904:=⟨by decide,by decide⟩;have dB:(0:Int)≤4096∧(4096:Int)≤4611686018427387904:=⟨by decide,by decide⟩;have dC:(0:Int)≤0∧(0:Int)≤4611686018427387904:=⟨by decide,by decide⟩;have dD:(0:Int)≤1048576∧(1048576:Int)≤4611686018427387904:=⟨by decide,by decide⟩;have DD:=QA (And.intro dA (And.intro dB (And.intro dC dD)));clear hS hb dA dB dC dD
 go_enter Tryz.func172,Tryz.ntmps172
 go_wp2_with (go_at_call 173;refine(Qrs lo g bs 0 ⟨Int.le_refl _,by omega⟩ hl (by omega) _ HS.out.2.2.2.2.1 HS.out.1).mono ?_;rintro ee w1 ⟨rfl,hI1,hB1⟩)
 exact⟨rfl,rfl,_,_,_,_,HS.out.cur HS.out.lt hI1 hB1⟩
theorem Qsr(rb lo g:Nat)(bs:List Int)(hb:CodecP.Bytes bs)(hl:bs.length≤140737488355328)(hlg:lo≤g)(w:World)(hS:RS w w rb lo g bs 0 false 0 (⟨#[]⟩:ByteArray) (⟨#[]⟩:ByteArray))(h0:(0:Int)<(bs.length:Int))(y:Int)(hy:y=YteaocbonofboeaaGreatW.PrintWords.rd bs 0)(h2:y≠2)(h3:y≠3) :
  Calls Tryz.prog 172 #[.pointer (some ⟨g,0,none⟩),.pointer (some ⟨rb,0,none⟩)] w fun e W'=>e=.panicked [Qnb g 4]∧∃d q a b,RS w W' rb lo g bs (0+1) d q a b:=by
 have HS:=QA hS;have HB:=QA hb;have hu:=Tryz.underlying37;have dA:(0:Int)≤1∧(1:Int)≤4611686018427387904:=⟨by decide,by decide⟩;have dB:(0:Int)≤4096∧(4096:Int)≤4611686018427387904:=⟨by decide,by decide⟩;have dC:(0:Int)≤0∧(0:Int)≤4611686018427387904:=⟨by decide,by decide⟩;have dD:(0:Int)≤1048576∧(1048576:Int)≤4611686018427387904:=⟨by decide,by decide⟩;have DD:=QA (And.intro dA (And.intro dB (And.intro dC dD)));clear hS hb dA dB dC dD;have hk2:(y != 2)=true:=bne_iff_ne.2 h2;have hk3:(y != 3)=true:=bne_iff_ne.2 h3;have HY:=QA hy;clear hy
 go_enter Tryz.func172,Tryz.ntmps172
 go_wp2_with (first
  |(go_at_call 173;refine(Qsk lo g bs 0 y HY.out HB.out (Int.le_refl _) hl h0 hlg _ HS.out.2.2.2.2.1 HS.out.1).mono ?_;rintro ee w1 ⟨rfl,hI1,hB1⟩;have S1:=QA (HS.out.cur HS.out.lt hI1 hB1);obtain⟨⟨c10,c,h,j⟩,f10,f11,f12,f13⟩:=S1.out.cells;have T1:=QA (S1.out.sd (y == 3)))
  |(go_at_call 174;refine(Qnd lo g bs (0+1) 4 (by decide) _ S1.out.1).mono ?_;rintro ee w2 ⟨rfl,rfl⟩))
 exact⟨rfl,rfl,_,_,_,_,S1.out⟩
theorem Qss(rb lo g:Nat)(bs:List Int)(hb:CodecP.Bytes bs)(hl:bs.length≤140737488355328)(hlg:lo≤g)(w:World)(hS:RS w w rb lo g bs 0 false 0 (⟨#[]⟩:ByteArray) (⟨#[]⟩:ByteArray))(h0:(0:Int)<(bs.length:Int))(hy:(2:Int)=YteaocbonofboeaaGreatW.PrintWords.rd bs 0)(er i2:Int)(hvf:(Qsl bs 10 0 (0+1) 0).map (fun p=>(Value.int .u64 p.1,p.2))=.error (er,i2)) :
  Calls Tryz.prog 172 #[.pointer (some ⟨g,0,none⟩),.pointer (some ⟨rb,0,none⟩)] w fun e W'=>e=.panicked [Qnb g er]∧∃d q a b,RS w W' rb lo g bs i2 d q a b:=by
 have HS:=QA hS;have HB:=QA hb;have hu:=Tryz.underlying37;have dA:(0:Int)≤1∧(1:Int)≤4611686018427387904:=⟨by decide,by decide⟩;have dB:(0:Int)≤4096∧(4096:Int)≤4611686018427387904:=⟨by decide,by decide⟩;have dC:(0:Int)≤0∧(0:Int)≤4611686018427387904:=⟨by decide,by decide⟩;have dD:(0:Int)≤1048576∧(1048576:Int)≤4611686018427387904:=⟨by decide,by decide⟩;have DD:=QA (And.intro dA (And.intro dB (And.intro dC dD)));clear hS hb dA dB dC dD;have HY:=QA hy;clear hy;have HVF:=QA hvf;clear hvf
 go_enter Tryz.func172,Tryz.ntmps172
 go_wp2_with (first
  |(go_at_call 175;refine(Qsm lo g bs (0+1) HB.out ⟨by omega,by omega⟩ hl hlg _ PT1.out QT1.out (.error (er,i2)) HVF.out).mono ?_;rintro ee w2 ⟨rfl,hI2,hB2⟩)
  |(go_at_call 173;refine(Qsk lo g bs 0 2 HY.out HB.out (Int.le_refl _) hl h0 hlg _ HS.out.2.2.2.2.1 HS.out.1).mono ?_;rintro ee w1 ⟨rfl,hI1,hB1⟩;have S1:=QA (HS.out.cur HS.out.lt hI1 hB1);obtain⟨⟨c10,c,h,j⟩,f10,f11,f12,f13⟩:=S1.out.cells;have T1:=QA (S1.out.sd false);have PT1:=QA T1.out.2.2.2.2.1;have QT1:=QA T1.out.1))
 exact⟨rfl,rfl,_,_,_,_,T1.out.cur T1.out.lt hI2 hB2⟩
theorem Qst(rb lo g:Nat)(bs:List Int)(hb:CodecP.Bytes bs)(hl:bs.length≤140737488355328)(hlg:lo≤g)(w:World)(hS:RS w w rb lo g bs 0 false 0 (⟨#[]⟩:ByteArray) (⟨#[]⟩:ByteArray))(h0:(0:Int)<(bs.length:Int))(hy:(2:Int)=YteaocbonofboeaaGreatW.PrintWords.rd bs 0)(q i2:Int)(hv2:(Qsl bs 10 0 (0+1) 0).map (fun p=>(Value.int .u64 p.1,p.2))=.ok (.int .u64 q,i2))(hi2:0≤i2∧i2≤(bs.length:Int))(er i3:Int)(hvf:(Qso bs 1 4096 i2).map (fun p=>(Value.string (strOfNums p.1),p.2))=.error (er,i3)) :
  Calls Tryz.prog 172 #[.pointer (some ⟨g,0,none⟩),.pointer (some ⟨rb,0,none⟩)] w fun e W'=>e=.panicked [Qnb g er]∧∃d q a b,RS w W' rb lo g bs i3 d q a b:=by
 have HS:=QA hS;have HB:=QA hb;have hu:=Tryz.underlying37;have dA:(0:Int)≤1∧(1:Int)≤4611686018427387904:=⟨by decide,by decide⟩;have dB:(0:Int)≤4096∧(4096:Int)≤4611686018427387904:=⟨by decide,by decide⟩;have dC:(0:Int)≤0∧(0:Int)≤4611686018427387904:=⟨by decide,by decide⟩;have dD:(0:Int)≤1048576∧(1048576:Int)≤4611686018427387904:=⟨by decide,by decide⟩;have DD:=QA (And.intro dA (And.intro dB (And.intro dC dD)));clear hS hb dA dB dC dD;have HY:=QA hy;clear hy;have HV2:=QA hv2;clear hv2;have HVF:=QA hvf;clear hvf
 go_enter Tryz.func172,Tryz.ntmps172
 go_wp2_with (first
  |(go_at_call 176;have dA:=DD.out.1;have dB:=DD.out.2.1;have dC:=DD.out.2.2.1;have dD:=DD.out.2.2.2;refine(Qsp lo g bs i2 1 4096 dA dB HB.out hi2 hl hlg _ PT2.out QT2.out (.error (er,i3)) HVF.out).mono ?_;rintro ee w3 ⟨rfl,hI3,hB3⟩)
  |(go_at_call 175;refine(Qsm lo g bs (0+1) HB.out ⟨by omega,by omega⟩ hl hlg _ PT1.out QT1.out (.ok (.int .u64 q,i2)) HV2.out).mono ?_;rintro ee w2 ⟨rfl,hI2,hB2⟩;have S2:=QA (T1.out.cur T1.out.lt hI2 hB2);obtain⟨⟨c,h,j,k⟩,f20,f21,f22,f23⟩:=S2.out.cells;have T2:=QA (S2.out.sq q);have PT2:=QA T2.out.2.2.2.2.1;have QT2:=QA T2.out.1)
  |(go_at_call 173;refine(Qsk lo g bs 0 2 HY.out HB.out (Int.le_refl _) hl h0 hlg _ HS.out.2.2.2.2.1 HS.out.1).mono ?_;rintro ee w1 ⟨rfl,hI1,hB1⟩;have S1:=QA (HS.out.cur HS.out.lt hI1 hB1);obtain⟨⟨c10,l,m,n⟩,f10,f11,f12,f13⟩:=S1.out.cells;have T1:=QA (S1.out.sd false);have PT1:=QA T1.out.2.2.2.2.1;have QT1:=QA T1.out.1))
 exact⟨rfl,rfl,_,_,_,_,T2.out.cur T2.out.lt hI3 hB3⟩
theorem Qsu(rb lo g:Nat)(bs:List Int)(hb:CodecP.Bytes bs)(hl:bs.length≤140737488355328)(hlg:lo≤g)(w:World)(hS:RS w w rb lo g bs 0 false 0 (⟨#[]⟩:ByteArray) (⟨#[]⟩:ByteArray))(h0:(0:Int)<(bs.length:Int))(hy:(2:Int)=YteaocbonofboeaaGreatW.PrintWords.rd bs 0)(q i2:Int)(hv2:(Qsl bs 10 0 (0+1) 0).map (fun p=>(Value.int .u64 p.1,p.2))=.ok (.int .u64 q,i2))(hi2:0≤i2∧i2≤(bs.length:Int))(a:List Int)(i3:Int)(hv3:(Qso bs 1 4096 i2).map (fun p=>(Value.string (strOfNums p.1),p.2))=.ok (.string (strOfNums a),i3))(hi3:0≤i3∧i3≤(bs.length:Int))(er i4:Int)(hvf:(Qso bs 0 1048576 i3).map (fun p=>(Value.string (strOfNums p.1),p.2))=.error (er,i4)) :
  Calls Tryz.prog 172 #[.pointer (some ⟨g,0,none⟩),.pointer (some ⟨rb,0,none⟩)] w fun e W'=>e=.panicked [Qnb g er]∧∃d q a b,RS w W' rb lo g bs i4 d q a b:=by
 have HS:=QA hS;have HB:=QA hb;have hu:=Tryz.underlying37;have dA:(0:Int)≤1∧(1:Int)≤4611686018427387904:=⟨by decide,by decide⟩;have dB:(0:Int)≤4096∧(4096:Int)≤4611686018427387904:=⟨by decide,by decide⟩;have dC:(0:Int)≤0∧(0:Int)≤4611686018427387904:=⟨by decide,by decide⟩;have dD:(0:Int)≤1048576∧(1048576:Int)≤4611686018427387904:=⟨by decide,by decide⟩;have DD:=QA (And.intro dA (And.intro dB (And.intro dC dD)));clear hS hb dA dB dC dD;have HY:=QA hy;clear hy;have HV2:=QA hv2;clear hv2;have HV3:=QA hv3;clear hv3;have HVF:=QA hvf;clear hvf
 go_enter Tryz.func172,Tryz.ntmps172
 go_wp2_with (first
  |(go_at_call 176;have dA:=DD.out.1;have dB:=DD.out.2.1;have dC:=DD.out.2.2.1;have dD:=DD.out.2.2.2;refine(Qsp lo g bs i3 0 1048576 dC dD HB.out hi3 hl hlg _ PT3.out QT3.out (.error (er,i4)) HVF.out).mono ?_;rintro ee w4 ⟨rfl,hI4,hB4⟩)
  |(go_at_call 176;have dA:=DD.out.1;have dB:=DD.out.2.1;have dC:=DD.out.2.2.1;have dD:=DD.out.2.2.2;refine(Qsp lo g bs i2 1 4096 dA dB HB.out hi2 hl hlg _ PT2.out QT2.out (.ok (.string (strOfNums a),i3)) HV3.out).mono ?_;rintro ee w3 ⟨rfl,hI3,hB3⟩;have S3:=QA (T2.out.cur T2.out.lt hI3 hB3);obtain⟨⟨c,h,j,k⟩,f30,f31,f32,f33⟩:=S3.out.cells;have T3:=QA (S3.out.sa (strOfNums a));have PT3:=QA T3.out.2.2.2.2.1;have QT3:=QA T3.out.1;obtain⟨⟨t0,t1,t2,t3⟩,_⟩:=T3.out.cells)
  |(go_at_call 175;refine(Qsm lo g bs (0+1) HB.out ⟨by omega,by omega⟩ hl hlg _ PT1.out QT1.out (.ok (.int .u64 q,i2)) HV2.out).mono ?_;rintro ee w2 ⟨rfl,hI2,hB2⟩;have S2:=QA (T1.out.cur T1.out.lt hI2 hB2);obtain⟨⟨l,m,n,o⟩,f20,f21,f22,f23⟩:=S2.out.cells;have T2:=QA (S2.out.sq q);have PT2:=QA T2.out.2.2.2.2.1;have QT2:=QA T2.out.1)
  |(go_at_call 173;refine(Qsk lo g bs 0 2 HY.out HB.out (Int.le_refl _) hl h0 hlg _ HS.out.2.2.2.2.1 HS.out.1).mono ?_;rintro ee w1 ⟨rfl,hI1,hB1⟩;have S1:=QA (HS.out.cur HS.out.lt hI1 hB1);obtain⟨⟨c10,r,s,t⟩,f10,f11,f12,f13⟩:=S1.out.cells;have T1:=QA (S1.out.sd false);have PT1:=QA T1.out.2.2.2.2.1;have QT1:=QA T1.out.1))
 exact⟨rfl,rfl,_,_,_,_,T3.out.cur T3.out.lt hI4 hB4⟩
theorem Qsv(rb lo g:Nat)(bs:List Int)(hb:CodecP.Bytes bs)(hl:bs.length≤140737488355328)(hlg:lo≤g)(w:World)(hS:RS w w rb lo g bs 0 false 0 (⟨#[]⟩:ByteArray) (⟨#[]⟩:ByteArray))(h0:(0:Int)<(bs.length:Int))(hy:(2:Int)=YteaocbonofboeaaGreatW.PrintWords.rd bs 0)(q i2:Int)(hv2:(Qsl bs 10 0 (0+1) 0).map (fun p=>(Value.int .u64 p.1,p.2))=.ok (.int .u64 q,i2))(hi2:0≤i2∧i2≤(bs.length:Int))(a:List Int)(i3:Int)(hv3:(Qso bs 1 4096 i2).map (fun p=>(Value.string (strOfNums p.1),p.2))=.ok (.string (strOfNums a),i3))(hi3:0≤i3∧i3≤(bs.length:Int))(v:List Int)(i4:Int)(hv4:(Qso bs 0 1048576 i3).map (fun p=>(Value.string (strOfNums p.1),p.2))=.ok (.string (strOfNums v),i4))(hi4:0≤i4∧i4≤(bs.length:Int))(hlt:0<(bs.length:Int)-i4) :
  Calls Tryz.prog 172 #[.pointer (some ⟨g,0,none⟩),.pointer (some ⟨rb,0,none⟩)] w fun e W'=>e=.panicked [Qnb g 3]∧∃d q a b,RS w W' rb lo g bs i4 d q a b:=by
 have HS:=QA hS;have HB:=QA hb;have hu:=Tryz.underlying37;have dA:(0:Int)≤1∧(1:Int)≤4611686018427387904:=⟨by decide,by decide⟩;have dB:(0:Int)≤4096∧(4096:Int)≤4611686018427387904:=⟨by decide,by decide⟩;have dC:(0:Int)≤0∧(0:Int)≤4611686018427387904:=⟨by decide,by decide⟩;have dD:(0:Int)≤1048576∧(1048576:Int)≤4611686018427387904:=⟨by decide,by decide⟩;have DD:=QA (And.intro dA (And.intro dB (And.intro dC dD)));clear hS hb dA dB dC dD;have HY:=QA hy;clear hy;have HV2:=QA hv2;clear hv2;have HV3:=QA hv3;clear hv3;have HV4:=QA hv4;clear hv4
 go_enter Tryz.func172,Tryz.ntmps172
 go_wp2_with (first
  |(go_at_call 177;refine(Qrw lo g bs i4 hi4 hl hlt _ PT4.out QT4.out).mono ?_;rintro ee w5 ⟨rfl,hI5,hB5⟩)
  |(go_at_call 176;have dA:=DD.out.1;have dB:=DD.out.2.1;have dC:=DD.out.2.2.1;have dD:=DD.out.2.2.2;refine(Qsp lo g bs i3 0 1048576 dC dD HB.out hi3 hl hlg _ PT3.out QT3.out (.ok (.string (strOfNums v),i4)) HV4.out).mono ?_;rintro ee w4 ⟨rfl,hI4,hB4⟩;have S4:=QA (T3.out.cur T3.out.lt hI4 hB4);obtain⟨⟨c,h,j,k⟩,f40,f41,f42,f43⟩:=S4.out.cells;have T4:=QA (S4.out.sb (strOfNums v));have PT4:=QA T4.out.2.2.2.2.1;have QT4:=QA T4.out.1)
  |(go_at_call 176;have dA:=DD.out.1;have dB:=DD.out.2.1;have dC:=DD.out.2.2.1;have dD:=DD.out.2.2.2;refine(Qsp lo g bs i2 1 4096 dA dB HB.out hi2 hl hlg _ PT2.out QT2.out (.ok (.string (strOfNums a),i3)) HV3.out).mono ?_;rintro ee w3 ⟨rfl,hI3,hB3⟩;have S3:=QA (T2.out.cur T2.out.lt hI3 hB3);obtain⟨⟨l,m,n,o⟩,f30,f31,f32,f33⟩:=S3.out.cells;have T3:=QA (S3.out.sa (strOfNums a));have PT3:=QA T3.out.2.2.2.2.1;have QT3:=QA T3.out.1;obtain⟨⟨t0,t1,t2,t3⟩,_⟩:=T3.out.cells)
  |(go_at_call 175;refine(Qsm lo g bs (0+1) HB.out ⟨by omega,by omega⟩ hl hlg _ PT1.out QT1.out (.ok (.int .u64 q,i2)) HV2.out).mono ?_;rintro ee w2 ⟨rfl,hI2,hB2⟩;have S2:=QA (T1.out.cur T1.out.lt hI2 hB2);obtain⟨⟨r,s,t,u⟩,f20,f21,f22,f23⟩:=S2.out.cells;have T2:=QA (S2.out.sq q);have PT2:=QA T2.out.2.2.2.2.1;have QT2:=QA T2.out.1)
  |(go_at_call 173;refine(Qsk lo g bs 0 2 HY.out HB.out (Int.le_refl _) hl h0 hlg _ HS.out.2.2.2.2.1 HS.out.1).mono ?_;rintro ee w1 ⟨rfl,hI1,hB1⟩;have S1:=QA (HS.out.cur HS.out.lt hI1 hB1);obtain⟨⟨c10,x,y,z⟩,f10,f11,f12,f13⟩:=S1.out.cells;have T1:=QA (S1.out.sd false);have PT1:=QA T1.out.2.2.2.2.1;have QT1:=QA T1.out.1))
 exact⟨rfl,rfl,_,_,_,_,T4.out.cur T4.out.lt hI5 hB5⟩
theorem rec_ok2(rb lo g:Nat)(bs:List Int)(hb:CodecP.Bytes bs)(hl:bs.length≤140737488355328)(hlg:lo≤g)(w:World)(hS:RS w w rb lo g bs 0 false 0 (⟨#[]⟩:ByteArray) (⟨#[]⟩:ByteArray))(h0:(0:Int)<(bs.length:Int))(hy:(2:Int)=YteaocbonofboeaaGreatW.PrintWords.rd bs 0)(q i2:Int)(hv2:(Qsl bs 10 0 (0+1) 0).map (fun p=>(Value.int .u64 p.1,p.2))=.ok (.int .u64 q,i2))(hi2:0≤i2∧i2≤(bs.length:Int))(a:List Int)(i3:Int)(hv3:(Qso bs 1 4096 i2).map (fun p=>(Value.string (strOfNums p.1),p.2))=.ok (.string (strOfNums a),i3))(hi3:0≤i3∧i3≤(bs.length:Int))(v:List Int)(i4:Int)(hv4:(Qso bs 0 1048576 i3).map (fun p=>(Value.string (strOfNums p.1),p.2))=.ok (.string (strOfNums v),i4))(hi4:0≤i4∧i4≤(bs.length:Int))(hle:(bs.length:Int)-i4≤0) :
  Calls Tryz.prog 172 #[.pointer (some ⟨g,0,none⟩),.pointer (some ⟨rb,0,none⟩)] w fun e W'=>e=.returned (.tuple #[])∧RS w W' rb lo g bs i4 false q (strOfNums a) (strOfNums v):=by
 have HS:=QA hS;have HB:=QA hb;have hu:=Tryz.underlying37;have dA:(0:Int)≤1∧(1:Int)≤4611686018427387904:=⟨by decide,by decide⟩;have dB:(0:Int)≤4096∧(4096:Int)≤4611686018427387904:=⟨by decide,by decide⟩;have dC:(0:Int)≤0∧(0:Int)≤4611686018427387904:=⟨by decide,by decide⟩;have dD:(0:Int)≤1048576∧(1048576:Int)≤4611686018427387904:=⟨by decide,by decide⟩;have DD:=QA (And.intro dA (And.intro dB (And.intro dC dD)));clear hS hb dA dB dC dD;have HY:=QA hy;clear hy;have HV2:=QA hv2;clear hv2;have HV3:=QA hv3;clear hv3;have HV4:=QA hv4;clear hv4
 go_enter Tryz.func172,Tryz.ntmps172
 go_wp2_with (first
  |(go_at_call 177;refine(Qrv lo g bs i4 hi4 hl hle _ PT4.out QT4.out).mono ?_;rintro ee w5 ⟨rfl,hI5,hB5⟩)
  |(go_at_call 176;have dA:=DD.out.1;have dB:=DD.out.2.1;have dC:=DD.out.2.2.1;have dD:=DD.out.2.2.2;refine(Qsp lo g bs i3 0 1048576 dC dD HB.out hi3 hl hlg _ PT3.out QT3.out (.ok (.string (strOfNums v),i4)) HV4.out).mono ?_;rintro ee w4 ⟨rfl,hI4,hB4⟩;have S4:=QA (T3.out.cur T3.out.lt hI4 hB4);obtain⟨⟨b,c,d,h⟩,f40,f41,f42,f43⟩:=S4.out.cells;have T4:=QA (S4.out.sb (strOfNums v));have PT4:=QA T4.out.2.2.2.2.1;have QT4:=QA T4.out.1)
  |(go_at_call 176;have dA:=DD.out.1;have dB:=DD.out.2.1;have dC:=DD.out.2.2.1;have dD:=DD.out.2.2.2;refine(Qsp lo g bs i2 1 4096 dA dB HB.out hi2 hl hlg _ PT2.out QT2.out (.ok (.string (strOfNums a),i3)) HV3.out).mono ?_;rintro ee w3 ⟨rfl,hI3,hB3⟩;have S3:=QA (T2.out.cur T2.out.lt hI3 hB3);obtain⟨⟨j,k,l,m⟩,f30,f31,f32,f33⟩:=S3.out.cells;have T3:=QA (S3.out.sa (strOfNums a));have PT3:=QA T3.out.2.2.2.2.1;have QT3:=QA T3.out.1;obtain⟨⟨t0,t1,t2,t3⟩,_⟩:=T3.out.cells)
  |(go_at_call 175;refine(Qsm lo g bs (0+1) HB.out ⟨by omega,by omega⟩ hl hlg _ PT1.out QT1.out (.ok (.int .u64 q,i2)) HV2.out).mono ?_;rintro ee w2 ⟨rfl,hI2,hB2⟩;have S2:=QA (T1.out.cur T1.out.lt hI2 hB2);obtain⟨⟨n,o,r,s⟩,f20,f21,f22,f23⟩:=S2.out.cells;have T2:=QA (S2.out.sq q);have PT2:=QA T2.out.2.2.2.2.1;have QT2:=QA T2.out.1)
  |(go_at_call 173;refine(Qsk lo g bs 0 2 HY.out HB.out (Int.le_refl _) hl h0 hlg _ HS.out.2.2.2.2.1 HS.out.1).mono ?_;rintro ee w1 ⟨rfl,hI1,hB1⟩;have S1:=QA (HS.out.cur HS.out.lt hI1 hB1);obtain⟨⟨c10,t,u,x⟩,f10,f11,f12,f13⟩:=S1.out.cells;have T1:=QA (S1.out.sd false);have PT1:=QA T1.out.2.2.2.2.1;have QT1:=QA T1.out.1))
 go_end0
 exact⟨rfl,T4.out.cur T4.out.lt hI5 hB5⟩
theorem Qsw(rb lo g:Nat)(bs:List Int)(hb:CodecP.Bytes bs)(hl:bs.length≤140737488355328)(hlg:lo≤g)(w:World)(hS:RS w w rb lo g bs 0 false 0 (⟨#[]⟩:ByteArray) (⟨#[]⟩:ByteArray))(h0:(0:Int)<(bs.length:Int))(hy:(3:Int)=YteaocbonofboeaaGreatW.PrintWords.rd bs 0)(er i2:Int)(hvf:(Qsl bs 10 0 (0+1) 0).map (fun p=>(Value.int .u64 p.1,p.2))=.error (er,i2)) :
  Calls Tryz.prog 172 #[.pointer (some ⟨g,0,none⟩),.pointer (some ⟨rb,0,none⟩)] w fun e W'=>e=.panicked [Qnb g er]∧∃d q a b,RS w W' rb lo g bs i2 d q a b:=by
 have HS:=QA hS;have HB:=QA hb;have hu:=Tryz.underlying37;have dA:(0:Int)≤1∧(1:Int)≤4611686018427387904:=⟨by decide,by decide⟩;have dB:(0:Int)≤4096∧(4096:Int)≤4611686018427387904:=⟨by decide,by decide⟩;have dC:(0:Int)≤0∧(0:Int)≤4611686018427387904:=⟨by decide,by decide⟩;have dD:(0:Int)≤1048576∧(1048576:Int)≤4611686018427387904:=⟨by decide,by decide⟩;have DD:=QA (And.intro dA (And.intro dB (And.intro dC dD)));clear hS hb dA dB dC dD;have HY:=QA hy;clear hy;have HVF:=QA hvf;clear hvf
 go_enter Tryz.func172,Tryz.ntmps172
 go_wp2_with (first
  |(go_at_call 175;refine(Qsm lo g bs (0+1) HB.out ⟨by omega,by omega⟩ hl hlg _ PT1.out QT1.out (.error (er,i2)) HVF.out).mono ?_;rintro ee w2 ⟨rfl,hI2,hB2⟩)
  |(go_at_call 173;refine(Qsk lo g bs 0 3 HY.out HB.out (Int.le_refl _) hl h0 hlg _ HS.out.2.2.2.2.1 HS.out.1).mono ?_;rintro ee w1 ⟨rfl,hI1,hB1⟩;have S1:=QA (HS.out.cur HS.out.lt hI1 hB1);obtain⟨⟨c10,c,h,j⟩,f10,f11,f12,f13⟩:=S1.out.cells;have T1:=QA (S1.out.sd true);have PT1:=QA T1.out.2.2.2.2.1;have QT1:=QA T1.out.1))
 exact⟨rfl,rfl,_,_,_,_,T1.out.cur T1.out.lt hI2 hB2⟩
theorem Qsx(rb lo g:Nat)(bs:List Int)(hb:CodecP.Bytes bs)(hl:bs.length≤140737488355328)(hlg:lo≤g)(w:World)(hS:RS w w rb lo g bs 0 false 0 (⟨#[]⟩:ByteArray) (⟨#[]⟩:ByteArray))(h0:(0:Int)<(bs.length:Int))(hy:(3:Int)=YteaocbonofboeaaGreatW.PrintWords.rd bs 0)(q i2:Int)(hv2:(Qsl bs 10 0 (0+1) 0).map (fun p=>(Value.int .u64 p.1,p.2))=.ok (.int .u64 q,i2))(hi2:0≤i2∧i2≤(bs.length:Int))(er i3:Int)(hvf:(Qso bs 1 4096 i2).map (fun p=>(Value.string (strOfNums p.1),p.2))=.error (er,i3)) :
  Calls Tryz.prog 172 #[.pointer (some ⟨g,0,none⟩),.pointer (some ⟨rb,0,none⟩)] w fun e W'=>e=.panicked [Qnb g er]∧∃d q a b,RS w W' rb lo g bs i3 d q a b:=by
 have HS:=QA hS;have HB:=QA hb;have hu:=Tryz.underlying37;have dA:(0:Int)≤1∧(1:Int)≤4611686018427387904:=⟨by decide,by decide⟩;have dB:(0:Int)≤4096∧(4096:Int)≤4611686018427387904:=⟨by decide,by decide⟩;have dC:(0:Int)≤0∧(0:Int)≤4611686018427387904:=⟨by decide,by decide⟩;have dD:(0:Int)≤1048576∧(1048576:Int)≤4611686018427387904:=⟨by decide,by decide⟩;have DD:=QA (And.intro dA (And.intro dB (And.intro dC dD)));clear hS hb dA dB dC dD;have HY:=QA hy;clear hy;have HV2:=QA hv2;clear hv2;have HVF:=QA hvf;clear hvf
 go_enter Tryz.func172,Tryz.ntmps172
 go_wp2_with (first
  |(go_at_call 176;have dA:=DD.out.1;have dB:=DD.out.2.1;have dC:=DD.out.2.2.1;have dD:=DD.out.2.2.2;refine(Qsp lo g bs i2 1 4096 dA dB HB.out hi2 hl hlg _ PT2.out QT2.out (.error (er,i3)) HVF.out).mono ?_;rintro ee w3 ⟨rfl,hI3,hB3⟩)
  |(go_at_call 175;refine(Qsm lo g bs (0+1) HB.out ⟨by omega,by omega⟩ hl hlg _ PT1.out QT1.out (.ok (.int .u64 q,i2)) HV2.out).mono ?_;rintro ee w2 ⟨rfl,hI2,hB2⟩;have S2:=QA (T1.out.cur T1.out.lt hI2 hB2);obtain⟨⟨c,h,j,k⟩,f20,f21,f22,f23⟩:=S2.out.cells;have T2:=QA (S2.out.sq q);have PT2:=QA T2.out.2.2.2.2.1;have QT2:=QA T2.out.1)
  |(go_at_call 173;refine(Qsk lo g bs 0 3 HY.out HB.out (Int.le_refl _) hl h0 hlg _ HS.out.2.2.2.2.1 HS.out.1).mono ?_;rintro ee w1 ⟨rfl,hI1,hB1⟩;have S1:=QA (HS.out.cur HS.out.lt hI1 hB1);obtain⟨⟨c10,l,m,n⟩,f10,f11,f12,f13⟩:=S1.out.cells;have T1:=QA (S1.out.sd true);have PT1:=QA T1.out.2.2.2.2.1;have QT1:=QA T1.out.1))
 exact⟨rfl,rfl,_,_,_,_,T2.out.cur T2.out.lt hI3 hB3⟩
theorem Qsy(rb lo g:Nat)(bs:List Int)(hb:CodecP.Bytes bs)(hl:bs.length≤140737488355328)(hlg:lo≤g)(w:World)(hS:RS w w rb lo g bs 0 false 0 (⟨#[]⟩:ByteArray) (⟨#[]⟩:ByteArray))(h0:(0:Int)<(bs.length:Int))(hy:(3:Int)=YteaocbonofboeaaGreatW.PrintWords.rd bs 0)(q i2:Int)(hv2:(Qsl bs 10 0 (0+1) 0).map (fun p=>(Value.int .u64 p.1,p.2))=.ok (.int .u64 q,i2))(hi2:0≤i2∧i2≤(bs.length:Int))(a:List Int)(i3:Int)(hv3:(Qso bs 1 4096 i2).map (fun p=>(Value.string (strOfNums p.1),p.2))=.ok (.string (strOfNums a),i3))(hi3:0≤i3∧i3≤(bs.length:Int))(hlt:0<(bs.length:Int)-i3) :
  Calls Tryz.prog 172 #[.pointer (some ⟨g,0,none⟩),.pointer (some ⟨rb,0,none⟩)] w fun e W'=>e=.panicked [Qnb g 3]∧∃d q a b,RS w W' rb lo g bs i3 d q a b:=by
 have HS:=QA hS;have HB:=QA hb;have hu:=Tryz.underlying37;have dA:(0:Int)≤1∧(1:Int)≤4611686018427387904:=⟨by decide,by decide⟩;have dB:(0:Int)≤4096∧(4096:Int)≤4611686018427387904:=⟨by decide,by decide⟩;have dC:(0:Int)≤0∧(0:Int)≤4611686018427387904:=⟨by decide,by decide⟩;have dD:(0:Int)≤1048576∧(1048576:Int)≤4611686018427387904:=⟨by decide,by decide⟩;have DD:=QA (And.intro dA (And.intro dB (And.intro dC dD)));clear hS hb dA dB dC dD;have HY:=QA hy;clear hy;have HV2:=QA hv2;clear hv2;have HV3:=QA hv3;clear hv3
 go_enter Tryz.func172,Tryz.ntmps172
 go_wp2_with (first
  |(go_at_call 177;refine(Qrw lo g bs i3 hi3 hl hlt _ PT3.out QT3.out).mono ?_;rintro ee w5 ⟨rfl,hI5,hB5⟩)
  |(go_at_call 176;have dA:=DD.out.1;have dB:=DD.out.2.1;have dC:=DD.out.2.2.1;have dD:=DD.out.2.2.2;refine(Qsp lo g bs i2 1 4096 dA dB HB.out hi2 hl hlg _ PT2.out QT2.out (.ok (.string (strOfNums a),i3)) HV3.out).mono ?_;rintro ee w3 ⟨rfl,hI3,hB3⟩;have S3:=QA (T2.out.cur T2.out.lt hI3 hB3);obtain⟨⟨c,h,j,k⟩,f30,f31,f32,f33⟩:=S3.out.cells;have T3:=QA (S3.out.sa (strOfNums a));have PT3:=QA T3.out.2.2.2.2.1;have QT3:=QA T3.out.1;obtain⟨⟨t0,t1,t2,t3⟩,_⟩:=T3.out.cells)
  |(go_at_call 175;refine(Qsm lo g bs (0+1) HB.out ⟨by omega,by omega⟩ hl hlg _ PT1.out QT1.out (.ok (.int .u64 q,i2)) HV2.out).mono ?_;rintro ee w2 ⟨rfl,hI2,hB2⟩;have S2:=QA (T1.out.cur T1.out.lt hI2 hB2);obtain⟨⟨l,m,n,o⟩,f20,f21,f22,f23⟩:=S2.out.cells;have T2:=QA (S2.out.sq q);have PT2:=QA T2.out.2.2.2.2.1;have QT2:=QA T2.out.1)
  |(go_at_call 173;refine(Qsk lo g bs 0 3 HY.out HB.out (Int.le_refl _) hl h0 hlg _ HS.out.2.2.2.2.1 HS.out.1).mono ?_;rintro ee w1 ⟨rfl,hI1,hB1⟩;have S1:=QA (HS.out.cur HS.out.lt hI1 hB1);obtain⟨⟨c10,r,s,t⟩,f10,f11,f12,f13⟩:=S1.out.cells;have T1:=QA (S1.out.sd true);have PT1:=QA T1.out.2.2.2.2.1;have QT1:=QA T1.out.1))
 exact⟨rfl,rfl,_,_,_,_,T3.out.cur T3.out.lt hI5 hB5⟩
theorem rec_ok3(rb lo g:Nat)(bs:List Int)(hb:CodecP.Bytes bs)(hl:bs.length≤140737488355328)(hlg:lo≤g)(w:World)(hS:RS w w rb lo g bs 0 false 0 (⟨#[]⟩:ByteArray) (⟨#[]⟩:ByteArray))(h0:(0:Int)<(bs.length:Int))(hy:(3:Int)=YteaocbonofboeaaGreatW.PrintWords.rd bs 0)(q i2:Int)(hv2:(Qsl bs 10 0 (0+1) 0).map (fun p=>(Value.int .u64 p.1,p.2))=.ok (.int .u64 q,i2))(hi2:0≤i2∧i2≤(bs.length:Int))(a:List Int)(i3:Int)(hv3:(Qso bs 1 4096 i2).map (fun p=>(Value.string (strOfNums p.1),p.2))=.ok (.string (strOfNums a),i3))(hi3:0≤i3∧i3≤(bs.length:Int))(hle:(bs.length:Int)-i3≤0) :
  Calls Tryz.prog 172 #[.pointer (some ⟨g,0,none⟩),.pointer (some ⟨rb,0,none⟩)] w fun e W'=>e=.returned (.tuple #[])∧RS w W' rb lo g bs i3 true q (strOfNums a) (⟨#[]⟩:ByteArray):=by
 have HS:=QA hS;have HB:=QA hb;have hu:=Tryz.underlying37;have dA:(0:Int)≤1∧(1:Int)≤4611686018427387904:=⟨by decide,by decide⟩;have dB:(0:Int)≤4096∧(4096:Int)≤4611686018427387904:=⟨by decide,by decide⟩;have dC:(0:Int)≤0∧(0:Int)≤4611686018427387904:=⟨by decide,by decide⟩;have dD:(0:Int)≤1048576∧(1048576:Int)≤4611686018427387904:=⟨by decide,by decide⟩;have DD:=QA (And.intro dA (And.intro dB (And.intro dC dD)));clear hS hb dA dB dC dD;have HY:=QA hy;clear hy;have HV2:=QA hv2;clear hv2;have HV3:=QA hv3;clear hv3
 go_enter Tryz.func172,Tryz.ntmps172
 go_wp2_with (first
  |(go_at_call 177;refine(Qrv lo g bs i3 hi3 hl hle _ PT3.out QT3.out).mono ?_;rintro ee w5 ⟨rfl,hI5,hB5⟩)
  |(go_at_call 176;have dA:=DD.out.1;have dB:=DD.out.2.1;have dC:=DD.out.2.2.1;have dD:=DD.out.2.2.2;refine(Qsp lo g bs i2 1 4096 dA dB HB.out hi2 hl hlg _ PT2.out QT2.out (.ok (.string (strOfNums a),i3)) HV3.out).mono ?_;rintro ee w3 ⟨rfl,hI3,hB3⟩;have S3:=QA (T2.out.cur T2.out.lt hI3 hB3);obtain⟨⟨b,c,d,h⟩,f30,f31,f32,f33⟩:=S3.out.cells;have T3:=QA (S3.out.sa (strOfNums a));have PT3:=QA T3.out.2.2.2.2.1;have QT3:=QA T3.out.1;obtain⟨⟨t0,t1,t2,t3⟩,_⟩:=T3.out.cells)
  |(go_at_call 175;refine(Qsm lo g bs (0+1) HB.out ⟨by omega,by omega⟩ hl hlg _ PT1.out QT1.out (.ok (.int .u64 q,i2)) HV2.out).mono ?_;rintro ee w2 ⟨rfl,hI2,hB2⟩;have S2:=QA (T1.out.cur T1.out.lt hI2 hB2);obtain⟨⟨j,k,l,m⟩,f20,f21,f22,f23⟩:=S2.out.cells;have T2:=QA (S2.out.sq q);have PT2:=QA T2.out.2.2.2.2.1;have QT2:=QA T2.out.1)
  |(go_at_call 173;refine(Qsk lo g bs 0 3 HY.out HB.out (Int.le_refl _) hl h0 hlg _ HS.out.2.2.2.2.1 HS.out.1).mono ?_;rintro ee w1 ⟨rfl,hI1,hB1⟩;have S1:=QA (HS.out.cur HS.out.lt hI1 hB1);obtain⟨⟨c10,n,o,r⟩,f10,f11,f12,f13⟩:=S1.out.cells;have T1:=QA (S1.out.sd true);have PT1:=QA T1.out.2.2.2.2.1;have QT1:=QA T1.out.1))
 go_end0
 exact⟨rfl,T3.out.cur T3.out.lt hI5 hB5⟩
def recL (bs:List Int):Except (Int × Int) ((Bool × Int × ByteArray × ByteArray) × Int) :=
 if (0:Int)<(bs.length:Int)then
  if YteaocbonofboeaaGreatW.PrintWords.rd bs 0≠2∧YteaocbonofboeaaGreatW.PrintWords.rd bs 0≠3 then .error (4,0+1)
  else match Qsl bs 10 0 (0+1) 0 with
   | .error p=>.error p
   | .ok (q,i2)=>match Qso bs 1 4096 i2 with
    | .error p=>.error p
    | .ok (a,i3) =>
     if YteaocbonofboeaaGreatW.PrintWords.rd bs 0=3 then(if 0<(bs.length:Int)-i3 then .error (3,i3)else .ok ((true,q,strOfNums a,(⟨#[]⟩:ByteArray)),i3))
     else match Qso bs 0 1048576 i3 with
      | .error p=>.error p
      | .ok (v,i4)=>if 0<(bs.length:Int)-i4 then .error (3,i4)else .ok ((false,q,strOfNums a,strOfNums v),i4)
 else .error (2,0)
theorem Qsz{bs:List Int}{least most i:Int}(h0:0≤i)(h1:i≤(bs.length:Int)){xs:List Int}{i2:Int}(h:Qso bs least most i=.ok (xs,i2)):0≤i2∧i2≤(bs.length:Int):=by
 have hr:=Qsn bs 10 0 i 0 h0 h1 (by decide) (by decide);unfold Qso at h
 cases hv:Qsl bs 10 0 i 0 with
 | error p=>rw[hv]at h;cases h
 | ok p =>
  obtain⟨n,i1⟩:=p;rw[hv]at h hr;dsimp only at h hr;split at h
  ·cases h
  ·split at h
   ·cases h
   ·split at h
    ·cases h;omega
    ·cases h
theorem rec_all (rb lo g:Nat) (bs:List Int) (hb:CodecP.Bytes bs) (hl:bs.length≤140737488355328) (hlg:lo≤g) (w:World) (hS:RS w w rb lo g bs 0 false 0 (⟨#[]⟩:ByteArray) (⟨#[]⟩:ByteArray)) :
  Calls Tryz.prog 172 #[.pointer (some ⟨g,0,none⟩),.pointer (some ⟨rb,0,none⟩)] w fun e W' =>
   match recL bs with
   | .ok ((d,q,a,b),i)=>e=.returned (.tuple #[])∧RS w W' rb lo g bs i d q a b
   | .error (er,i)=>e=.panicked [Qnb g er]∧∃d q a b,RS w W' rb lo g bs i d q a b:=by
 unfold recL
 by_cases h0:(0:Int)<(bs.length:Int)
 ·rw [if_pos h0]
  by_cases hk:YteaocbonofboeaaGreatW.PrintWords.rd bs 0≠2∧YteaocbonofboeaaGreatW.PrintWords.rd bs 0≠3
  ·rw[if_pos hk];exact Qsr rb lo g bs hb hl hlg w hS h0 _ rfl hk.1 hk.2
  ·rw [if_neg hk];have hg:=Qsn bs 10 0 (0+1) 0 (by omega) (by omega) (by decide) (by decide);have hcase:(2:Int)=YteaocbonofboeaaGreatW.PrintWords.rd bs 0∨(3:Int)=YteaocbonofboeaaGreatW.PrintWords.rd bs 0:=by omega
   cases hv:Qsl bs 10 0 (0+1) 0 with
   | error p =>
    obtain⟨er,i2⟩:=p
    rcases hcase with hy|hy
    ·exact Qss rb lo g bs hb hl hlg w hS h0 hy er i2 (by rw[hv];rfl)
    ·exact Qsw rb lo g bs hb hl hlg w hS h0 hy er i2 (by rw[hv];rfl)
   | ok p =>
    obtain⟨q,i2⟩:=p;rw[hv]at hg;have hi2:0≤i2∧i2≤(bs.length:Int):=⟨by have:=hg.2.2.1;omega,hg.2.2.2⟩;have hv2:(Qsl bs 10 0 (0+1) 0).map (fun p=>(Value.int .u64 p.1,p.2))=.ok (.int .u64 q,i2):=by rw[hv];rfl
    dsimp only
    cases ht:Qso bs 1 4096 i2 with
    | error p =>
     obtain⟨er,i3⟩:=p
     rcases hcase with hy|hy
     ·exact Qst rb lo g bs hb hl hlg w hS h0 hy q i2 hv2 hi2 er i3 (by rw[ht];rfl)
     ·exact Qsx rb lo g bs hb hl hlg w hS h0 hy q i2 hv2 hi2 er i3 (by rw[ht];rfl)
    | ok p =>
     obtain⟨a,i3⟩:=p;have hi3:=Qsz hi2.1 hi2.2 ht;have hv3:(Qso bs 1 4096 i2).map (fun p=>(Value.string (strOfNums p.1),p.2))=.ok (.string (strOfNums a),i3):=by rw[ht];rfl
     dsimp only
     rcases hcase with hy|hy
     ·rw[if_neg (by omega)]
      cases hu:Qso bs 0 1048576 i3 with
      | error p =>
       obtain⟨er,i4⟩:=p;exact Qsu rb lo g bs hb hl hlg w hS h0 hy q i2 hv2 hi2 a i3 hv3 hi3 er i4 (by rw[hu];rfl)
      | ok p =>
       obtain⟨v,i4⟩:=p;have hi4:=Qsz hi3.1 hi3.2 hu;have hv4:(Qso bs 0 1048576 i3).map (fun p=>(Value.string (strOfNums p.1),p.2))=.ok (.string (strOfNums v),i4):=by rw[hu];rfl
       dsimp only
       by_cases hlt:0<(bs.length:Int)-i4
       ·rw[if_pos hlt];exact Qsv rb lo g bs hb hl hlg w hS h0 hy q i2 hv2 hi2 a i3 hv3 hi3 v i4 hv4 hi4 hlt
       ·rw[if_neg hlt];exact rec_ok2 rb lo g bs hb hl hlg w hS h0 hy q i2 hv2 hi2 a i3 hv3 hi3 v i4 hv4 hi4 (by omega)
     ·rw[if_pos hy.symm]
      by_cases hlt:0<(bs.length:Int)-i3
      ·rw[if_pos hlt];exact Qsy rb lo g bs hb hl hlg w hS h0 hy q i2 hv2 hi2 a i3 hv3 hi3 hlt
      ·rw[if_neg hlt];exact rec_ok3 rb lo g bs hb hl hlg w hS h0 hy q i2 hv2 hi2 a i3 hv3 hi3 (by omega)
 ·rw[if_neg h0];exact Qsq rb lo g bs hb hl hlg w hS h0
end Go.Proofs.YteaocbonofboeaaGreat.C
end
