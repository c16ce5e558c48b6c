/- Merged texts. -/
import Derived.Test.YteaocbonofboeaaGreatMD02
import Derived.WalkLawsBesides
import Derived.Recover
import Derived.Test.YteaocbonofboeaaGreatMD18
import Derived.Test.YteaocbonofboeaaGreatMD06
import Derived.Test.YteaocbonofboeaaGreatMD08
import Derived.Test.YteaocbonofboeaaGreatMD10
import Derived.Test.YteaocbonofboeaaGreatMD09
import Derived.Test.YteaocbonofboeaaGreatMD05
import Derived.Test.YteaocbonofboeaaGreatMD15
import Derived.Test.YteaocbonofboeaaGreatMD14
import Derived.Test.YteaocbonofboeaaGreatMD16
set_option linter.unusedVariables false
set_option linter.unusedSimpArgs false
set_option maxHeartbeats 8000000
set_option maxRecDepth 100000
section
namespace Go.Proofs.YteaocbonofboeaaGreat.C
open Go.RowKit Go.Proofs.YteaocbonofboeaaGreatW.PrintWords Go.Proofs.YteaocbonofboeaaGreatW.PrintLast Go.Proofs.YteaocbonofboeaaGreatW.PrintMore
theorem Qpg(b g:Nat)(bs:List Int)(i x:Int)(hx:x=YteaocbonofboeaaGreatW.PrintWords.rd bs i)(hb:CodecP.Bytes bs)(hi:0≤i)(hl:bs.length≤140737488355328)(hs:i<(bs.length:Int))(hbg:b≤g)(w:World)(hbw:b≤w.heap.size)(hI:IsCur w b g bs i) :
  Calls Tryz.prog 173 #[.pointer (some ⟨g,0,none⟩)] w fun e w'=>e=.returned (.int .u8 x)∧IsCur w' b g bs (i+1)∧Bw b g w w':=by
 obtain⟨j,rfl⟩:=Int.eq_ofNat_of_zero_le hi;have hj:j<bs.length:=by omega
 have hr:=CodecP.rd_range hb hj;obtain⟨k,y,h1,h2⟩:=CodecP.byte_key (YteaocbonofboeaaGreatW.PrintWords.rd bs (j:Int)) hr;have h:=Qon k b g bs [YteaocbonofboeaaGreatW.PrintWords.rd bs (j:Int)] j y (by
  rw[CodecP.rd_get hj,show(j:Int).toNat=j from rfl,List.drop_eq_getElem_cons hj];rfl) hi hl (by omega) hbg h1 w hbw hI
 rw[h2,← hx]at h;exact h
def Qph(bs:List Int):Nat→Int→Int→Int→Except (Int × Int) (Int × Int)
 | 0,_,i,x=>.ok (x,i)
 | f+1,j,i,x =>
  if i<(bs.length:Int)then
   if j=9∧1<YteaocbonofboeaaGreatW.PrintWords.rd bs i then .error (3,i+1)
   else if 128≤YteaocbonofboeaaGreatW.PrintWords.rd bs i then Qph bs f (j+1) (i+1) (Go.bits .or .u64 x (shl .u64 (IntKind.u64.wrap (Go.bits .andNot .u8 (YteaocbonofboeaaGreatW.PrintWords.rd bs i) 128)) (7*j)))
   else if YteaocbonofboeaaGreatW.PrintWords.rd bs i=0∧0<j then .error (4,i+1)
   else .ok (Go.bits .or .u64 x (shl .u64 (IntKind.u64.wrap (Go.bits .andNot .u8 (YteaocbonofboeaaGreatW.PrintWords.rd bs i) 128)) (7*j)),i+1)
  else .error (2,i)
def Ends(b g:Nat)(bs:List Int)(w:World)(r:Except (Int × Int) (Value × Int))(e:Ending)(w':World):Prop :=
 match r with
 | .ok (v,i)=>e=.returned v∧IsCur w' b g bs i∧Bw b g w w'
 | .error (er,i)=>Qol b g bs i er w e w'
theorem Qpi (b g:Nat) (bs:List Int) (i:Int) (hb:CodecP.Bytes bs) (hi:0≤i∧i≤(bs.length:Int)) (hl:bs.length≤140737488355328) (hbg:b≤g) (w:World) (hbw:b≤w.heap.size) (hI:IsCur w b g bs i) (R:Except (Int × Int) (Value × Int)) (hR:(Qph bs 10 0 i 0).map (fun p=>(Value.int .u64 p.1,p.2))=R) :
  Calls Tryz.prog 175 #[.pointer (some ⟨g,0,none⟩)] w (Ends b g bs w R):=by
 have HI:=QA hI;have HR:=QA hR;have HBY:=QA hb;have HW:=QA hbw;clear hI hR hb hbw
 go_enter Tryz.func175,Tryz.ntmps175
 go_wp2
 go_loopw [3,6] (fun v3 v6 wr=>∃(x j i2:Int) (f:Nat),v3=.int .u64 x∧v6=.int .i64 j∧Aside0 (0≤j∧j+(f:Int)=10)∧Aside0 (0≤i2∧i2≤(bs.length:Int))∧Aside0 ((Qph bs f j i2 x).map (fun p=>(Value.int .u64 p.1,p.2))=R)∧Aside0 (IsCur wr b g bs i2)∧Aside0 (Bw b g w wr))
  (fun _ v6 _=>10-(intOf v6).toNat)
 case atStart=>exact⟨0,0,i,10,rfl,rfl,⟨by omega⟩,⟨hi⟩,HR,HI,⟨Bw.refl _ _ _⟩⟩
 case round =>
  obtain⟨x,j,i2,f,rfl,rfl,HJ,HI2,HV,HIr,HBr⟩:=hrel;have hbr:b≤wr.heap.size:=Nat.le_trans HW.out HBr.out.size
  cases f with
  | zero =>
   have hj:j=10:=by have:=HJ.out;omega
   subst hj;have hv:=HV.out;simp only[Qph,Except.map]at hv;subst hv;go_wp2;go_ret
   exact⟨rfl,HIr.out,HBr.out⟩
  | succ f =>
   have hv:=HV.out;clear HV;have hj1:decide (j<10)=true:=decide_eq_true (by have:=HJ.out;omega);simp only[Qph]at hv
   by_cases hlt:i2<(bs.length:Int)
   ·rw [if_pos hlt]at hv;obtain⟨y,hy⟩:∃y,y=YteaocbonofboeaaGreatW.PrintWords.rd bs i2:=⟨_,rfl⟩;rw[← hy]at hv;have HY:=QA hy;have HLT:=QA hlt;have hw7:IntKind.i64.wrap (7*j)=7*j:=IntWalk.i64_in _ (by have:=HJ.out;omega);have hwj:IntKind.i64.wrap (j+1)=j+1:=IntWalk.i64_in _ (by have:=HJ.out;omega);obtain⟨s7,hs7⟩:∃s7:Int,7*j=s7:=⟨_,rfl⟩;have hw7':IntKind.i64.wrap (7*j)=s7:=hw7.trans hs7;have hs70:0≤s7:=by have:=HJ.out;omega
    rw[hs7]at hv;obtain⟨z,hz⟩:∃z:Int,Go.bits .andNot .u8 y 128=z:=⟨_,rfl⟩;rw[hz]at hv;obtain⟨j8,hj8⟩:∃j8:Int,(shl .u64 (IntKind.u64.wrap z) s7)=j8:=⟨_,rfl⟩;rw[hj8]at hv;have hj8_:(IntKind.u64.wrap ((IntKind.u64.wrap z)*2^min s7.toNat 64))=j8:=hj8;have hj8z:s7≤64→(IntKind.u64.wrap ((IntKind.u64.wrap z)*2^s7.toNat))=j8:=Qhv hj8;have HS7:=QA hs7;clear hy hlt hw7 hs7 hj8;have hi20:=HI2.out.1
    by_cases h9:j=9∧1<y
    ·rw[if_pos h9]at hv;simp only[Except.map]at hv;subst hv;have m:(j == 9)=true:=by rw[h9.1];rfl
     have n:decide (1<y)=true:=decide_eq_true h9.2;clear h9
     go_wp2_with (first
      |(go_at_call 173;refine(Qpg b g bs i2 y HY.out HBY.out HI2.out.1 hl HLT.out hbg _ hbr HIr.out).mono ?_;rintro ee w1 ⟨rfl,hI1,hB1⟩)
      |(go_at_call 174;refine(Qls b g bs (i2+1) 3 (by decide) _ hI1).mono ?_;rintro ee w2 ⟨rfl,rfl⟩))
     exact⟨rfl,rfl,hI1,HBr.out.trans hB1⟩
    ·rw [if_neg h9]at hv
     by_cases e9:j=9
     ·have m:(j == 9)=true:=by rw[e9];rfl
      have n:decide (1<y)=false:=decide_eq_false (fun h=>h9 ⟨e9,h⟩);clear h9 e9
      by_cases a:128≤y
      ·rw[if_pos a]at hv;have k:decide (128≤y)=true:=decide_eq_true a;have HV:=QA hv;clear hv a
       go_wp2_with (go_at_call 173;refine(Qpg b g bs i2 y HY.out HBY.out HI2.out.1 hl HLT.out hbg _ hbr HIr.out).mono ?_;rintro ee w1 ⟨rfl,hI1,hB1⟩)
       go_roundw
       case rel=>exact⟨_,j+1,i2+1,f,rfl,rfl,⟨by have:=HJ.out;omega⟩,⟨by have:=HI2.out;have:=HLT.out;omega⟩,HV,⟨hI1⟩,⟨HBr.out.trans hB1⟩⟩
       case measure=>have:=HJ.out;simp[intOf];omega
      ·rw[if_neg a]at hv;have k:decide (128≤y)=false:=decide_eq_false a;clear a
       by_cases c:y=0∧0<j
       ·rw[if_pos c]at hv;simp only[Except.map]at hv;subst hv;have d:(y == 0)=true:=by rw[c.1];rfl
        have l:decide (0<j)=true:=decide_eq_true c.2;clear c
        go_wp2_with (first
         |(go_at_call 173;refine(Qpg b g bs i2 y HY.out HBY.out HI2.out.1 hl HLT.out hbg _ hbr HIr.out).mono ?_;rintro ee w1 ⟨rfl,hI1,hB1⟩)
         |(go_at_call 174;refine(Qls b g bs (i2+1) 4 (by decide) _ hI1).mono ?_;rintro ee w2 ⟨rfl,rfl⟩))
        exact⟨rfl,rfl,hI1,HBr.out.trans hB1⟩
       ·rw[if_neg c]at hv;simp only[Except.map]at hv;subst hv
        by_cases hyz:y=0
        ·have d:(y == 0)=true:=by rw[hyz];rfl
         have l:decide (0<j)=false:=decide_eq_false (fun h=>c ⟨hyz,h⟩);clear c hyz
         go_wp2_with (go_at_call 173;refine(Qpg b g bs i2 y HY.out HBY.out HI2.out.1 hl HLT.out hbg _ hbr HIr.out).mono ?_;rintro ee w1 ⟨rfl,hI1,hB1⟩)
         go_ret
         exact⟨rfl,hI1,HBr.out.trans hB1⟩
        ·have d:(y == 0)=false:=beq_eq_false_iff_ne.2 hyz;clear c hyz
         go_wp2_with (go_at_call 173;refine(Qpg b g bs i2 y HY.out HBY.out HI2.out.1 hl HLT.out hbg _ hbr HIr.out).mono ?_;rintro ee w1 ⟨rfl,hI1,hB1⟩)
         go_ret
         exact⟨rfl,hI1,HBr.out.trans hB1⟩
     ·have m:(j == 9)=false:=beq_eq_false_iff_ne.2 e9;clear h9 e9
      by_cases a:128≤y
      ·rw[if_pos a]at hv;have k:decide (128≤y)=true:=decide_eq_true a;have HV:=QA hv;clear hv a
       go_wp2_with (go_at_call 173;refine(Qpg b g bs i2 y HY.out HBY.out HI2.out.1 hl HLT.out hbg _ hbr HIr.out).mono ?_;rintro ee w1 ⟨rfl,hI1,hB1⟩)
       go_roundw
       case rel=>exact⟨_,j+1,i2+1,f,rfl,rfl,⟨by have:=HJ.out;omega⟩,⟨by have:=HI2.out;have:=HLT.out;omega⟩,HV,⟨hI1⟩,⟨HBr.out.trans hB1⟩⟩
       case measure=>have:=HJ.out;simp[intOf];omega
      ·rw[if_neg a]at hv;have k:decide (128≤y)=false:=decide_eq_false a;clear a
       by_cases c:y=0∧0<j
       ·rw[if_pos c]at hv;simp only[Except.map]at hv;subst hv;have d:(y == 0)=true:=by rw[c.1];rfl
        have l:decide (0<j)=true:=decide_eq_true c.2;clear c
        go_wp2_with (first
         |(go_at_call 173;refine(Qpg b g bs i2 y HY.out HBY.out HI2.out.1 hl HLT.out hbg _ hbr HIr.out).mono ?_;rintro ee w1 ⟨rfl,hI1,hB1⟩)
         |(go_at_call 174;refine(Qls b g bs (i2+1) 4 (by decide) _ hI1).mono ?_;rintro ee w2 ⟨rfl,rfl⟩))
        exact⟨rfl,rfl,hI1,HBr.out.trans hB1⟩
       ·rw[if_neg c]at hv;simp only[Except.map]at hv;subst hv
        by_cases hyz:y=0
        ·have d:(y == 0)=true:=by rw[hyz];rfl
         have l:decide (0<j)=false:=decide_eq_false (fun h=>c ⟨hyz,h⟩);clear c hyz
         go_wp2_with (go_at_call 173;refine(Qpg b g bs i2 y HY.out HBY.out HI2.out.1 hl HLT.out hbg _ hbr HIr.out).mono ?_;rintro ee w1 ⟨rfl,hI1,hB1⟩)
         go_ret
         exact⟨rfl,hI1,HBr.out.trans hB1⟩
        ·have d:(y == 0)=false:=beq_eq_false_iff_ne.2 hyz;clear c hyz
         go_wp2_with (go_at_call 173;refine(Qpg b g bs i2 y HY.out HBY.out HI2.out.1 hl HLT.out hbg _ hbr HIr.out).mono ?_;rintro ee w1 ⟨rfl,hI1,hB1⟩)
         go_ret
         exact⟨rfl,hI1,HBr.out.trans hB1⟩
   ·rw[if_neg hlt]at hv;simp only[Except.map]at hv;subst hv
    go_wp2_with (go_at_call 173;refine(Qoo b g bs i2 HI2.out hl (by omega) _ hbr HIr.out).mono ?_;rintro ee w1 ⟨rfl,hI1,hB1⟩)
    exact⟨rfl,rfl,hI1,HBr.out.trans hB1⟩
theorem Qsi{a b:List Int}(ha:CodecP.Bytes a)(hb:CodecP.Bytes b):(strOfNums a).toList=(strOfNums b).toList↔a=b:=by
 constructor
 ·intro h;have h2:strOfNums a=strOfNums b:=by
   rw[Lib.toList_data,Lib.toList_data]at h;have h3:=Array.toList_inj.1 h;generalize strOfNums a=x at h3 ⊢;generalize strOfNums b=y at h3 ⊢
   cases x
   cases y
   congr
  have:=congrArg bytesOf h2
  rwa [CodecP.bytesOf_nums ha,CodecP.bytesOf_nums hb]at this
 ·intro h;rw[h]
theorem Qsj(A0 A1:Option Addr)(c0 c1:Nat)(l0 l1:List Int)(w:World)(hr0:Kd.C (Kd.int .u8) w A0 l0.length l0)(hc0:l0.length≤c0)(hr1:Kd.C (Kd.int .u8) w A1 l1.length l1)(hc1:l1.length≤c1)(hb0:CodecP.Bytes l0)(hb1:CodecP.Bytes l1)(hl:l0.length≤1099511627776) :
  Calls Tryz.prog 67 #[.slice A0 l0.length c0,.slice A1 l1.length c1] w fun e w'=>e=.returned (.bool (decide (l0.take l1.length=l1)))∧Below w.heap.size w w':=by
 have c:=QA hr1;have d:=QA hc1
 by_cases hle:l1.length≤l0.length
 ·obtain⟨j,hj⟩:∃j:Int,j=(l1.length:Int):=⟨_,rfl⟩;have hb2:decide ((l1.length:Int)≤(l0.length:Int))=true:=decide_eq_true (by omega);have hb3:decide (l1.length≤l0.length)=true:=decide_eq_true hle;obtain⟨i0,hii,_,hsz,_⟩:=info_parts Qia;have hcut:=Qea (P:=Tryz.prog) 40 5 .i64 Tryz.underlying40 hii A0 l0.length c0 (l1.length:Int) (by omega) (by omega) hc0;have hC:=Kd.C_take (m:=l1.length) hr0 hle;have htl:(l0.take l1.length).length=l1.length:=by rw[List.length_take];omega
  obtain⟨xs,hxs⟩:∃xs,xs=l0.take l1.length:=⟨_,rfl⟩;rw[← hxs]at hC htl ⊢;rw[Int.toNat_natCast,← htl]at hcut;have hq:Qad.f xs l1=some (decide (xs=l1)):=by
   unfold Qad.f
   congr 1
   have:=Qsi (a:=xs) (b:=l1) (by rw[hxs];exact hb0.take _) hb1
   by_cases h:xs=l1
   ·simp[h]
   ·have h2:¬(strOfNums xs).toList=(strOfNums l1).toList:=fun e=>h (this.1 e)
    rw[decide_eq_false h];exact beq_eq_false_iff_ne.2 h2
  obtain⟨q,hqq⟩:∃q,q=decide (xs=l1):=⟨_,rfl⟩;rw[← hqq]at hq ⊢;have EQ:=QA (fun W (h:Below w.heap.size w W)=>Qad.calls A0 c0 xs A1 c1 l1 q W (Kd.C_below hC h) (by omega) (Kd.C_below hr1 h) hc1 hq);have hn:((xs.length:Nat):Int)=(l1.length:Int):=by omega
  obtain⟨n1,g⟩:∃n1,n1=l1.length:=⟨_,rfl⟩;obtain⟨n0,k⟩:∃n0,n0=l0.length:=⟨_,rfl⟩;rw[htl]at hcut EQ;rw[← g]at hcut EQ hb2 hb3 ⊢;rw[← k]at hcut hb2 hb3 ⊢;clear hr0 hr1 hC hxs hq hqq hii hsz htl hc0 hc1 hle hj hn c d hb0 hb1 hl g k
  go_enter Tryz.func67,Tryz.ntmps67
  go_wp2_with (go_at_call 96;refine(EQ.out _ (Below.refl _ _)).mono ?_;rintro ee w2 ⟨rfl,hd⟩)
  go_ret
  exact⟨rfl,hd.below⟩
 ·have hb2:decide ((l1.length:Int)≤(l0.length:Int))=false:=decide_eq_false (by omega);have hb3:decide (l1.length≤l0.length)=false:=decide_eq_false hle;have hd:decide (l0.take l1.length=l1)=false:=decide_eq_false (fun e=>by
   have:=congrArg List.length e;rw[List.length_take]at this;omega)
  rw[hd];clear hd hr0 hr1 c d
  go_enter Tryz.func67,Tryz.ntmps67
  go_wp2;go_ret
  exact⟨rfl,Below.refl _ _⟩
section
variable {w W W':World} {xb gb:Nat} {d:Bool} {g1:ByteArray} {g2 g3:Int}
end
end Go.Proofs.YteaocbonofboeaaGreat.C
end
section
namespace Go.Proofs.YteaocbonofboeaaGreat.C
open Go.RowKit Go.Proofs.YteaocbonofboeaaGreatW.PrintWords Go.Proofs.YteaocbonofboeaaGreatW.PrintLast Go.Proofs.YteaocbonofboeaaGreatW.PrintMore
attribute [local go_sem] Qhl Qhm Qhn Qho
theorem Qpj(bs:List Int):∀(f:Nat) (j i x:Int),0≤i→i≤(bs.length:Int)→0≤x→x<18446744073709551616 →
  match Qph bs f j i x with
  | .ok (n,i1)=>0≤n∧n<18446744073709551616∧i≤i1∧i1≤(bs.length:Int)
  | .error (_,i1)=>i≤i1∧i1≤(bs.length:Int)
 | 0,_,i,x=>fun h0 h1 h2 h3=>⟨h2,h3,Int.le_refl _,h1⟩
 | f + 1,j,i,x=>fun h0 h1 h2 h3=>by
  obtain⟨y,hy⟩:∃y,y=Go.bits .or .u64 x (shl .u64 (IntKind.u64.wrap (Go.bits .andNot .u8 (YteaocbonofboeaaGreatW.PrintWords.rd bs i) 128)) (7*j)):=⟨_,rfl⟩;have hr:0≤y∧y<18446744073709551616:=by
   have e:∀z:Int,0≤IntKind.u64.wrap z∧IntKind.u64.wrap z<18446744073709551616:=fun z=>by rw[IntKind.wrap_u64];omega
   rw[hy];exact e _
  unfold Qph;rw[← hy]
  by_cases hlt:i<(bs.length:Int)
  ·rw[if_pos hlt]
   by_cases c1:j=9∧1<YteaocbonofboeaaGreatW.PrintWords.rd bs i
   ·rw[if_pos c1];exact⟨by omega,by omega⟩
   ·rw[if_neg c1]
    by_cases c2:128≤YteaocbonofboeaaGreatW.PrintWords.rd bs i
    ·rw[if_pos c2];have h:=Qpj bs f (j+1) (i+1) y (by omega) (by omega) hr.1 hr.2
     revert h
     cases Qph bs f (j+1) (i+1) y with
     | ok p=>exact fun h=>⟨h.1,h.2.1,by have:=h.2.2.1;omega,h.2.2.2⟩
     | error p=>exact fun h=>⟨by have:=h.1;omega,h.2⟩
    ·rw[if_neg c2]
     by_cases c3:YteaocbonofboeaaGreatW.PrintWords.rd bs i=0∧0<j
     ·rw[if_pos c3];exact⟨by omega,by omega⟩
     ·rw[if_neg c3];exact⟨hr.1,hr.2,by omega,by omega⟩
  ·rw[if_neg hlt];exact⟨Int.le_refl _,h1⟩
def Qpk(bs:List Int)(least most i:Int):Except (Int × Int) (List Int × Int) :=
 match Qph bs 10 0 i 0 with
 | .error p=>.error p
 | .ok (n,i1)=>if most<n then .error (3,i1)else if n<least then .error (4,i1)else if i1+n≤(bs.length:Int)then .ok ((bs.drop i1.toNat).take n.toNat,i1+n)else .error (2,i1)
theorem Qpl(b g:Nat)(bs:List Int)(i least most:Int)(hle:0≤least∧least≤4611686018427387904)(hmo:0≤most∧most≤4611686018427387904)(hb:CodecP.Bytes bs)(hi:0≤i∧i≤(bs.length:Int))(hl:bs.length≤140737488355328)(hbg:b≤g)(w:World)(hbw:b≤w.heap.size)(hI:IsCur w b g bs i)(R:Except (Int × Int) (Value × Int))(hR:(Qpk bs least most i).map (fun p=>(Value.string (strOfNums p.1),p.2))=R) :
  Calls Tryz.prog 176 #[.pointer (some ⟨g,0,none⟩),.int .i64 least,.int .i64 most] w (Ends b g bs w R):=by
 have HI:=QA hI;have HW:=QA hbw;have hrg:=Qpj bs 10 0 i 0 hi.1 hi.2 (by decide) (by decide);have hwl:IntKind.u64.wrap least=least:=IntWalk.u64_in _ (by omega);have hwm:IntKind.u64.wrap most=most:=IntWalk.u64_in _ (by omega);have hm1:max 0 most=most:=by omega
 have hm2:max 0 least=least:=by omega
 have d:∀W:World,(convert 40 9 (.slice none 0 0)).run Tryz.prog W=.ok (.string (strOfNums [])) W:=fun W=>Qcn (P:=Tryz.prog) Tryz.underlying40 Tryz.underlying5 Tryz.underlying9 (Kd.own_of_R (Kd.R_nil (Kd.int .u8) 5 W b (fun _=>True)))
 unfold Qpk at hR;clear hI hbw
 cases hv:Qph bs 10 0 i 0 with
 | error p =>
  obtain⟨er,i1⟩:=p;rw[hv]at hR hrg;simp only[Except.map]at hR;have HV:=QA hv;clear hv;subst hR
  go_enter Tryz.func176,Tryz.ntmps176
  go_wp2_with (go_at_call 175;refine(Qpi b g bs i hb hi hl hbg _ HW.out HI.out (.error (er,i1)) (by rw[HV.out];rfl)).mono ?_;rintro ee w1 ⟨rfl,hI1,hB1⟩)
  all_goals first|exact⟨rfl,rfl,hI1,hB1⟩ |(exfalso;omega)
 | ok p =>
  obtain⟨n,i1⟩:=p;rw[hv]at hR hrg;obtain⟨h,j,hi0,hi1⟩:=hrg;dsimp only at hR;have HV:=QA hv;clear hv;have GET:Aside0 (Calls Tryz.prog 175 #[.pointer (some ⟨g,0,none⟩)] w (Ends b g bs w (.ok (.int .u64 n,i1)))):=⟨Qpi b g bs i hb hi hl hbg _ HW.out HI.out (.ok (.int .u64 n,i1)) (by rw[HV.out];rfl)⟩
  by_cases c1:most<n
  ·rw[if_pos c1]at hR;simp only[Except.map]at hR;subst hR;have a:decide (most<n)=true:=decide_eq_true c1
   go_enter Tryz.func176,Tryz.ntmps176
   go_wp2_with (first
    |(go_at_call 175;refine GET.out.mono ?_;rintro ee w1 ⟨rfl,hI1,hB1⟩)
    |(go_at_call 174;refine(Qls b g bs i1 3 (by decide) _ hI1).mono ?_;rintro ee w2 ⟨rfl,rfl⟩))
   all_goals first|exact⟨rfl,rfl,hI1,hB1⟩ |(exfalso;omega)
  ·rw [if_neg c1]at hR;have a:decide (most<n)=false:=decide_eq_false c1;have hwn:IntKind.i64.wrap n=n:=IntWalk.i64_in _ (by omega)
   by_cases c2:n<least
   ·rw[if_pos c2]at hR;simp only[Except.map]at hR;subst hR;have c:decide (n<least)=true:=decide_eq_true c2
    go_enter Tryz.func176,Tryz.ntmps176
    go_wp2_with (first
     |(go_at_call 175;refine GET.out.mono ?_;rintro ee w1 ⟨rfl,hI1,hB1⟩)
     |(go_at_call 174;refine(Qls b g bs i1 4 (by decide) _ hI1).mono ?_;rintro ee w2 ⟨rfl,rfl⟩))
    all_goals first|exact⟨rfl,rfl,hI1,hB1⟩ |(exfalso;omega)
   ·rw [if_neg c2]at hR;have c:decide (n<least)=false:=decide_eq_false c2
    by_cases c3:i1+n≤(bs.length:Int)
    ·rw[if_pos c3]at hR;simp only[Except.map]at hR;subst hR
     by_cases c4:n≤0
     ·obtain rfl:n=0:=by omega
      go_enter Tryz.func176,Tryz.ntmps176
      go_wp2_with (first
       |(go_at_call 175;refine GET.out.mono ?_;rintro ee w1 ⟨rfl,hI1,hB1⟩)
       |(go_at_call 221;refine(Qlu b g bs i1 0 (by decide) _ hI1).mono ?_;rintro ee w2 ⟨rfl,rfl⟩))
      all_goals go_ret
      all_goals exact⟨rfl,hI1,hB1⟩
     ·obtain⟨xs,hxs⟩:∃xs,xs=(bs.drop i1.toNat).take n.toNat:=⟨_,rfl⟩;rw[← hxs];have HX:=QA hxs;clear hxs
      go_enter Tryz.func176,Tryz.ntmps176
      go_wp2_with (first
       |(go_at_call 175;refine GET.out.mono ?_;rintro ee w1 ⟨rfl,hI1,hB1⟩)
       |(go_at_call 221;refine(Qlw b g bs xs i1 n HX.out (by omega) (by omega) hl c3 hbg _ (Nat.le_trans HW.out hB1.size) hI1).mono ?_;rintro ee w2 ⟨v,rfl,hRv,hI2,hB2⟩;have cv:=Qcn (P:=Tryz.prog) Tryz.underlying40 Tryz.underlying5 Tryz.underlying9 (Kd.own_of_R hRv)))
      all_goals first |(go_ret;exact⟨rfl,hI2,hB1.trans hB2⟩) |(exfalso;omega)
    ·rw[if_neg c3]at hR;simp only[Except.map]at hR;subst hR
     go_enter Tryz.func176,Tryz.ntmps176
     go_wp2_with (first
      |(go_at_call 175;refine GET.out.mono ?_;rintro ee w1 ⟨rfl,hI1,hB1⟩)
      |(go_at_call 221;refine(Qlt b g bs i1 n (by omega) ⟨by omega,hi1⟩ hl (by omega) _ hI1).mono ?_;rintro ee w2 ⟨rfl,hb2⟩))
     all_goals first|exact⟨rfl,rfl,hI1.kept hb2,hB1.trans (Bw.below hb2 (Nat.le_trans HW.out hB1.size))⟩ |(exfalso;omega)
theorem IsCur.blk{W W':World}{b g:Nat}{bs:List Int}{i:Int}(h:IsCur W b g bs i)(hm:∀(k:Nat) (cs:Array Value) (t:TypeId),W.heap[k]? = some (.cells cs t (0,0))→(t=5∨t=300)→W'.heap[k]? = W.heap[k]?):IsCur W' b g bs i:=by
 obtain⟨v,hv,hR⟩:=h;refine⟨v,(hm _ _ _ hv (.inr rfl)).trans hv,?_⟩;refine Kd.R_mono (Kd.R_step (Kd.R_bound hR) (fun k hk _=>?_)) (fun _ _=>trivial);obtain⟨_,_,_,qq,hq,cells,hc⟩:=hk;exact hm k _ _ hc (by revert hq;revert qq;intro qq hc hq;rcases List.mem_cons.1 hq with rfl|hq;exact .inl rfl;cases hq)
theorem IsCur.grown{α:Type}{d:Kd α}{q base:Nat}{v:Value}{xs:List α}{ok:Nat→Prop}{W W':World}{b g:Nat}{bs:List Int}{i:Int}(h:IsCur W b g bs i)(hR:d.R q W base ok v xs)(hq:q≠5∧q≠300)(hg:W.grownBy W' v.ownBlock):IsCur W' b g bs i :=
 h.blk (fun k cs t hc ht=>(Qdd hc hg (Kd.R_ne hR hc (by rcases ht with rfl|rfl;exact hq.1;exact hq.2))).trans hc.symm)
theorem Bw.then{b g:Nat}{w wr w1:World}(h:Bw b g w wr)(hb:Below w.heap.size wr w1)(hbw:b≤w.heap.size):Bw b g w w1 :=
 ⟨h.1.trans (Qis hb hbw),fun k cs t h1 h2 h3=>(hb.block k (Qda h1)).trans (h.2 _ _ _ h1 h2 h3)⟩
theorem RU.cur{W W':World}{b g b':Nat}{v:Value}{xs bs:List Int}{i:Int}(h:RU W b' v xs)(hI:IsCur W b g bs i)(hT:Bw b g W W'):RU W' b' v xs:=by
 obtain⟨u,hu,_⟩:=hI;refine Kd.R_mono (Kd.R_step (Kd.R_bound h) (fun k hk _=>?_)) (fun _ _=>trivial);obtain⟨q,hq,cells,hc⟩:=hk.2.2.2;have hq':q=35:=by simpa [Kd.int,Kd.scalar]using hq
 subst hq';rw[hc];exact hT.2 k cells _ hc (by decide) (Qde hc hu (by decide))
theorem Qqf(b g:Nat)(bs:List Int)(i x:Int)(hx:x=CodecP.leI ((bs.drop i.toNat).take 8))(hb:CodecP.Bytes bs)(hi:0≤i)(hl:bs.length≤140737488355328)(hs:i+8≤(bs.length:Int))(hbg:b≤g)(w:World)(hbw:b≤w.heap.size)(hI:IsCur w b g bs i) :
  Calls Tryz.prog 171 #[.pointer (some ⟨g,0,none⟩)] w fun e w'=>e=.returned (.int .u64 x)∧IsCur w' b g bs (i+8)∧Bw b g w w':=by
 refine Qop (((bs.drop i.toNat).take 8).length+1) b g bs _ i x rfl hi hl hs hbg ?_ w hbw hI;rw[hx];exact CodecP.num_key _ ((hb.drop _).take _) (by rw[List.length_take];omega)
theorem Qqg(b g:Nat)(bs:List Int)(i x:Int)(hx:x=CodecP.leI ((bs.drop i.toNat).take 4))(hb:CodecP.Bytes bs)(hi:0≤i)(hl:bs.length≤140737488355328)(hs:i+4≤(bs.length:Int))(hbg:b≤g)(w:World)(hbw:b≤w.heap.size)(hI:IsCur w b g bs i) :
  Calls Tryz.prog 179 #[.pointer (some ⟨g,0,none⟩)] w fun e w'=>e=.returned (.int .u32 x)∧IsCur w' b g bs (i+4)∧Bw b g w w'∧K8 w w':=by
 have HI:=QA hI;have hlen:((bs.drop i.toNat).take 4).length=4:=by rw[List.length_take,List.length_drop];omega
 have hr:=CodecP.leI_range ((hb.drop i.toNat).take 4);have HK:=QA (CodecP.num_key ((bs.drop i.toNat).take 4) ((hb.drop _).take _) (by omega));rw[hlen,← hx]at hr;have hw:IntKind.u32.wrap x=x:=IntWalk.u32_in _ (by have:=hr.2;omega);rw[← hx]at HK;have HL:Aside0 (((bs.drop i.toNat).take 4).length≤8):=⟨by omega⟩;clear hI hlen hr hx hb
 go_enter Tryz.func179,Tryz.ntmps179
 go_wp2_with (go_at_call 219;refine(Qoj _ b g bs _ i 4 x rfl (by decide) hi hl hs hbg HL.out HK.out _ hbw HI.out).mono ?_;rintro ee w1 ⟨rfl,hI1,hB1,hK1⟩)
 go_ret
 exact⟨rfl,hI1,hB1,hK1⟩
theorem Qqh(b g:Nat)(bs:List Int)(i x:Int)(hx:x=CodecP.leI ((bs.drop i.toNat).take 4))(hb:CodecP.Bytes bs)(hi:0≤i)(hl:bs.length≤140737488355328)(hs:i+4≤(bs.length:Int))(hbg:b≤g)(w:World)(hbw:b≤w.heap.size)(hI:IsCur w b g bs i) :
  Calls Tryz.prog 179 #[.pointer (some ⟨g,0,none⟩)] w fun e w'=>e=.returned (.int .u32 x)∧IsCur w' b g bs (i+4)∧Bw b g w w':=(Qqg b g bs i x hx hb hi hl hs hbg w hbw hI).mono (by rintro e w' ⟨h1,h2,h3,_⟩;exact⟨h1,h2,h3⟩)
theorem Qqi(b g:Nat)(bs:List Int)(i:Int)(hi:0≤i∧i≤bs.length)(hl:bs.length≤140737488355328)(hs:(bs.length:Int)-i<4)(w:World)(hbw:b≤w.heap.size)(hI:IsCur w b g bs i) :
  Calls Tryz.prog 179 #[.pointer (some ⟨g,0,none⟩)] w (Qol b g bs i 2 w):=by
 have HI:=QA hI;clear hI
 go_enter Tryz.func179,Tryz.ntmps179
 go_wp2_with (go_at_call 219;refine(Qom b g bs i 4 (by decide) hi hl hs _ hbw HI.out).mono ?_;rintro ee w1 ⟨rfl,hF⟩)
 exact⟨rfl,rfl,hF⟩
def Qqj(bs:List Int)(i:Nat)(n:Nat):List Int:=(List.range n).map (fun j=>CodecP.leI ((bs.drop (i+8*j)).take 8))
theorem Qqk(bs:List Int)(i n:Nat):Qqj bs i (n+1)=Qqj bs i n++[CodecP.leI ((bs.drop (i+8*n)).take 8)]:=by simp[Qqj,List.range_succ]
theorem Qql(bs:List Int)(i n:Nat):(Qqj bs i n).length=n:=by simp[Qqj]
theorem Qqm(b g:Nat)(bs:List Int)(i n:Int)(hi:0≤i∧i≤bs.length)(hl:bs.length≤140737488355328)(hn:0≤n)(hs:((bs.length:Int)-i)/8<n)(w:World)(hbw:b≤w.heap.size)(hI:IsCur w b g bs i) :
  Calls Tryz.prog 181 #[.pointer (some ⟨g,0,none⟩),.int .i64 n] w (Qol b g bs i 2 w):=by
 have HI:=QA hI;have hm:(if 0<n then n else 0)=n:=by split<;>omega
 have hq:((bs.length:Int)-i).tdiv 8=((bs.length:Int)-i)/8:=Int.tdiv_eq_ediv_of_nonneg (by omega);obtain⟨q,hqq⟩:∃q,q=((bs.length:Int)-i)/8:=⟨_,rfl⟩;rw[← hqq]at hq hs;have hb1:decide (q<n)=true:=decide_eq_true hs;have hw:IntKind.i64.wrap q=q:=IntWalk.i64_in _ (by omega);clear hI hqq
 go_enter Tryz.func181,Tryz.ntmps181
 go_wp2_with (first
  |(go_at_call 222;refine(Qoq b g bs i hi hl _ HI.out).mono ?_;rintro ee w1 ⟨rfl,hb1⟩;have HI1:=QA (HI.out.kept hb1))
  |(go_at_call 174;refine(Qls b g bs i 2 (by decide) _ HI1.out).mono ?_;rintro ee w2 ⟨rfl,rfl⟩))
 all_goals exact⟨rfl,rfl,HI1.out,Bw.below hb1 hbw⟩
theorem Qqn(k b g:Nat)(bs:List Int)(i n:Nat)(N:Int)(hN:N=(n:Int))(s:Bool)(hb:CodecP.Bytes bs)(hl:bs.length≤140737488355328)(hn:i+8*n≤bs.length)(hs:Qby.f k (Qqj bs i n)=some s)(hbg:b≤g)(w:World)(hbw:b≤w.heap.size)(hI:IsCur w b g bs i) :
  Calls Tryz.prog 181 #[.pointer (some ⟨g,0,none⟩),.int .i64 N] w fun e w'=>IsCur w' b g bs ((i+8*n:Nat):Int)∧Bw b g w w'∧((s=true∧∃v,e=.returned v∧RU w' w.heap.size v (Qqj bs i n))∨(s=false∧e=.panicked [Qlq g 8])):=by
 have HI:=QA hI;have HW:=QA hbw;have HB:=QA hb;have HS:=QA hs;have HN:=QA hn;have hm:(if 0<N then N else 0)=N:=by split<;>omega
 obtain⟨q,hqq⟩:∃q,q=((bs.length:Int)-(i:Int))/8:=⟨_,rfl⟩;have hq:((bs.length:Int)-(i:Int)).tdiv 8=q:=by rw[hqq];exact Int.tdiv_eq_ediv_of_nonneg (by omega)
 have hb1:decide (q<N)=false:=decide_eq_false (by omega);have hw:IntKind.i64.wrap q=q:=IntWalk.i64_in _ (by omega);have t:(n:Int)≤140737488355328:=by omega
 have HNN:=QA hN;clear hN hI hqq hbw hb hs hn
 go_enter Tryz.func181,Tryz.ntmps181
 go_wp2_with (go_at_call 222;refine(Qoq b g bs i qq_16 hl _ HI.out).mono ?_;rintro ee w1 ⟨rfl,hb1⟩;have HI1:=QA (HI.out.kept hb1);have c:=QA (Bw.below (b:=b) (g:=g) hb1 HW.out);clear hb1)
 go_loopw [5,16] (fun v5 a wr=>∃(vo:Value) (j:Nat) (iv:Int),vo=v5∧j≤n∧a=.int .i64 iv∧Aside0 (iv=(j:Int))∧Aside0 (RU wr w.heap.size vo (Qqj bs i j))∧Aside0 (IsCur wr b g bs ((i+8*j:Nat):Int))∧Aside0 (Bw b g w wr))
  (fun _ a _=>n-(intOf a).toNat)
 case atStart=>exact⟨_,0,0,rfl,Nat.zero_le _,rfl,⟨rfl⟩,⟨Kd.R_nil _ _ _ _ _⟩,⟨by simpa using HI1.out⟩,c⟩
 case round =>
  obtain⟨vo,j,iv,rfl,hj,rfl,HJ,HR,HIr,HBr⟩:=hrel;clear HI1 c HI;have hbr:b≤wr.heap.size:=Nat.le_trans HW.out HBr.out.size;obtain⟨Ao,co,hvo⟩:=Kd.R_slice HR.out;subst hvo
  by_cases hlt:j<n
  ·have hlt2:iv<N:=by have:=HJ.out;have:=HNN.out;omega
   have hge:0≤iv:=by have:=HJ.out;omega
   have hwi:IntKind.i64.wrap (iv+1)=iv+1:=IntWalk.i64_in _ (by have:=HNN.out;omega);obtain⟨x,hx⟩:∃x,x=CodecP.leI ((bs.drop (i+8*j)).take 8):=⟨_,rfl⟩;have HX:=QA hx;clear hx
   go_wp2_with (first
    |(go_at_call 171;refine(Qqf b g bs ((i+8*j:Nat):Int) x (by rw[Int.toNat_natCast];exact HX.out) HB.out (Int.natCast_nonneg _) hl qq_16 hbg _ hbr HIr.out).mono ?_;rintro ee w2 ⟨rfl,hI2,hB2⟩;have d:=QA (RU.cur HR.out HIr.out hB2);have HI2:=QA hI2;have h:=QA (HBr.out.trans hB2);clear hI2 hB2)
    |(at_builtin;refine Kd.R_append (Kd.int .u64) (w0:=w2) w.heap.size rfl (.tmp 18) (.tmp 21) 93 35 (.int .u64 0) 8 rfl Tryz.underlying93 Qic rfl (by decide) (by omega) (.slice Ao (Qqj bs i j).length co) (Qqj bs i j) x [.int .u64 x] (fun _=>True) (fun _=>False) rfl ?ax ?aP (fun _ hk=>hk.elim) ?aF ?aO ?aB ?aS ?aL ?_;(case ax=>rfl);(case aP=>rfl);(case aF=>exact fun _ _=>trivial);(case aO=>exact d.out);(case aB=>exact Below.refl _ _);(case aS=>exact h.out.size);(case aL=>rw[Qql];have:=HN.out;omega);intro v1 w3 l hb3 m hat3;have o:=QA l;have HI3:=QA (HI2.out.grown d.out ⟨by decide,by decide⟩ m);have p:=QA (h.out.then hb3 HW.out);clear l hb3 m hat3))
   go_roundw
   case rel=>exact⟨_,j+1,iv+1,rfl,hlt,rfl,⟨by have:=HJ.out;omega⟩,⟨by rw[Qqk,← HX.out];exact o.out⟩,⟨by rw[show((i+8*(j+1):Nat):Int)=((i+8*j:Nat):Int)+8 by omega];exact HI3.out⟩,p⟩
   case measure=>have:=HJ.out;simp[intOf];omega
  ·obtain rfl:j=n:=by omega
   have e1:iv=N:=HJ.out.trans HNN.out.symm;subst e1;have hC:=(Kd.R_reads' HR.out).2;have HC:=QA hC;clear hC
   cases s with
   | true =>
    go_wp2_with (go_at_call 223;refine(Qby.calls k Ao co (Qqj bs i j) true _ HC.out.2 HC.out.1 HS.out).mono ?_;rintro ee w4 ⟨rfl,hd⟩)
    go_ret
    have hb4:=hd.below;exact⟨HIr.out.kept hb4,HBr.out.trans (Bw.below hb4 hbr),_,rfl,Kd.R_below HR.out hb4⟩
   | false =>
    go_wp2_with (first
     |(go_at_call 223;refine(Qby.calls k Ao co (Qqj bs i j) false _ HC.out.2 HC.out.1 HS.out).mono ?_;rintro ee w4 ⟨rfl,hd⟩;have hb4:=hd.below;have HI4:=QA (HIr.out.kept hb4);have r:=QA (HBr.out.trans (Bw.below hb4 hbr));clear hb4)
     |(go_at_call 174;refine(Qls b g bs _ 8 (by decide) _ HI4.out).mono ?_;rintro ee w5 ⟨rfl,rfl⟩))
    exact⟨rfl,HI4.out,r.out,rfl⟩
theorem RE.cur{W W':World}{b g b':Nat}{v:Value}{xs:List Ent}{bs:List Int}{i:Int}(h:RE W b' v xs)(hI:IsCur W b g bs i)(hT:Bw b g W W'):RE W' b' v xs:=by
 obtain⟨u,hu,_⟩:=hI;refine Kd.R_mono (Kd.R_step (Kd.R_bound h) (fun k hk _=>?_)) (fun _ _=>trivial);obtain⟨q,hq,cells,hc⟩:=hk.2.2.2;have ht:∀q,q∈129 :: (k129).E→q=129:=by decide
 obtain rfl:=ht q hq;rw[hc];exact hT.2 k cells _ hc (by decide) (Qde hc hu (by decide))
theorem RE.cap(w:World)(N:Nat)(cs:Array Value)(hs:cs.size=N*2)(hm:N≤maxLen):RE (w.alloc (.cells cs 129)) w.heap.size (.slice (some ⟨w.heap.size,0,none⟩) 0 N) []:=by
 refine⟨fun _ _=>trivial,[],⟨rfl,.inr ⟨w.heap.size,N,cs,rfl,Nat.le_refl _,?_,Nat.zero_le _,hm,hs,by simp⟩⟩,Reps.none _ _⟩;exact Qdp w _
def Qqo(bs:List Int)(i:Nat)(n:Nat):List Ent:=(List.range n).map (fun j=>(⟨CodecP.leI ((bs.drop (i+12*j)).take 8),CodecP.leI ((bs.drop (i+12*j+8)).take 4)⟩:Ent))
theorem Qqp(bs:List Int)(i n:Nat):Qqo bs i (n+1)=Qqo bs i n++[(⟨CodecP.leI ((bs.drop (i+12*n)).take 8),CodecP.leI ((bs.drop (i+12*n+8)).take 4)⟩:Ent)]:=by simp[Qqo,List.range_succ]
theorem Qqq(bs:List Int)(i n:Nat):(Qqo bs i n).length=n:=by simp[Qqo]
theorem Qqr(b g:Nat)(bs:List Int)(i n:Int)(hi:0≤i∧i≤bs.length)(hl:bs.length≤140737488355328)(hn:0≤n)(hs:((bs.length:Int)-i)/12<n)(w:World)(hbw:b≤w.heap.size)(hI:IsCur w b g bs i) :
  Calls Tryz.prog 180 #[.pointer (some ⟨g,0,none⟩),.int .i64 n] w (Qol b g bs i 2 w):=by
 have HI:=QA hI;have hm:(if 0<n then n else 0)=n:=by split<;>omega
 have hq:((bs.length:Int)-i).tdiv 12=((bs.length:Int)-i)/12:=Int.tdiv_eq_ediv_of_nonneg (by omega);obtain⟨q,hqq⟩:∃q,q=((bs.length:Int)-i)/12:=⟨_,rfl⟩;rw[← hqq]at hq hs;have hb1:decide (q<n)=true:=decide_eq_true hs;have hw:IntKind.i64.wrap q=q:=IntWalk.i64_in _ (by omega);clear hI hqq
 go_enter Tryz.func180,Tryz.ntmps180
 go_wp2_with (first
  |(go_at_call 222;refine(Qoq b g bs i hi hl _ HI.out).mono ?_;rintro ee w1 ⟨rfl,hb1⟩;have HI1:=QA (HI.out.kept hb1))
  |(go_at_call 174;refine(Qls b g bs i 2 (by decide) _ HI1.out).mono ?_;rintro ee w2 ⟨rfl,rfl⟩))
 all_goals exact⟨rfl,rfl,HI1.out,Bw.below hb1 hbw⟩
theorem Qqs(k b g:Nat)(bs:List Int)(i n:Nat)(N:Int)(hN:N=(n:Int))(s:Bool)(hb:CodecP.Bytes bs)(hl:bs.length≤100000000000)(hn:i+12*n≤bs.length)(hs:Qcb.f k (Qqo bs i n)=some s)(hbg:b≤g)(w:World)(hbw:b≤w.heap.size)(hI:IsCur w b g bs i) :
  Calls Tryz.prog 180 #[.pointer (some ⟨g,0,none⟩),.int .i64 N] w fun e w'=>IsCur w' b g bs ((i+12*n:Nat):Int)∧Bw b g w w'∧((s=true∧∃v,e=.returned v∧RE w' w.heap.size v (Qqo bs i n))∨(s=false∧e=.panicked [Qlq g 8])):=by
 have HI:=QA hI;have HW:=QA hbw;have HB:=QA hb;have HS:=QA hs;have HN:=QA hn;have hm:(if 0<N then N else 0)=N:=by split<;>omega
 obtain⟨q,hqq⟩:∃q,q=((bs.length:Int)-(i:Int))/12:=⟨_,rfl⟩;have hq:((bs.length:Int)-(i:Int)).tdiv 12=q:=by rw[hqq];exact Int.tdiv_eq_ediv_of_nonneg (by omega)
 have hb1:decide (q<N)=false:=decide_eq_false (by omega);have hmn:(if q<N then q else N)=N:=if_neg (by omega);have hw:IntKind.i64.wrap q=q:=IntWalk.i64_in _ (by omega);have A:(n:Int)≤140737488355328:=by omega
 have hl2:bs.length≤140737488355328:=by omega
 obtain⟨i0,hii,hzz⟩:=Option.map_eq_some_iff.1 Qlz;simp only[Prod.mk.injEq]at hzz;have hrun:=fun W=>run_make (P:=Tryz.prog) W 120 129 i0 (.agg #[.int .u64 0,.int .u32 0]) Tryz.underlying120 hii hzz.1 .i64 .i64 0 N (by omega) (by omega) (by rw[hzz.2.2];omega) (by omega)
 have hNt:N.toNat=n:=by omega
 rw[hzz.2.1,hNt]at hrun;simp only[show(Value.agg #[.int .u64 0,.int .u32 0]).cells=#[.int .u64 0,.int .u32 0] from rfl]at hrun;have HNN:=QA hN;have HL:=QA hl;clear hN hI hqq hbw hb hs hn hzz hii hNt hl
 go_enter Tryz.func180,Tryz.ntmps180
 go_wp2_with (first
  |(go_at_call 222;refine(Qoq b g bs i qq_16 hl2 _ HI1.out).mono ?_;rintro ee w2 ⟨rfl,hb2⟩;have HI2:=QA (HI1.out.kept hb2);have a:=QA (c.out.trans (Qis hb2 c.out.size));clear hb2)
  |(go_at_call 222;refine(Qoq b g bs i qq_16 hl2 _ HI.out).mono ?_;rintro ee w1 ⟨rfl,hb1⟩;have HI1:=QA (HI.out.kept hb1);have c:=QA hb1;clear hb1))
 obtain⟨W0,hW0⟩:∃W0,W0=w2.alloc (.cells (madeCells #[.int .u64 0,.int .u32 0] (n*2)) 129):=⟨_,rfl⟩;have l:=QA (show RE W0 w2.heap.size (.slice (some ⟨w2.heap.size,0,none⟩) 0 n) []by rw[hW0];exact RE.cap w2 n _ (by simp[madeCells]) (by unfold maxLen;omega));have hB0:Below w2.heap.size w2 W0:=by rw[hW0];exact Qce (Below.refl _ _) _
 have HI0:=QA (HI2.out.kept hB0);have m:=QA (a.out.trans (Qis hB0 a.out.size));have HRL:=QA (Kd.R_lower l.out a.out.size)
 first|rw[← hW0]|trace_state
 clear hW0 hrun hB0 HI1 HI2 c a HI l
 go_loopw [5,22] (fun v5 d wr=>∃(vo:Value) (j:Nat) (iv:Int),vo=v5∧j≤n∧d=.int .i64 iv∧Aside0 (iv=(j:Int))∧Aside0 (RE wr w.heap.size vo (Qqo bs i j))∧Aside0 (IsCur wr b g bs ((i+12*j:Nat):Int))∧Aside0 (Bw b g w wr))
  (fun _ d _=>n-(intOf d).toNat)
 case atStart=>exact⟨_,0,0,rfl,Nat.zero_le _,rfl,⟨rfl⟩,⟨HRL.out⟩,⟨by simpa using HI0.out⟩,⟨Bw.below m.out HW.out⟩⟩
 case round =>
  obtain⟨vo,j,iv,rfl,hj,rfl,HJ,HR,HIr,HBr⟩:=hrel;clear HI0 m HRL;have hbr:b≤wr.heap.size:=Nat.le_trans HW.out HBr.out.size;obtain⟨Ao,co,hvo⟩:=Kd.R_slice HR.out;subst hvo
  by_cases hlt:j<n
  ·have hlt2:iv<N:=by have:=HJ.out;have:=HNN.out;omega
   have hge:0≤iv:=by have:=HJ.out;omega
   have hwi:IntKind.i64.wrap (iv+1)=iv+1:=IntWalk.i64_in _ (by have:=HNN.out;omega);obtain⟨x,hx⟩:∃x,x=CodecP.leI ((bs.drop (i+12*j)).take 8):=⟨_,rfl⟩;have HX:=QA hx;clear hx;obtain⟨y,hy⟩:∃y,y=CodecP.leI ((bs.drop (i+12*j+8)).take 4):=⟨_,rfl⟩;have HY:=QA hy;clear hy
   go_wp2_with (first
    |(go_at_call 171;refine(Qqf b g bs ((i+12*j:Nat):Int) x (by rw[Int.toNat_natCast];exact HX.out) HB.out (Int.natCast_nonneg _) hl2 qq_16 hbg _ hbr HIr.out).mono ?_;rintro ee w2 ⟨rfl,hI2,hB2⟩;have z:=QA (RE.cur HR.out HIr.out hB2);have HI2:=QA (show IsCur w2 b g bs ((i+12*j+8:Nat):Int)by(rw[show((i+12*j+8:Nat):Int)=((i+12*j:Nat):Int)+8 by omega];exact hI2));have a:=QA (HBr.out.trans hB2);clear hI2 hB2)
    |(go_at_call 179;refine(Qqh b g bs ((i+12*j+8:Nat):Int) y (by rw[Int.toNat_natCast];exact HY.out) HB.out (Int.natCast_nonneg _) hl2 qq_16 hbg _ (Nat.le_trans HW.out a.out.size) HI2.out).mono ?_;rintro ee w3 ⟨rfl,hI3,hB3⟩;have o:=QA (RE.cur z.out HI2.out hB3);have HI3:=QA hI3;have p:=QA (a.out.trans hB3);clear hI3 hB3)
    |(at_builtin;refine Kd.R_append k129 (w0:=w3) w.heap.size rfl (.tmp 24) (.tmp 30) 120 129 (.agg #[.int .u64 0,.int .u32 0]) 16 rfl Tryz.underlying120 Qlz rfl (by decide) (by omega) (.slice Ao (Qqo bs i j).length co) (Qqo bs i j) (⟨x,y⟩:Ent) [.int .u64 x,.int .u32 y] (fun _=>True) (fun _=>False) rfl ?ax ?aP (fun _ hk=>hk.elim) ?aF ?aO ?aB ?aS ?aL ?_;(case ax=>rfl);(case aP=>exact Qik _ _ _ (⟨x,y⟩:Ent));(case aF=>exact fun _ _=>trivial);(case aO=>exact o.out);(case aB=>exact Below.refl _ _);(case aS=>exact p.out.size);(case aL=>rw[Qqq];have:=HN.out;have:=HL.out;omega);intro v1 w4 r hb4 t hat4;have u:=QA r;have HI4:=QA (HI3.out.grown o.out ⟨by decide,by decide⟩ t);have h:=QA (p.out.then hb4 HW.out);clear r hb4 t hat4))
   go_roundw
   case rel=>exact⟨_,j+1,iv+1,rfl,hlt,rfl,⟨by have:=HJ.out;omega⟩,⟨by rw[Qqp,← HX.out,← HY.out];exact u.out⟩,⟨by rw[show((i+12*(j+1):Nat):Int)=((i+12*j+8:Nat):Int)+4 by omega];exact HI4.out⟩,h⟩
   case measure=>have:=HJ.out;simp[intOf];omega
  ·obtain rfl:j=n:=by omega
   have e1:iv=N:=HJ.out.trans HNN.out.symm;subst e1;have hC:=(Kd.R_reads' HR.out).2;have HC:=QA hC;clear hC
   cases s with
   | true =>
    go_wp2_with (go_at_call 160;refine(Qcb.calls k Ao co (Qqo bs i j) true _ HC.out.2 HC.out.1 HS.out).mono ?_;rintro ee w4 ⟨rfl,hb4⟩)
    go_ret
    exact⟨HIr.out.kept hb4,HBr.out.trans (Bw.below hb4 hbr),_,rfl,Kd.R_below HR.out hb4⟩
   | false =>
    go_wp2_with (first
     |(go_at_call 160;refine(Qcb.calls k Ao co (Qqo bs i j) false _ HC.out.2 HC.out.1 HS.out).mono ?_;rintro ee w4 ⟨rfl,hb4⟩;have HI4:=QA (HIr.out.kept hb4);have h:=QA (HBr.out.trans (Bw.below hb4 hbr));clear hb4)
     |(go_at_call 174;refine(Qls b g bs _ 8 (by decide) _ HI4.out).mono ?_;rintro ee w5 ⟨rfl,rfl⟩))
    exact⟨rfl,HI4.out,h.out,rfl⟩
end Go.Proofs.YteaocbonofboeaaGreat.C
end
