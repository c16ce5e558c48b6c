/- Merged texts. -/
import Derived.Test.YteaocbonofboeaaGreatMC02
import Derived.WalkLawsBesides
import Derived.Recover
import Derived.Test.YteaocbonofboeaaGreatMC14
import Derived.Test.YteaocbonofboeaaGreatMC07
import Derived.Test.YteaocbonofboeaaGreatMC09
import Derived.Test.YteaocbonofboeaaGreatMC05
import Derived.Test.YteaocbonofboeaaGreatMC16
import Derived.Test.YteaocbonofboeaaGreatMC10
import Derived.Test.YteaocbonofboeaaGreatMC13
import Derived.Test.YteaocbonofboeaaGreatMC17
import Derived.Test.YteaocbonofboeaaGreatMC08
import Derived.Test.YteaocbonofboeaaGreatMC03
import Derived.Test.YteaocbonofboeaaGreatMC06
import Derived.Test.YteaocbonofboeaaGreatMC12
set_option linter.unusedVariables false
set_option linter.unusedSimpArgs false
set_option maxHeartbeats 8000000
set_option maxRecDepth 100000
section
namespace Go.Proofs.YteaocbonofboeaaGreat.C
open Go.RowKit Go.Proofs.YteaocbonofboeaaGreatW.PrintWords Go.Proofs.YteaocbonofboeaaGreatW.PrintLast Go.Proofs.YteaocbonofboeaaGreatW.PrintMore
theorem Qoz(b g:Nat)(bs:List Int)(i x:Int)(hx:x=YteaocbonofboeaaGreatW.PrintWords.rd bs i)(hb:CodecP.Bytes bs)(hi:0≤i)(hl:bs.length≤140737488355328)(hs:i<(bs.length:Int))(hbg:b≤g)(w:World)(hbw:b≤w.heap.size)(hI:IsCur w b g bs i) :
  Calls Tryz.prog 173 #[.pointer (some ⟨g,0,none⟩)] w fun e w'=>e=.returned (.int .u8 x)∧IsCur w' b g bs (i+1)∧Bw b g w w':=by
 obtain⟨j,rfl⟩:=Int.eq_ofNat_of_zero_le hi;have hj:j<bs.length:=by omega
 have hr:=CodecP.rd_range hb hj;obtain⟨k,y,h1,h2⟩:=CodecP.byte_key (YteaocbonofboeaaGreatW.PrintWords.rd bs (j:Int)) hr;have h:=Qog k b g bs [YteaocbonofboeaaGreatW.PrintWords.rd bs (j:Int)] j y (by
  rw[CodecP.rd_get hj,show(j:Int).toNat=j from rfl,List.drop_eq_getElem_cons hj];rfl) hi hl (by omega) hbg h1 w hbw hI
 rw[h2,← hx]at h;exact h
def Qpa(bs:List Int):Nat→Int→Int→Int→Except (Int × Int) (Int × Int)
 | 0,_,i,x=>.ok (x,i)
 | f+1,j,i,x =>
  if i<(bs.length:Int)then
   if j=9∧1<YteaocbonofboeaaGreatW.PrintWords.rd bs i then .error (3,i+1)
   else if 128≤YteaocbonofboeaaGreatW.PrintWords.rd bs i then Qpa bs f (j+1) (i+1) (Go.bits .or .u64 x (shl .u64 (IntKind.u64.wrap (Go.bits .andNot .u8 (YteaocbonofboeaaGreatW.PrintWords.rd bs i) 128)) (7*j)))
   else if YteaocbonofboeaaGreatW.PrintWords.rd bs i=0∧0<j then .error (4,i+1)
   else .ok (Go.bits .or .u64 x (shl .u64 (IntKind.u64.wrap (Go.bits .andNot .u8 (YteaocbonofboeaaGreatW.PrintWords.rd bs i) 128)) (7*j)),i+1)
  else .error (2,i)
def Ends(b g:Nat)(bs:List Int)(w:World)(r:Except (Int × Int) (Value × Int))(e:Ending)(w':World):Prop :=
 match r with
 | .ok (v,i)=>e=.returned v∧IsCur w' b g bs i∧Bw b g w w'
 | .error (er,i)=>Qoe b g bs i er w e w'
theorem Qpb (b g:Nat) (bs:List Int) (i:Int) (hb:CodecP.Bytes bs) (hi:0≤i∧i≤(bs.length:Int)) (hl:bs.length≤140737488355328) (hbg:b≤g) (w:World) (hbw:b≤w.heap.size) (hI:IsCur w b g bs i) (R:Except (Int × Int) (Value × Int)) (hR:(Qpa bs 10 0 i 0).map (fun p=>(Value.int .u64 p.1,p.2))=R) :
  Calls Tryz.prog 175 #[.pointer (some ⟨g,0,none⟩)] w (Ends b g bs w R):=by
 have HI:=QA hI;have HR:=QA hR;have HBY:=QA hb;have HW:=QA hbw;clear hI hR hb hbw
 go_enter Tryz.func175,Tryz.ntmps175
 go_wp2
 go_loopw [3,6] (fun v3 v6 wr=>∃(x j i2:Int) (f:Nat),v3=.int .u64 x∧v6=.int .i64 j∧Aside0 (0≤j∧j+(f:Int)=10)∧Aside0 (0≤i2∧i2≤(bs.length:Int))∧Aside0 ((Qpa bs f j i2 x).map (fun p=>(Value.int .u64 p.1,p.2))=R)∧Aside0 (IsCur wr b g bs i2)∧Aside0 (Bw b g w wr))
  (fun _ v6 _=>10-(intOf v6).toNat)
 case atStart=>exact⟨0,0,i,10,rfl,rfl,⟨by omega⟩,⟨hi⟩,HR,HI,⟨Bw.refl _ _ _⟩⟩
 case round =>
  obtain⟨x,j,i2,f,rfl,rfl,HJ,HI2,HV,HIr,HBr⟩:=hrel;have hbr:b≤wr.heap.size:=Nat.le_trans HW.out HBr.out.size
  cases f with
  | zero =>
   have hj:j=10:=by have:=HJ.out;omega
   subst hj;have hv:=HV.out;simp only[Qpa,Except.map]at hv;subst hv;go_wp2;go_ret
   exact⟨rfl,HIr.out,HBr.out⟩
  | succ f =>
   have hv:=HV.out;clear HV;have hj1:decide (j<10)=true:=decide_eq_true (by have:=HJ.out;omega);simp only[Qpa]at hv
   by_cases hlt:i2<(bs.length:Int)
   ·rw [if_pos hlt]at hv;obtain⟨y,hy⟩:∃y,y=YteaocbonofboeaaGreatW.PrintWords.rd bs i2:=⟨_,rfl⟩;rw[← hy]at hv;have HY:=QA hy;have HLT:=QA hlt;have hw7:IntKind.i64.wrap (7*j)=7*j:=IntWalk.i64_in _ (by have:=HJ.out;omega);have hwj:IntKind.i64.wrap (j+1)=j+1:=IntWalk.i64_in _ (by have:=HJ.out;omega);obtain⟨s7,hs7⟩:∃s7:Int,7*j=s7:=⟨_,rfl⟩;have hw7':IntKind.i64.wrap (7*j)=s7:=hw7.trans hs7;have hs70:0≤s7:=by have:=HJ.out;omega
    rw[hs7]at hv;obtain⟨z,hz⟩:∃z:Int,Go.bits .andNot .u8 y 128=z:=⟨_,rfl⟩;rw[hz]at hv;obtain⟨j8,hj8⟩:∃j8:Int,(shl .u64 (IntKind.u64.wrap z) s7)=j8:=⟨_,rfl⟩;rw[hj8]at hv;have hj8_:(IntKind.u64.wrap ((IntKind.u64.wrap z)*2^min s7.toNat 64))=j8:=hj8;have hj8z:s7≤64→(IntKind.u64.wrap ((IntKind.u64.wrap z)*2^s7.toNat))=j8:=Qih hj8;have HS7:=QA hs7;clear hy hlt hw7 hs7 hj8;have hi20:=HI2.out.1
    by_cases h9:j=9∧1<y
    ·rw[if_pos h9]at hv;simp only[Except.map]at hv;subst hv;have m:(j == 9)=true:=by rw[h9.1];rfl
     have n:decide (1<y)=true:=decide_eq_true h9.2;clear h9
     go_wp2_with (first
      |(go_at_call 173;refine(Qoz b g bs i2 y HY.out HBY.out HI2.out.1 hl HLT.out hbg _ hbr HIr.out).mono ?_;rintro ee w1 ⟨rfl,hI1,hB1⟩)
      |(go_at_call 174;refine(Qnx b g bs (i2+1) 3 (by decide) _ hI1).mono ?_;rintro ee w2 ⟨rfl,rfl⟩))
     exact⟨rfl,rfl,hI1,HBr.out.trans hB1⟩
    ·rw [if_neg h9]at hv
     by_cases e9:j=9
     ·have m:(j == 9)=true:=by rw[e9];rfl
      have n:decide (1<y)=false:=decide_eq_false (fun h=>h9 ⟨e9,h⟩);clear h9 e9
      by_cases a:128≤y
      ·rw[if_pos a]at hv;have k:decide (128≤y)=true:=decide_eq_true a;have HV:=QA hv;clear hv a
       go_wp2_with (go_at_call 173;refine(Qoz b g bs i2 y HY.out HBY.out HI2.out.1 hl HLT.out hbg _ hbr HIr.out).mono ?_;rintro ee w1 ⟨rfl,hI1,hB1⟩)
       go_roundw
       case rel=>exact⟨_,j+1,i2+1,f,rfl,rfl,⟨by have:=HJ.out;omega⟩,⟨by have:=HI2.out;have:=HLT.out;omega⟩,HV,⟨hI1⟩,⟨HBr.out.trans hB1⟩⟩
       case measure=>have:=HJ.out;simp[intOf];omega
      ·rw[if_neg a]at hv;have k:decide (128≤y)=false:=decide_eq_false a;clear a
       by_cases c:y=0∧0<j
       ·rw[if_pos c]at hv;simp only[Except.map]at hv;subst hv;have d:(y == 0)=true:=by rw[c.1];rfl
        have l:decide (0<j)=true:=decide_eq_true c.2;clear c
        go_wp2_with (first
         |(go_at_call 173;refine(Qoz b g bs i2 y HY.out HBY.out HI2.out.1 hl HLT.out hbg _ hbr HIr.out).mono ?_;rintro ee w1 ⟨rfl,hI1,hB1⟩)
         |(go_at_call 174;refine(Qnx b g bs (i2+1) 4 (by decide) _ hI1).mono ?_;rintro ee w2 ⟨rfl,rfl⟩))
        exact⟨rfl,rfl,hI1,HBr.out.trans hB1⟩
       ·rw[if_neg c]at hv;simp only[Except.map]at hv;subst hv
        by_cases hyz:y=0
        ·have d:(y == 0)=true:=by rw[hyz];rfl
         have l:decide (0<j)=false:=decide_eq_false (fun h=>c ⟨hyz,h⟩);clear c hyz
         go_wp2_with (go_at_call 173;refine(Qoz b g bs i2 y HY.out HBY.out HI2.out.1 hl HLT.out hbg _ hbr HIr.out).mono ?_;rintro ee w1 ⟨rfl,hI1,hB1⟩)
         go_ret
         exact⟨rfl,hI1,HBr.out.trans hB1⟩
        ·have d:(y == 0)=false:=beq_eq_false_iff_ne.2 hyz;clear c hyz
         go_wp2_with (go_at_call 173;refine(Qoz b g bs i2 y HY.out HBY.out HI2.out.1 hl HLT.out hbg _ hbr HIr.out).mono ?_;rintro ee w1 ⟨rfl,hI1,hB1⟩)
         go_ret
         exact⟨rfl,hI1,HBr.out.trans hB1⟩
     ·have m:(j == 9)=false:=beq_eq_false_iff_ne.2 e9;clear h9 e9
      by_cases a:128≤y
      ·rw[if_pos a]at hv;have k:decide (128≤y)=true:=decide_eq_true a;have HV:=QA hv;clear hv a
       go_wp2_with (go_at_call 173;refine(Qoz b g bs i2 y HY.out HBY.out HI2.out.1 hl HLT.out hbg _ hbr HIr.out).mono ?_;rintro ee w1 ⟨rfl,hI1,hB1⟩)
       go_roundw
       case rel=>exact⟨_,j+1,i2+1,f,rfl,rfl,⟨by have:=HJ.out;omega⟩,⟨by have:=HI2.out;have:=HLT.out;omega⟩,HV,⟨hI1⟩,⟨HBr.out.trans hB1⟩⟩
       case measure=>have:=HJ.out;simp[intOf];omega
      ·rw[if_neg a]at hv;have k:decide (128≤y)=false:=decide_eq_false a;clear a
       by_cases c:y=0∧0<j
       ·rw[if_pos c]at hv;simp only[Except.map]at hv;subst hv;have d:(y == 0)=true:=by rw[c.1];rfl
        have l:decide (0<j)=true:=decide_eq_true c.2;clear c
        go_wp2_with (first
         |(go_at_call 173;refine(Qoz b g bs i2 y HY.out HBY.out HI2.out.1 hl HLT.out hbg _ hbr HIr.out).mono ?_;rintro ee w1 ⟨rfl,hI1,hB1⟩)
         |(go_at_call 174;refine(Qnx b g bs (i2+1) 4 (by decide) _ hI1).mono ?_;rintro ee w2 ⟨rfl,rfl⟩))
        exact⟨rfl,rfl,hI1,HBr.out.trans hB1⟩
       ·rw[if_neg c]at hv;simp only[Except.map]at hv;subst hv
        by_cases hyz:y=0
        ·have d:(y == 0)=true:=by rw[hyz];rfl
         have l:decide (0<j)=false:=decide_eq_false (fun h=>c ⟨hyz,h⟩);clear c hyz
         go_wp2_with (go_at_call 173;refine(Qoz b g bs i2 y HY.out HBY.out HI2.out.1 hl HLT.out hbg _ hbr HIr.out).mono ?_;rintro ee w1 ⟨rfl,hI1,hB1⟩)
         go_ret
         exact⟨rfl,hI1,HBr.out.trans hB1⟩
        ·have d:(y == 0)=false:=beq_eq_false_iff_ne.2 hyz;clear c hyz
         go_wp2_with (go_at_call 173;refine(Qoz b g bs i2 y HY.out HBY.out HI2.out.1 hl HLT.out hbg _ hbr HIr.out).mono ?_;rintro ee w1 ⟨rfl,hI1,hB1⟩)
         go_ret
         exact⟨rfl,hI1,HBr.out.trans hB1⟩
   ·rw[if_neg hlt]at hv;simp only[Except.map]at hv;subst hv
    go_wp2_with (go_at_call 173;refine(Qoh b g bs i2 HI2.out hl (by omega) _ hbr HIr.out).mono ?_;rintro ee w1 ⟨rfl,hI1,hB1⟩)
    exact⟨rfl,rfl,hI1,HBr.out.trans hB1⟩
abbrev Room5:=Int × Int × Int × Int × Int
def IsBd(W:World)(b g:Nat)(R:Room5)(fr:List Int)(tb:List S129):Prop :=
 ∃fv tv,W.heap[g]? = some (.cells #[.int .u8 R.1,.int .u32 R.2.1,.int .u32 R.2.2.1,.int .i64 R.2.2.2.1,.int .i64 R.2.2.2.2,fv,tv] 122 (0,0))∧R8 W b fv fr∧Kd.R k129 129 W b (fun _=>True) tv tb
theorem IsBd.kept{W W':World}{b g:Nat}{R:Room5}{fr:List Int}{tb:List S129}(h:IsBd W b g R fr tb)(hb:Below W.heap.size W W'):IsBd W' b g R fr tb:=by
 obtain⟨fv,tv,h1,h2,h3⟩:=h;exact⟨fv,tv,Qed h1 hb,h2.kept hb,Kd.R_below h3 hb⟩
theorem room5{W:World}{B:Nat}{e s n u c:Int}(h:W.heap[B]? = some (.cells #[.int .u8 e,.int .u32 s,.int .u32 n,.int .i64 u,.int .i64 c] 116 (0,0))) :
  W.cell? ⟨B,0,none⟩=some (.int .u8 e)∧W.cell? ⟨B,1,none⟩=some (.int .u32 s)∧W.cell? ⟨B,2,none⟩=some (.int .u32 n)∧W.cell? ⟨B,3,none⟩=some (.int .i64 u)∧W.cell? ⟨B,4,none⟩=some (.int .i64 c) :=
 ⟨(Qdo h 0).trans rfl,(Qdo h 1).trans rfl,(Qdo h 2).trans rfl,(Qdo h 3).trans rfl,(Qdo h 4).trans rfl⟩
theorem Qrt(e s n u c:Int)(hd:List Int)(w:World)(hp:Qbz.f e s n=some (e,s,n,u,c,0))(hh:Qbs.f e s n=some (hd,0)) :
  Calls Tryz.prog 17 #[.agg #[.int .u8 e,.int .u32 s],.int .u32 n] w fun ee w'=>∃g,ee=.returned (.tuple #[.pointer (some ⟨g,0,none⟩),.int .i64 0])∧IsBd w' w.heap.size g (e,s,n,u,c) hd []∧Below w.heap.size w w'∧w.heap.size≤g:=by
 have hu:=Tryz.underlying28;have hu2:=Tryz.underlying116;have hu3:=Tryz.underlying122;have HP:=QA hp;have HH:=QA hh;clear hp hh;have hba:Below w.heap.size w (w.alloc (.cells #[.int .u8 e,.int .u32 s] 28)):=Qcp (Below.refl _ _) _;have hbn:=Qee w (.cells #[.int .u8 e,.int .u32 s] 28)
 go_enter Tryz.func17,Tryz.ntmps17
 go_wp2_with (first
  |(go_at_call 56;refine(Qbz.calls e s n _ _ _ _ _ _ _ HP.out).mono ?_;rintro ee w1 ⟨rfl,hb1⟩;have hk1:=Qed hbn hb1;have hw1:=QA (Qcs hba hba.size hb1);have hs1:=QA (show w.heap.size<w1.heap.size from Qdn hk1);have hk1':=Qea hk1 (.cells #[.int .u8 e,.int .u32 s,.int .u32 n,.int .i64 u,.int .i64 c] 116);obtain⟨c0,c1⟩:=box2 hk1';clear hk1 hb1 hbn hba)
  |(go_at_call 57;refine(Qbs.calls e s n hd 0 _ HH.out).mono ?_;rintro ee w3 ⟨v3,rfl,hR3,hb3⟩;have hk3:=Qed (Qee w1 (.cells #[.int .u8 e,.int .u32 s,.int .u32 n,.int .i64 u,.int .i64 c] 116)) hb3;obtain⟨d0,d1,d2,d3,d4⟩:=room5 hk3;obtain⟨A3,n3,c3,rfl⟩:=R8.shape hR3))
 refine bodyPost_ret (results_tmp2 rfl _ _ _) rfl ?_;have hz1:=Nat.le_of_lt hs1.out;have hbr:Below w1.heap.size w1 (w1.alloc (.cells #[.int .u8 e,.int .u32 s,.int .u32 n,.int .i64 u,.int .i64 c] 116)):=Qcp (Below.refl _ _) _;have hz3:w.heap.size≤w3.heap.size:=Nat.le_trans (Nat.le_trans hz1 hbr.size) hb3.size;refine⟨w3.heap.size,rfl,⟨_,_,Qee w3 _,?_,Kd.R_nil _ _ _ _ _⟩,?_,hz3⟩
 ·exact R8.low (R8.kept hR3 (Qcp (Below.refl _ _) _)) (Nat.le_trans hz1 hbr.size)
 ·exact((hw1.out.trans (Qjl hbr hz1)).trans (Qjl hb3 (Nat.le_trans hz1 hbr.size))).trans (Qjl (Qcp (Below.refl w3.heap.size w3) _) hz3)
theorem Qru(b g:Nat)(R:Room5)(fr:List Int)(tb:List S129)(w:World)(hI:IsBd w b g R fr tb)(hl:fr.length≤140737488355328) :
  Calls Tryz.prog 22 #[.pointer (some ⟨g,0,none⟩)] w fun e w'=>∃v:Value,e=.returned v∧R8 w' w.heap.size v fr∧Below w.heap.size w w':=by
 obtain⟨fv,tv,hv,hR,hT⟩:=hI;obtain⟨A,n,c,rfl,hn,hlc,hC⟩:=R8.reads hR;have hc:w.cell? ⟨g,5,none⟩=some (.slice A n c):=(Qdo hv 5).trans rfl;have hcl:=hC.1;have hu3:=Tryz.underlying122;have hcall:Calls Tryz.prog 72 #[.slice A n c] w fun e w'=>∃v0_:Value,e=.returned (v0_)∧R8 w' w.heap.size v0_ fr∧Below w.heap.size w w':=by
  subst hcl;exact Qjm A c fr w hC hl
 clear hcl
 go_enter Tryz.func22,Tryz.ntmps22
 go_wp2_with (go_at_call 72;refine hcall.mono ?_;rintro e w' ⟨v1,rfl,hd,hb⟩)
 go_ret
 exact⟨_,rfl,hd,hb⟩
theorem Qrv(b0 b g:Nat)(R:Room5)(fr:List Int)(tb:List S129)(fs:List Int)(fsv:Value)(sz:Nat)(w:World)(hI:IsBd w b0 g R fr tb)(hF:R8 w b fsv fs)(hbw:b≤w.heap.size)(hsz:Qap.f R.1 R.2.1=some (sz:Int))(hle:fs.length≤sz)(hs2:sz≤70368744177664) :
  Calls Tryz.prog 63 #[.pointer (some ⟨g,0,none⟩),fsv] w fun e w'=>∃v:Value,e=.returned v∧R8 w' b v (fs++List.replicate (sz-fs.length) 255)∧Below b w w':=by
 obtain⟨fv,tv,hv,hR,hT⟩:=hI;obtain⟨A,n,c,rfl,hn,hlc,hC⟩:=R8.reads hF;have hnf:n=fs.length:=hn.out;have hc0:w.cell? ⟨g,0,none⟩=some (.int .u8 R.1):=(Qdo hv 0).trans rfl;have hc1:w.cell? ⟨g,1,none⟩=some (.int .u32 R.2.1):=(Qdo hv 1).trans rfl;have hu:=Tryz.underlying28;have hu2:=Tryz.underlying116;have hu3:=Tryz.underlying122;have hnsz:n≤sz:=by omega
 have hsub:IntKind.i64.wrap ((sz:Int)-(n:Int))=((sz-n:Nat):Int):=by rw[IntWalk.i64_in _ (by omega)];omega
 have hsub2:(sz:Int)-(n:Int)=((sz-n:Nat):Int):=by omega
 obtain⟨k,hk⟩:∃k,k=sz-n:=⟨_,rfl⟩;rw[← hk]at hsub hsub2;have HK:=QA hk;have HSZ:=QA hsz;have HF:=QA hF;have HNF:=QA hnf;clear hk hsz hF hnf
 go_enter Tryz.func63,Tryz.ntmps63
 go_wp2_with (first
  |(go_at_call 66;refine(Qap.calls _ _ _ _ HSZ.out).mono ?_;rintro e w1 ⟨rfl,hb1⟩)
  |(go_at_call 108;go_loud (refine(Qrs _ _ 255 k _ (by have:=HK.out;omega) ?hrep).mono ?_;(case hrep=>exact Kd.C_of_reads (d:=(0:Int)) ⟨rfl,by omega,fun _=>⟨_,rfl,fun j hj=>by(obtain rfl:j=0:=(by omega));exact(Qdo (Qee w1 _) 0).trans rfl⟩⟩);rintro e w2 ⟨A2,c2,rfl,hkc2,hC2,hb2⟩))
  |(at_builtin;refine Kd.R_append_rows (Kd.int .u8) (Rr:=fun x cs=>cs=[.int .u8 x]) (w0:=w) b rfl (.tmp 15) (.tmp 18) 40 5 (.int .u8 0) 1 rfl Tryz.underlying40 Qim rfl (by decide) (by omega) (.slice A n c) fs (List.replicate k 255) A2 k c2 (fun _=>True) (fun _=>False) rfl rfl ?bO hC2 (fun _ _ h=>h) (fun _ hk=>hk.elim) (fun _ _=>trivial) ?bB ?bS ?bL ?_;(case bO=>exact R8.kept (R8.kept (R8.kept HF.out hb1) (Qcp (Below.refl _ _) _)) hb2);(case bB=>exact((Qjl hb1 hbw).trans (Qjl (Qcp (Below.refl w1.heap.size w1) _) (Nat.le_trans hbw hb1.size))).trans (Qjl hb2 (by rw[World.size_alloc];have:=hb1.size;omega)););(case bS=>have h1:=hb1.size;have h2:=hb2.size;rw[World.size_alloc]at h2;omega);(case bL=>have:=HK.out;have:=HNF.out;omega);intro v3 w3 a hb3 l hat3))
 go_ret
 refine⟨v3,rfl,?_,hb3⟩;have e1:k=sz-fs.length:=by rw[HK.out,HNF.out]
 rw[← e1];exact a
theorem Qrw(b g:Nat)(R:Room5)(fr:List Int)(tb:List S129)(sz:Nat)(w:World)(hI:IsBd w b g R fr tb)(hsz:Qap.f R.1 R.2.1=some (sz:Int))(hle:fr.length≤sz)(hs2:sz≤70368744177664) :
  Calls Tryz.prog 19 #[.pointer (some ⟨g,0,none⟩)] w fun e w'=>∃v:Value,e=.returned v∧R8 w' w.heap.size v (fr++List.replicate (sz-fr.length) 255)∧Below w.heap.size w w':=by
 go_enter Tryz.func19,Tryz.ntmps19
 go_wp2_with (first
  |(go_at_call 22;refine(Qru b g R fr tb w hI (by omega)).mono ?_;rintro e w1 ⟨v1,rfl,hR1,hb1⟩)
  |(go_at_call 63;refine(Qrv b w.heap.size g R fr tb fr v1 sz w1 (hI.kept hb1) hR1 hb1.size hsz hle hs2).mono ?_;rintro e w2 ⟨v2,rfl,hR2,hb2⟩))
 go_ret
 exact⟨v2,rfl,hR2,hb1.trans hb2⟩
def Qrx(W:World)(g:Nat)(R:Room5)(fv tv:Value):Prop:=W.heap[g]? = some (.cells #[.int .u8 R.1,.int .u32 R.2.1,.int .u32 R.2.2.1,.int .i64 R.2.2.2.1,.int .i64 R.2.2.2.2,fv,tv] 122 (0,0))
theorem Qry{W:World}{g:Nat}{R:Room5}{fv tv:Value}(h:Qrx W g R fv tv) :
  W.cell? ⟨g,0,none⟩=some (.int .u8 R.1)∧W.cell? ⟨g,1,none⟩=some (.int .u32 R.2.1)∧W.cell? ⟨g,2,none⟩=some (.int .u32 R.2.2.1)∧W.cell? ⟨g,3,none⟩=some (.int .i64 R.2.2.2.1)∧W.cell? ⟨g,4,none⟩=some (.int .i64 R.2.2.2.2)∧W.cell? ⟨g,5,none⟩=some fv∧W.cell? ⟨g,6,none⟩=some tv :=
 ⟨(Qdo h 0).trans rfl,(Qdo h 1).trans rfl,(Qdo h 2).trans rfl,(Qdo h 3).trans rfl,(Qdo h 4).trans rfl,(Qdo h 5).trans rfl,(Qdo h 6).trans rfl⟩
theorem Qrz:(Tryz.prog.info? 129).map (fun i=>(i.zero,i.size,i.bytes))=some (some (.agg #[.int .u64 0,.int .u32 0]),2,16):=by kernel_rfl
theorem bd_set5{W:World}{b g:Nat}{R:Room5}(R':Room5){fv tv:Value}{fr:List Int}{tb:List S129}(hv:Qrx W g R fv tv)(hR:R8 W b fv fr)(hT:Kd.R k129 129 W b (fun _=>True) tv tb)(hbg:b≤g) :
  ∃W',W'=(((((W.setCell ⟨g,0,none⟩ (.int .u8 R'.1)).setCell ⟨g,1,none⟩ (.int .u32 R'.2.1)).setCell ⟨g,2,none⟩ (.int .u32 R'.2.2.1)).setCell ⟨g,3,none⟩ (.int .i64 R'.2.2.2.1)).setCell ⟨g,4,none⟩ (.int .i64 R'.2.2.2.2)) ∧
   Qrx W' g R' fv tv∧R8 W' b fv fr∧Kd.R k129 129 W' b (fun _=>True) tv tb∧Below b W W'∧∀k,k≠g→W'.heap[k]? = W.heap[k]?:=by
 have ht:∀q,q∈129 :: (k129).E→q≠122:=by decide
 have b1:=Qdl hv 0 (.int .u8 R'.1);have b2:=Qdl b1 1 (.int .u32 R'.2.1);have b3:=Qdl b2 2 (.int .u32 R'.2.2.1);have b4:=Qdl b3 3 (.int .i64 R'.2.2.2.1);have b5:=Qdl b4 4 (.int .i64 R'.2.2.2.2);refine⟨_,rfl,b5,?_,?_,?_,fun k hk=>?_⟩
 ·exact R8.set (R8.set (R8.set (R8.set (R8.set hR hv (by decide) 0 _) b1 (by decide) 1 _) b2 (by decide) 2 _) b3 (by decide) 3 _) b4 (by decide) 4 _
 ·exact Kd.R_set (Kd.R_set (Kd.R_set (Kd.R_set (Kd.R_set hT hv ht 0 _) b1 ht 1 _) b2 ht 2 _) b3 ht 3 _) b4 ht 4 _
 ·exact Qjk (Qjk (Qjk (Qjk (Qjk (Below.refl _ _) hbg) hbg) hbg) hbg) hbg
 ·rw[Below.heap_setCell _ _ _ k hk,Below.heap_setCell _ _ _ k hk,Below.heap_setCell _ _ _ k hk,Below.heap_setCell _ _ _ k hk,Below.heap_setCell _ _ _ k hk]
def Tb(g:Nat)(w w':World):Prop:=∀k cs t,w.heap[k]? = some (.cells cs t (0,0))→t≠5→t≠129→k≠g→w'.heap[k]? = some (.cells cs t (0,0))
theorem Tb.below{g:Nat}{w w':World}(h:Below w.heap.size w w'):Tb g w w':=fun _ _ _ h1 _ _ _=>Qed h1 h
theorem Tb.trans{g:Nat}{a b c:World}(h:Tb g a b)(k:Tb g b c):Tb g a c:=fun _ _ _ h1 h2 h3 h4=>k _ _ _ (h _ _ _ h1 h2 h3 h4) h2 h3 h4
theorem Tb.set{g j:Nat}{w W:World}(h:Tb g w W)(v:Value):Tb g w (W.setCell ⟨g,j,none⟩ v):=fun _ _ _ h1 h2 h3 h4=>Qdm (h _ _ _ h1 h2 h3 h4) h4 v
theorem Tb.grown{g q:Nat}{w W W':World}{row:Option Nat}(h:Tb g w W)(hg:W.grownBy W' row)(hty:∀k,row=some k→∃cells,W.heap[k]? = some (.cells cells q (0,0)))(hq:q=5∨q=129):Tb g w W':=fun k cs t h1 h2 h3 h4=>by
 have h5:=h _ _ _ h1 h2 h3 h4;refine Qdq h5 hg (fun e=>?_);obtain⟨cells,hc⟩:=hty k e.symm;rw[hc]at h5
 injection h5 with h5
 injection h5 with _ h5
 rcases hq with hq|hq
 ·exact h2 (h5.symm.trans hq)
 ·exact h3 (h5.symm.trans hq)
theorem bd_Add(b g:Nat)(R R':Room5)(fr F:List Int)(tb:List S129)(d:Bool)(s:Int)(key v:ByteArray)(w:World)(hI:IsBd w b g R fr tb)(hbg:b≤g)(hbw:b≤w.heap.size)
  (hchk:chk d key v=0) (hput:Qbt.f d s key v=some (F,0)) (htl:Qce.f R.1 R.2.1 F.length=some false) (htk:Qcd.f R.1 R.2.1 R.2.2.1 R.2.2.2.1 R.2.2.2.2 F.length=some (R'.1,R'.2.1,R'.2.2.1,R'.2.2.2.1,R'.2.2.2.2,0))
  (hl:fr.length+F.length≤70368744177664) (hk:key.size≤70368744177664) (ht:tb.length≤1099511627776) :
  Calls Tryz.prog 18 #[.pointer (some ⟨g,0,none⟩),.agg #[.bool d,.int .u64 s,.string key,.string v]] w fun e w'=>e=.returned (.tuple #[.int .u32 ((fr.length:Int)%4294967296),.int .i64 0])∧IsBd w' b g R' (fr++F) (tb++[⟨Qlz 0 (bytesOf key),(fr.length:Int)%4294967296⟩])∧Below b w w'∧Tb g w w':=by
 have hu:=Tryz.underlying37;have hu1:=Tryz.underlying28;have hu2:=Tryz.underlying116;have hu3:=Tryz.underlying122;obtain⟨fv,tv,hv,hR,hT⟩:=hI;obtain⟨AT,nT,cT,rfl⟩:∃A n c,tv=.slice A n c:=by
  obtain⟨A,c,e⟩:=Kd.R_slice hT;exact⟨A,_,c,e⟩
 obtain⟨A,n,c,rfl,hn,hlc,hC⟩:=R8.reads hR;have hv':Qrx w g R (.slice A n c) (.slice AT nT cT):=hv;have hgw:g<w.heap.size:=Qdn hv;have hcheck:=Qle d s key v;rw[hchk]at hcheck;have HCK:=QA hcheck;have HPU:=QA hput;have HTL:=QA htl;have HTK:=QA htk;have HR:=QA hR;have HT:=QA hT;have HV:=QA hv';have r:=hn;clear hcheck hput htl htk hchk hR hT hv hC hn hv';have hba:Below w.heap.size w (w.alloc (.cells #[.bool d,.int .u64 s,.string key,.string v] 37)):=Qcp (Below.refl _ _) _;have hbn:=Qee w (.cells #[.bool d,.int .u64 s,.string key,.string v] 37)
 go_enter Tryz.func18,Tryz.ntmps18
 go_upto_region 12 with(first
  |(go_at_call 58;refine(Qcg.calls 1 _ s key v 0 _ HCK.out).mono ?_;rintro e w1 ⟨rfl,hb1⟩;have hB1:=QA (Qcs hba hba.size hb1);have hk1:=Qed hbn hb1;obtain⟨c0,c1,c2,c3⟩:=box4 hk1)
  |(go_at_call 59;refine(Qbt.calls _ s key v F 0 _ HPU.out).mono ?_;rintro e w2 ⟨vF,rfl,hRF,hb2⟩;have hB2:=QA (Qcs hB1.out hB1.out.size hb2);have hk2:=Qed hk1 hb2;obtain⟨AF,nF,cF,rfl,hnF,hlF,hCF⟩:=R8.reads hRF;have hv2:Qrx w2 g R (.slice A n c) (.slice AT nT cT):=Qed HV.out hB2.out;obtain⟨g0,g1,g2,g3,g4,g5,g6⟩:=Qry hv2;clear c0 c1 c2 c3)
  |(go_at_call 60;refine(Qce.calls _ _ _ false _ (by rw[hnF.out];exact HTL.out)).mono ?_;rintro e w3 ⟨rfl,hb3⟩;have hB3:=QA (Qcs hB2.out hB2.out.size hb3);have hk3:=Qed hk2 hb3;have hv3:Qrx w3 g R (.slice A n c) (.slice AT nT cT):=Qed HV.out hB3.out;obtain⟨h0,h1,h2,h3,h4,h5,h6⟩:=Qry hv3;clear g0 g1 g2 g3 g4 g5 g6)
  |(go_at_call 61;refine(Qcd.calls _ _ _ _ _ _ _ _ _ _ _ _ _ (by rw[hnF.out];exact HTK.out)).mono ?_;rintro e w4 ⟨rfl,hb4⟩;have hB4:=QA (Qcs hB3.out hB3.out.size hb4);have hk4:=Qed hk3 hb4;have hv4:Qrx w4 g R (.slice A n c) (.slice AT nT cT):=Qed HV.out hB4.out;have hv5:Qrx (w4.alloc (.cells #[.int .u8 R'.1,.int .u32 R'.2.1,.int .u32 R'.2.2.1,.int .i64 R'.2.2.2.1,.int .i64 R'.2.2.2.2] 116)) g R (.slice A n c) (.slice AT nT cT):=Qea hv4 _;obtain⟨i0,i1,i2,i3,i4,i5,i6⟩:=Qry hv5;have f0:=Qdp hv5 0;have f1:=Qdp hv5 1;have f2:=Qdp hv5 2;have f3:=Qdp hv5 3;have f4:=Qdp hv5 4;have f5:=Qdp hv5 5;clear h0 h1 h2 h3 h4 h5 h6))
 have hv5:Qrx (w4.alloc (.cells #[.int .u8 R'.1,.int .u32 R'.2.1,.int .u32 R'.2.2.1,.int .i64 R'.2.2.2.1,.int .i64 R'.2.2.2.2] 116)) g R (.slice A n c) (.slice AT nT cT):=Qea hv4 _;have hb5:Below w4.heap.size w4 (w4.alloc (.cells #[.int .u8 R'.1,.int .u32 R'.2.1,.int .u32 R'.2.2.1,.int .i64 R'.2.2.2.1,.int .i64 R'.2.2.2.2] 116)):=Qcp (Below.refl _ _) _;have hB5:=Qcs hB4.out hB4.out.size hb5;obtain⟨W6,hW6,hv6,hR6,hT6,hb6,hk6⟩:=bd_set5 R' hv5 (R8.kept HR.out hB5) (Kd.R_below HT.out hB5) hbg;have K6:Aside0 (Tb g w W6):=⟨fun k cs t h1 _ _ h4=>(hk6 k h4).trans (Qed h1 hB5)⟩;rw[← hW6];have hs6:w4.heap.size≤W6.heap.size:=Nat.le_trans hb5.size hb6.size;clear hW6 i0 i1 i2 i3 i4 i5 i6 f0 f1 f2 f3 f4 f5;obtain⟨m0,m1,m2,m3,m4,m5,m6⟩:=Qry hv6;have D:g<w1.heap.size:=Nat.lt_of_lt_of_le hgw hB1.out.size;have hRF5:=R8.kept (R8.kept (R8.kept hRF hb3) hb4) hb5;have hRF6:R8 W6 w1.heap.size (.slice AF nF cF) F:=Kd.R_mono (Kd.R_step (Kd.R_bound hRF5) (fun k hk _=>hk6 k (by have:=hk.2.1;omega))) (fun _ _=>trivial);have hCF6:Kd.C (Kd.int .u8) W6 AF nF F:=by
  have h:=Kd.R_reads' hRF6;rw[h.1];exact h.2.2
 have hB6:=QA ((Qjl hB5 hbw).trans hb6);have hz6:b≤W6.heap.size:=Nat.le_trans hbw hB6.out.size;clear hRF5 hRF6 hRF
 go_wp2_with (first
  |(at_builtin;go_loud (refine Kd.R_append_rows (Kd.int .u8) (Rr:=fun x cs=>cs=[.int .u8 x]) (w0:=W6) b rfl (.tmp 57) (.tmp 58) 40 5 (.int .u8 0) 1 rfl Tryz.underlying40 Qim rfl (by decide) (by omega) (.slice A n c) fr F AF nF cF (fun _=>True) (fun _=>False) rfl rfl hR6 hCF6 (fun _ _ h=>h) (fun _ hk=>hk.elim) (fun _ _=>trivial) (Below.refl _ _) hz6 ?bL ?_;(case bL=>have:=hnF.out;omega);intro v7 w7 l hb7 j hat7;obtain⟨A7,n7,c7,rfl⟩:=R8.shape l;have hv7:Qrx w7 g R' (.slice A n c) (.slice AT nT cT):=Qdq hv6 j (R8.clean hR6 hv6 (by decide));obtain⟨p0,p1,p2,p3,p4,p5,p6⟩:=Qry hv7;have f5:=Qdp hv7 5;clear m0 m1 m2 m3 m4 m5 m6)))
 have K7:=QA (Tb.grown K6.out j (Kd.R_typed hR6) (.inl rfl));have hgB:w.heap.size≠g:=by omega
 have q5:=Qea hk4 (.cells #[.int .u8 R'.1,.int .u32 R'.2.1,.int .u32 R'.2.2.1,.int .i64 R'.2.2.2.1,.int .i64 R'.2.2.2.2] 116);have q6:=(hk6 _ hgB).trans q5;have q7:=Qdq q6 j (R8.clean hR6 q6 (by decide));have hT7:=Kd.R_over' hT6 (Kd.R_typed hR6) (by decide) j;have ht:∀q,q∈129 :: (k129).E→q≠122:=by decide
 obtain⟨W8,hW8⟩:∃W8,W8=w7.setCell ⟨g,5,none⟩ (.slice A7 n7 c7):=⟨_,rfl⟩;have q8:W8.heap[w.heap.size]? = some (.cells #[.bool d,.int .u64 s,.string key,.string v] 37 (0,0)):=by rw[hW8];exact Qdm q7 hgB _
 have hv8:Qrx W8 g R' (.slice A7 n7 c7) (.slice AT nT cT):=by rw[hW8];exact Qdl hv7 5 _
 have hR8:R8 W8 b (.slice A7 n7 c7) (fr++F):=by rw[hW8];exact R8.set l hv7 (by decide) 5 _
 have hT8:Kd.R k129 129 W8 b (fun _=>True) (.slice AT nT cT) tb:=by rw[hW8];exact Kd.R_set hT7 hv7 ht 5 _
 have hB8:Aside0 (Below b w W8):=⟨by rw[hW8];exact Qjk (hB6.out.trans hb7) hbg⟩;have K8:Aside0 (Tb g w W8):=⟨by rw[hW8];exact K7.out.set _⟩;rw[← hW8];clear hW8;have u:=QA hR8;have HT8:=QA hT8;clear hR8 hT8 hT7 hT6 hR6 l q5 q6 q7 hv7;obtain⟨r0,r1,r2,r3⟩:=box4 q8;obtain⟨s0,s1,s2,s3,s4,s5,s6⟩:=Qry hv8;have hz8:b≤W8.heap.size:=Nat.le_trans hbw hB8.out.size;clear p0 p1 p2 p3 p4 p5 p6;have hnn:n=fr.length:=r.out;have HNN:=QA hnn;clear hnn
 go_region_law (first
  |(go_simp;go_at_call 62;refine(hash_of key W8.drew (by omega)).mono ?_;rintro e w9 ⟨rfl,hb9⟩;have hv9:Qrx w9 g R' (.slice A7 n7 c7) (.slice AT nT cT):=Qed (w:=W8.drew) hv8 hb9;have hB9:Aside0 (Below b w w9):=⟨(hB8.out.trans (Qcq (Below.refl _ _))).trans (Qjl hb9 hz8)⟩;have K9:=QA (K8.out.trans (Tb.below (w:=W8.drew) hb9));have y:=QA (R8.kept (W:=W8.drew) u.out hb9);have HT9:=QA (Kd.R_below (w:=W8.drew) HT8.out hb9);obtain⟨u0,u1,u2,u3,u4,u5,u6⟩:=Qry hv9;have a6:∀o,(w9.alloc o).cell? ⟨g,6,none⟩=some (.slice AT nT cT):=(fun o=>(Qry (Qea hv9 o)).2.2.2.2.2.2))
  |(refine Kd.R_append_step k129 (w0:=w) b (by rfl) (.tmp 66) (.tmp 72) 120 129 (.agg #[(.int .u64 0),(.int .u32 0)]) 16 rfl Tryz.underlying120 Qrz rfl (by decide) (by omega) (.slice AT nT cT) tb (⟨Qlz 0 (bytesOf key),(n:Int)%4294967296⟩:S129) [.int .u64 (Qlz 0 (bytesOf key)),.int .u32 ((n:Int)%4294967296)] (fun _=>True) (fun _=>False) rfl ?ax ?aP (fun _ hk=>hk.elim) (fun _ _=>trivial) ?aO hB9.out ?aS ?aL ?_;(case ax=>rfl);(case aP=>exact Qix _ _ _ (⟨Qlz 0 (bytesOf key),(n:Int)%4294967296⟩:S129));(case aO=>exact HT9.out);(case aS=>exact Nat.le_trans hbw hB9.out.size);(case aL=>omega);intro z B m hb10 a hat10;obtain⟨G,I,c10,rfl⟩:∃A n c,z=.slice A n c:=(by obtain⟨A,c,e⟩:=Kd.R_slice m;exact⟨A,_,c,e⟩);have hv10:Qrx B g R' (.slice A7 n7 c7) (.slice AT nT cT):=Qdq hv9 a (Kd.R_ne HT9.out hv9 (by decide));have K10:=QA (Tb.grown K9.out a (Kd.R_typed HT9.out) (.inr rfl));have p:=QA (Kd.R_over' y.out (Kd.R_typed HT9.out) (by decide) a);obtain⟨x0,x1,x2,x3,x4,x5,x6⟩:=Qry hv10;have fx:=Qdp hv10 6;clear u0 u1 u2 u3 u4 u5 u6 a6))
 all_goals
  go_wp2;refine bodyPost_ret (results_tmp2 rfl _ _ _) rfl ?_;refine⟨by(rw[← HNN.out];rfl),⟨_,_,Qdl hv10 6 _,R8.set p.out hv10 (by decide) 6 _,?_⟩,Qjk hb10 hbg,K10.out.set _⟩;rw[← HNN.out];exact Kd.R_set m hv10 ht 6 _
theorem Quu{a b:List Int}(ha:CodecP.Bytes a)(hb:CodecP.Bytes b):(strOfNums a).toList=(strOfNums b).toList↔a=b:=by
 constructor
 ·intro h;have h2:strOfNums a=strOfNums b:=by
   rw[Lib.toList_data,Lib.toList_data]at h;have h3:=Array.toList_inj.1 h;generalize strOfNums a=x at h3 ⊢;generalize strOfNums b=y at h3 ⊢
   cases x
   cases y
   congr
  have:=congrArg bytesOf h2
  rwa [CodecP.bytesOf_nums ha,CodecP.bytesOf_nums hb]at this
 ·intro h;rw[h]
section
variable {w W W':World} {xb gb:Nat} {d:Bool} {g1:ByteArray} {g2 g3:Int}
end
def h12:List Int:=[5,1,2,12,1,9,239,228,35,222,95,189,149,23,0]
theorem head12:Qbs.f 12 1 0=some (h12,0):=by kernel_rfl
theorem empty12:Qbz.f 12 1 0=some (12,1,0,15,0,0):=by kernel_rfl
theorem size12:Qap.f 12 1=some ((4096:Nat):Int):=by kernel_rfl
def o12:List Int:=h12++List.replicate (4096-h12.length) 255
theorem o12_at:o12.length=4096∧rd o12 14=0∧rd o12 15=255∧rd o12 4095=255:=⟨by kernel_rfl,by kernel_rfl,by kernel_rfl,by kernel_rfl⟩
def Qat.f:Option Bool:=some true
theorem Qat.calls(r:Bool)(w:World)(h:Qat.f=some r) :
  Calls Tryz.prog 14 #[] w fun e w'=>e=.returned (.bool r)∧Below w.heap.size w w':=by
 obtain rfl:=Option.some.inj h;have hu:=Tryz.underlying28
 go_enter Tryz.func14,Tryz.ntmps14
 go_wp2_with (first
  |(go_at_call 17;refine(Qrt 12 1 0 15 0 h12 w empty12 head12).mono ?_;rintro e w1 ⟨g,rfl,hI1,hb1,hg1⟩)
  |(go_at_call 19;go_loud (refine(Qrw w.heap.size g (12,1,0,15,0) h12 [] 4096 w1 hI1 size12 (by decide) (by decide)).mono ?_;rintro e w2 ⟨v2,rfl,hR2,hb2⟩;obtain⟨A2,n2,c2,rfl,hn2,hlc2,hC2⟩:=R8.reads hR2;have hn2':n2=4096:=hn2.out.trans o12_at.1;subst hn2';obtain⟨ad,rfl,x14⟩:=Kd.at_int hC2 14 (by decide) (by decide);obtain⟨ad',hh,x15⟩:=Kd.at_int hC2 15 (by decide) (by decide);cases hh;obtain⟨ad',hh,x4095⟩:=Kd.at_int hC2 4095 (by decide) (by decide);cases hh;have y14:w2.cell? ⟨ad.block,ad.off+14,none⟩=some (.int .u8 0):=x14.trans (congrArg (fun z=>some (Value.int .u8 z)) o12_at.2.1);have y15:w2.cell? ⟨ad.block,ad.off+15,none⟩=some (.int .u8 255):=x15.trans (congrArg (fun z=>some (Value.int .u8 z)) o12_at.2.2.1);have y4095:w2.cell? ⟨ad.block,ad.off+4095,none⟩=some (.int .u8 255):=x4095.trans (congrArg (fun z=>some (Value.int .u8 z)) o12_at.2.2.2);clear x14 x15 x4095)))
 go_ret
 exact⟨rfl,hb1.trans (Qjl hb2 hb1.size)⟩
end Go.Proofs.YteaocbonofboeaaGreat.C
end
section
namespace Go.Proofs.YteaocbonofboeaaGreat.C
open Go.RowKit Go.Proofs.YteaocbonofboeaaGreatW.PrintWords Go.Proofs.YteaocbonofboeaaGreatW.PrintLast Go.Proofs.YteaocbonofboeaaGreatW.PrintMore
attribute [local go_sem] Qhx Qhy Qhz Qia
theorem Qpc(bs:List Int):∀(f:Nat) (j i x:Int),0≤i→i≤(bs.length:Int)→0≤x→x<18446744073709551616 →
  match Qpa bs f j i x with
  | .ok (n,i1)=>0≤n∧n<18446744073709551616∧i≤i1∧i1≤(bs.length:Int)
  | .error (_,i1)=>i≤i1∧i1≤(bs.length:Int)
 | 0,_,i,x=>fun h0 h1 h2 h3=>⟨h2,h3,Int.le_refl _,h1⟩
 | f + 1,j,i,x=>fun h0 h1 h2 h3=>by
  obtain⟨y,hy⟩:∃y,y=Go.bits .or .u64 x (shl .u64 (IntKind.u64.wrap (Go.bits .andNot .u8 (YteaocbonofboeaaGreatW.PrintWords.rd bs i) 128)) (7*j)):=⟨_,rfl⟩;have hr:0≤y∧y<18446744073709551616:=by
   have e:∀z:Int,0≤IntKind.u64.wrap z∧IntKind.u64.wrap z<18446744073709551616:=fun z=>by rw[IntKind.wrap_u64];omega
   rw[hy];exact e _
  unfold Qpa;rw[← hy]
  by_cases hlt:i<(bs.length:Int)
  ·rw[if_pos hlt]
   by_cases c1:j=9∧1<YteaocbonofboeaaGreatW.PrintWords.rd bs i
   ·rw[if_pos c1];exact⟨by omega,by omega⟩
   ·rw[if_neg c1]
    by_cases c2:128≤YteaocbonofboeaaGreatW.PrintWords.rd bs i
    ·rw[if_pos c2];have h:=Qpc bs f (j+1) (i+1) y (by omega) (by omega) hr.1 hr.2
     revert h
     cases Qpa bs f (j+1) (i+1) y with
     | ok p=>exact fun h=>⟨h.1,h.2.1,by have:=h.2.2.1;omega,h.2.2.2⟩
     | error p=>exact fun h=>⟨by have:=h.1;omega,h.2⟩
    ·rw[if_neg c2]
     by_cases c3:YteaocbonofboeaaGreatW.PrintWords.rd bs i=0∧0<j
     ·rw[if_pos c3];exact⟨by omega,by omega⟩
     ·rw[if_neg c3];exact⟨hr.1,hr.2,by omega,by omega⟩
  ·rw[if_neg hlt];exact⟨Int.le_refl _,h1⟩
def Qpd(bs:List Int)(least most i:Int):Except (Int × Int) (List Int × Int) :=
 match Qpa bs 10 0 i 0 with
 | .error p=>.error p
 | .ok (n,i1)=>if most<n then .error (3,i1)else if n<least then .error (4,i1)else if i1+n≤(bs.length:Int)then .ok ((bs.drop i1.toNat).take n.toNat,i1+n)else .error (2,i1)
theorem Qpe(b g:Nat)(bs:List Int)(i least most:Int)(hle:0≤least∧least≤4611686018427387904)(hmo:0≤most∧most≤4611686018427387904)(hb:CodecP.Bytes bs)(hi:0≤i∧i≤(bs.length:Int))(hl:bs.length≤140737488355328)(hbg:b≤g)(w:World)(hbw:b≤w.heap.size)(hI:IsCur w b g bs i)(R:Except (Int × Int) (Value × Int))(hR:(Qpd bs least most i).map (fun p=>(Value.string (strOfNums p.1),p.2))=R) :
  Calls Tryz.prog 176 #[.pointer (some ⟨g,0,none⟩),.int .i64 least,.int .i64 most] w (Ends b g bs w R):=by
 have HI:=QA hI;have HW:=QA hbw;have hrg:=Qpc bs 10 0 i 0 hi.1 hi.2 (by decide) (by decide);have hwl:IntKind.u64.wrap least=least:=IntWalk.u64_in _ (by omega);have hwm:IntKind.u64.wrap most=most:=IntWalk.u64_in _ (by omega);have hm1:max 0 most=most:=by omega
 have hm2:max 0 least=least:=by omega
 have d:∀W:World,(convert 40 9 (.slice none 0 0)).run Tryz.prog W=.ok (.string (strOfNums [])) W:=fun W=>Qcz (P:=Tryz.prog) Tryz.underlying40 Tryz.underlying5 Tryz.underlying9 (Kd.own_of_R (Kd.R_nil (Kd.int .u8) 5 W b (fun _=>True)))
 unfold Qpd at hR;clear hI hbw
 cases hv:Qpa bs 10 0 i 0 with
 | error p =>
  obtain⟨er,i1⟩:=p;rw[hv]at hR hrg;simp only[Except.map]at hR;have HV:=QA hv;clear hv;subst hR
  go_enter Tryz.func176,Tryz.ntmps176
  go_wp2_with (go_at_call 175;refine(Qpb b g bs i hb hi hl hbg _ HW.out HI.out (.error (er,i1)) (by rw[HV.out];rfl)).mono ?_;rintro ee w1 ⟨rfl,hI1,hB1⟩)
  all_goals first|exact⟨rfl,rfl,hI1,hB1⟩ |(exfalso;omega)
 | ok p =>
  obtain⟨n,i1⟩:=p;rw[hv]at hR hrg;obtain⟨h,j,hi0,hi1⟩:=hrg;dsimp only at hR;have HV:=QA hv;clear hv;have GET:Aside0 (Calls Tryz.prog 175 #[.pointer (some ⟨g,0,none⟩)] w (Ends b g bs w (.ok (.int .u64 n,i1)))):=⟨Qpb b g bs i hb hi hl hbg _ HW.out HI.out (.ok (.int .u64 n,i1)) (by rw[HV.out];rfl)⟩
  by_cases c1:most<n
  ·rw[if_pos c1]at hR;simp only[Except.map]at hR;subst hR;have a:decide (most<n)=true:=decide_eq_true c1
   go_enter Tryz.func176,Tryz.ntmps176
   go_wp2_with (first
    |(go_at_call 175;refine GET.out.mono ?_;rintro ee w1 ⟨rfl,hI1,hB1⟩)
    |(go_at_call 174;refine(Qnx b g bs i1 3 (by decide) _ hI1).mono ?_;rintro ee w2 ⟨rfl,rfl⟩))
   all_goals first|exact⟨rfl,rfl,hI1,hB1⟩ |(exfalso;omega)
  ·rw [if_neg c1]at hR;have a:decide (most<n)=false:=decide_eq_false c1;have hwn:IntKind.i64.wrap n=n:=IntWalk.i64_in _ (by omega)
   by_cases c2:n<least
   ·rw[if_pos c2]at hR;simp only[Except.map]at hR;subst hR;have c:decide (n<least)=true:=decide_eq_true c2
    go_enter Tryz.func176,Tryz.ntmps176
    go_wp2_with (first
     |(go_at_call 175;refine GET.out.mono ?_;rintro ee w1 ⟨rfl,hI1,hB1⟩)
     |(go_at_call 174;refine(Qnx b g bs i1 4 (by decide) _ hI1).mono ?_;rintro ee w2 ⟨rfl,rfl⟩))
    all_goals first|exact⟨rfl,rfl,hI1,hB1⟩ |(exfalso;omega)
   ·rw [if_neg c2]at hR;have c:decide (n<least)=false:=decide_eq_false c2
    by_cases c3:i1+n≤(bs.length:Int)
    ·rw[if_pos c3]at hR;simp only[Except.map]at hR;subst hR
     by_cases c4:n≤0
     ·obtain rfl:n=0:=by omega
      go_enter Tryz.func176,Tryz.ntmps176
      go_wp2_with (first
       |(go_at_call 175;refine GET.out.mono ?_;rintro ee w1 ⟨rfl,hI1,hB1⟩)
       |(go_at_call 221;refine(Qnz b g bs i1 0 (by decide) _ hI1).mono ?_;rintro ee w2 ⟨rfl,rfl⟩))
      all_goals go_ret
      all_goals exact⟨rfl,hI1,hB1⟩
     ·obtain⟨xs,hxs⟩:∃xs,xs=(bs.drop i1.toNat).take n.toNat:=⟨_,rfl⟩;rw[← hxs];have HX:=QA hxs;clear hxs
      go_enter Tryz.func176,Tryz.ntmps176
      go_wp2_with (first
       |(go_at_call 175;refine GET.out.mono ?_;rintro ee w1 ⟨rfl,hI1,hB1⟩)
       |(go_at_call 221;refine(Qob b g bs xs i1 n HX.out (by omega) (by omega) hl c3 hbg _ (Nat.le_trans HW.out hB1.size) hI1).mono ?_;rintro ee w2 ⟨v,rfl,hRv,hI2,hB2⟩;have cv:=Qcz (P:=Tryz.prog) Tryz.underlying40 Tryz.underlying5 Tryz.underlying9 (Kd.own_of_R hRv)))
      all_goals first |(go_ret;exact⟨rfl,hI2,hB1.trans hB2⟩) |(exfalso;omega)
    ·rw[if_neg c3]at hR;simp only[Except.map]at hR;subst hR
     go_enter Tryz.func176,Tryz.ntmps176
     go_wp2_with (first
      |(go_at_call 175;refine GET.out.mono ?_;rintro ee w1 ⟨rfl,hI1,hB1⟩)
      |(go_at_call 221;refine(Qny b g bs i1 n (by omega) ⟨by omega,hi1⟩ hl (by omega) _ hI1).mono ?_;rintro ee w2 ⟨rfl,hb2⟩))
     all_goals first|exact⟨rfl,rfl,hI1.kept hb2,hB1.trans (Bw.below hb2 (Nat.le_trans HW.out hB1.size))⟩ |(exfalso;omega)
end Go.Proofs.YteaocbonofboeaaGreat.C
end
