/- Merged texts. -/
import Derived.Test.YteaocbonofboeaaGreatME02
import Derived.Test.YteaocbonofboeaaGreatME07
import Derived.Lib.MakeNoZero
import Derived.Laws.CopyOwn
import Derived.Laws.MathBits
import Derived.Deep.RegionLaw
import Derived.Test.YteaocbonofboeaaGreatME04
import Derived.WalkLawsBesides
import Derived.Recover
set_option linter.unusedVariables false
set_option linter.unusedSimpArgs false
set_option maxHeartbeats 8000000
set_option maxRecDepth 100000
section
namespace Go.Proofs.YteaocbonofboeaaGreat.C
open Go.RowKit Go.Proofs.YteaocbonofboeaaGreatW.PrintWords Go.Proofs.YteaocbonofboeaaGreatW.PrintLast Go.Proofs.YteaocbonofboeaaGreatW.PrintMore
def one8(h:Int)(l:List Int):Int:=IntKind.u64.wrap (IntKind.u64.wrap (rotP (Go.bits .xor .u64 h (Qkh 0 (numP 8 l))) 27*Q1)+Q4)
def Qme:Nat→Int→List Int→Int
 | 0,h,_=>h
 | m+1,h,l=>Qme m (one8 h l) (l.drop 8)
def one4(h:Int)(l:List Int):Int:=IntKind.u64.wrap (IntKind.u64.wrap (rotP (Go.bits .xor .u64 h (IntKind.u64.wrap (numP 4 l*Q1))) 23*Q2)+Q3)
def one1(h x:Int):Int:=IntKind.u64.wrap (rotP (Go.bits .xor .u64 h (IntKind.u64.wrap (IntKind.u64.wrap x*Q5))) 11*Q1)
def finP(h:Int):Int :=
 let a:=IntKind.u64.wrap (Go.bits .xor .u64 h (h/8589934592)*Q2)
 let b:=IntKind.u64.wrap (Go.bits .xor .u64 a (a/536870912)*Q3)
 Go.bits .xor .u64 b (b/4294967296)
def sumP(h0:Int)(l:List Int):Int :=
 if 4≤(l.drop (8*(l.length/8))).length then finP (((l.drop (8*(l.length/8))).drop 4).foldl one1 (one4 (Qme (l.length/8) h0 l) (l.drop (8*(l.length/8)))))else finP ((l.drop (8*(l.length/8))).foldl one1 (Qme (l.length/8) h0 l))
theorem q8_cut'(A:Option Addr)(n c m:Nat)(j:Int)(hj:j=(m:Int))(hm:m≤n)(hc:n≤c) :
  ∃(A':Option Addr) (n' c':Nat),n'=n-m∧n'≤c'∧(∀W:World,(Instr.slice 40 (.slice A n c) (some (.int .i64 j)) none none).run Tryz.prog W=.ok (.slice A' n' c') W) ∧
   ∀(W:World) (b:Nat) (xs:List Int),xs.length=n→Q8 W b (.slice A n c) xs→Q8 W b (.slice A' n' c') (xs.drop m):=by
 obtain⟨A',h1,h2⟩:=Qkl A n c m j hj hm;exact⟨A',n-m,c-m,rfl,by omega,h1,h2⟩
theorem st_Sum (g b:Nat) (sd:Int) (V:V4) (rv:Value) (n:Int) (l:List Int) (w:World) (hv:StAt w g sd V rv n) (hR:Q8 w b rv l) :
  Calls Tryz.prog 156 #[.pointer (some ⟨g,0,none⟩)] w fun e w'=>e=.returned (.int .u64 (sumP (IntKind.u64.wrap (Qma sd V n+n)) l))∧Below w.heap.size w w':=by
 have hu:=Tryz.underlying280;have hu2:=Tryz.underlying278;obtain⟨A,c,rfl,hlc⟩:=Kd.Q_slice hR;have HR:=QA hR;have HV:=QA hv;obtain⟨k0,k1,k2,k3,k4,k5,k6⟩:=StAt.cells hv;have hvd:StAt w.drew g sd V (.slice A l.length c) n:=hv.kept (Qct (Below.refl _ _));obtain⟨j0,j1,j2,j3,j4,j5,j6⟩:=StAt.cells hvd
 go_enter Tryz.func156,Tryz.ntmps156
 go_wp2_with fail
 go_region_held3 (fun w'=>w'.cell? ⟨g,5,none⟩=some (.slice A l.length c)∧w'.cell? ⟨g,6,none⟩=some (.int .u64 n)) (first|exact⟨j5,j6⟩|exact⟨i5,i6⟩) (first |(go_at_call 200;refine(Qmd g sd V _ n w.drew hvd).mono ?_;rintro e w2 ⟨rfl,hb2⟩;have hv2:=hvd.kept hb2;obtain⟨i0,i1,i2,i3,i4,i5,i6⟩:=StAt.cells hv2))
 have HQ2:=QA (show Q8 w2 b (.slice A l.length c) l from Kd.Q_below (Kd.Q_drew HR.out) hb2);have p:=QA (Qcv (Qct (Below.refl w.heap.size w)) (Nat.le_refl _) hb2);clear j0 j1 j2 j3 j4 j5 j6 k0 k1 k2 k3 k4 k5 k6 hvd hv HV HR hR hb2 hv2 i0 i1 i2 i3 i4 i5 i6
 go_wp2_with fail
 obtain⟨h0,hh0⟩:∃h0,h0=IntKind.u64.wrap (Qma sd V n+n):=⟨_,rfl⟩;rw[← hh0];have HH:=QA hh0;clear hh0
 go_loopw [3,4] (fun v3 v4 wr=>∃(m:Nat) (l':List Int) (h:Int) (A:Option Addr) (c:Nat),v3=.int .u64 h∧v4=.slice A l'.length c∧l'.length≤c∧l'.length≤l.length∧Aside0 (l'.length/8=m∧Qme (l.length/8) h0 l=Qme m h l'∧l.drop (8*(l.length/8))=l'.drop (8*m))∧Aside0 (Q8 wr b (.slice A l'.length c) l')∧Aside0 (Below w.heap.size w wr))
  (fun _ v4 _=>lenV v4)
 case atStart=>exact⟨_,l,h0,A,c,rfl,rfl,hlc,Nat.le_refl _,⟨rfl,rfl,rfl⟩,HQ2,p⟩
 case round =>
  clear HQ2 p hlc;obtain⟨m,l',h,A,c,rfl,rfl,hlc,hll,HM,HQ,HB⟩:=hrel
  by_cases h8:8≤l'.length
  ·have s:(8:Int)≤(l'.length:Int):=by omega
   obtain⟨A',hcut,hA'⟩:=Qkl A l'.length c 8 8 rfl h8
   go_wp2_with (first |(go_at_call 199;refine(Qkm HQ.out h8).mono ?_;rintro e w7 ⟨rfl,hd⟩;have hd1:=hd.below;clear hd) |(go_at_call 198;refine(Qkn _ _ _).mono ?_;rintro e w8 ⟨rfl,hd⟩;have hd2:=hd.below;clear hd) |(go_at_call 201;refine(Qmb _ 27 ⟨by decide,by decide,by kernel_rfl⟩ _).mono ?_;rintro e w9 ⟨rfl,hd⟩;have hd3:=hd.below;clear hd))
   go_roundw
   case rel =>
    have hm:=HM.out;have hd:(l'.drop 8).length=l'.length-8:=List.length_drop;refine⟨m-1,l'.drop 8,one8 h l',A',c-8,rfl,by rw[hd],by rw[hd];omega,by rw[hd];omega,⟨by rw[hd];omega,?_,?_⟩,⟨?_⟩,⟨?_⟩⟩
    ·rw[hm.2.1,show m=(m-1)+1 by omega];rfl
    ·rw[hm.2.2,List.drop_drop]
     congr 1
     omega
    ·rw[hd];exact hA' _ _ _ rfl (Kd.Q_below (Kd.Q_below (Kd.Q_below HQ.out hd1) hd2) hd3)
    ·exact Qcv (Qcv (Qcv HB.out HB.out.size hd1) (Nat.le_trans HB.out.size hd1.size) hd2) (Nat.le_trans (Nat.le_trans HB.out.size hd1.size) hd2.size) hd3
   case measure=>simp[lenV];omega
  ·have s:(l'.length:Int)<8:=by omega
   by_cases h4:4≤l'.length
   ·have t:(4:Int)≤(l'.length:Int):=by omega
    obtain⟨A3,n3,c3,q,hc3,hcut,hA'⟩:=q8_cut' A l'.length c 4 4 rfl h4 hlc;have v:n3≤8:=by omega
    have HN:=QA q;clear q
    go_wp2_with (first |(go_at_call 199;refine(num4_at HQ.out h4).mono ?_;rintro e w7 ⟨rfl,hd⟩;have hd1:=hd.below;clear hd) |(go_at_call 201;refine(Qmb _ 23 ⟨by decide,by decide,by kernel_rfl⟩ _).mono ?_;rintro e w9 ⟨rfl,hd⟩;have hd3:=hd.below;clear hd))
    have HQ3:=QA (hA' _ _ _ rfl (Kd.Q_below (Kd.Q_below HQ.out hd1) hd3));have r:=QA (Qcv (Qcv HB.out HB.out.size hd1) (Nat.le_trans HB.out.size hd1.size) hd3);clear hcut hA' hd1 hd3;have a:=QA (Kd.Q_reads' HQ3.out);obtain⟨R,hR⟩:∃R,R=(l'.drop 4).foldl one1 (one4 h l'):=⟨_,rfl⟩;have j:=QA hR;clear hR
    go_loopw [3,6,46] (fun v3 v6 d wi=>∃(k:Nat) (iv x:Int),k≤n3∧d=.int .i64 iv∧v3=.int .u64 x∧Aside0 (iv=(k:Int))∧Aside0 (((l'.drop 4).drop k).foldl one1 x=R)∧Aside0 (Below w9.heap.size w9 wi))
     (fun _ _ d _=>n3-(intOf d).toNat)
    case atStart=>exact⟨0,0,_,Nat.zero_le _,rfl,rfl,⟨rfl⟩,⟨by rw[List.drop_zero];exact j.out.symm⟩,⟨Below.refl _ _⟩⟩
    case round =>
     obtain⟨k,iv,x,hk,rfl,rfl,HK,HX,HBi⟩:=hrel
     by_cases hlt:k<n3
     ·have hge:0≤iv:=by have:=HK.out;omega
      have hl2:iv<(n3:Int):=by have:=HK.out;omega
      obtain⟨ad,hA3,o⟩:=Kd.at_int (Kd.C_below a.out.2.2 HBi.out) iv hge (by rw[← a.out.1];exact hl2);have hA4:=hA3;obtain⟨y,hy⟩:∃y,y=rd (l'.drop 4) iv:=⟨_,rfl⟩;rw[← hy]at o;have HY:=QA hy;have HA:=QA hA4;clear hy hA4;subst hA3
      go_wp2_with (go_at_call 201;refine(Qmb _ 11 ⟨by decide,by decide,by kernel_rfl⟩ _).mono ?_;rintro e u ⟨rfl,hd⟩;have hd4:=hd.below;clear hd)
      go_roundw
      case rel=>exact⟨k+1,iv+1,one1 x y,by omega,by go_num,rfl,⟨by have:=HK.out;omega⟩,⟨by
       have e1:iv=(k:Int):=HK.out;have hkl:k<(l'.drop 4).length:=by have:=a.out.1;omega
       have e2:(l'.drop 4).drop k=rd (l'.drop 4) (k:Int) :: (l'.drop 4).drop (k+1):=by
        rw[List.drop_eq_getElem_cons hkl];simp[rd,List.getD_eq_getElem?_getD,List.getElem?_eq_getElem hkl]
       have e3:=HX.out;rw[e2,List.foldl_cons,← e1,← HY.out]at e3;exact e3⟩,⟨Qcv HBi.out HBi.out.size hd4⟩⟩
      case measure=>simp[intOf];omega
     ·obtain rfl:n3=k:=by omega
      have e1:iv=_:=HK.out;subst e1
      go_wp2_with fail
      go_ret
      have hL:(l'.drop 4).drop n3=[]:=List.drop_eq_nil_of_le (by have:=a.out.1;omega);have hx:=HX.out;rw[hL]at hx;have hx':x=R:=hx;subst hx';have hm:=HM.out;have hm0:m=0:=by omega
      subst hm0;refine⟨?_,Qcv r.out (Nat.le_trans r.out.size (Nat.le_refl _)) HBi.out⟩;have e5:sumP h0 l=finP x:=by
       rw[j.out];unfold sumP;rw[hm.2.1,hm.2.2];simp only[Qme,Nat.mul_zero,List.drop_zero]
       first|rw[if_pos h4]|rw[if_neg h4]
      rw[← HH.out,e5];rfl
   ·have t:(l'.length:Int)<4:=by omega
    go_wp2_with fail
    have a:=QA (Kd.Q_reads' HQ.out);obtain⟨R,hR⟩:∃R,R=(l').foldl one1 (h):=⟨_,rfl⟩;have j:=QA hR;clear hR
    go_loopw [3,6,46] (fun v3 v6 d wi=>∃(k:Nat) (iv x:Int),k≤l'.length∧d=.int .i64 iv∧v3=.int .u64 x∧Aside0 (iv=(k:Int))∧Aside0 (((l').drop k).foldl one1 x=R)∧Aside0 (Below wr.heap.size wr wi))
     (fun _ _ d _=>l'.length-(intOf d).toNat)
    case atStart=>exact⟨0,0,_,Nat.zero_le _,rfl,rfl,⟨rfl⟩,⟨by rw[List.drop_zero];exact j.out.symm⟩,⟨Below.refl _ _⟩⟩
    case round =>
     obtain⟨k,iv,x,hk,rfl,rfl,HK,HX,HBi⟩:=hrel
     by_cases hlt:k<l'.length
     ·have hge:0≤iv:=by have:=HK.out;omega
      have hl2:iv<(l'.length:Int):=by have:=HK.out;omega
      obtain⟨ad,hA3,o⟩:=Kd.at_int (Kd.C_below a.out.2.2 HBi.out) iv hge (by rw[← a.out.1];exact hl2);have hA4:=hA3;obtain⟨y,hy⟩:∃y,y=rd (l') iv:=⟨_,rfl⟩;rw[← hy]at o;have HY:=QA hy;have HA:=QA hA4;clear hy hA4;subst hA3
      go_wp2_with (go_at_call 201;refine(Qmb _ 11 ⟨by decide,by decide,by kernel_rfl⟩ _).mono ?_;rintro e u ⟨rfl,hd⟩;have hd4:=hd.below;clear hd)
      go_roundw
      case rel=>exact⟨k+1,iv+1,one1 x y,by omega,by go_num,rfl,⟨by have:=HK.out;omega⟩,⟨by
       have e1:iv=(k:Int):=HK.out;have hkl:k<(l').length:=by have:=a.out.1;omega
       have e2:(l').drop k=rd (l') (k:Int) :: (l').drop (k+1):=by
        rw[List.drop_eq_getElem_cons hkl];simp[rd,List.getD_eq_getElem?_getD,List.getElem?_eq_getElem hkl]
       have e3:=HX.out;rw[e2,List.foldl_cons,← e1,← HY.out]at e3;exact e3⟩,⟨Qcv HBi.out HBi.out.size hd4⟩⟩
      case measure=>simp[intOf];omega
     ·obtain rfl:k=l'.length:=by omega
      have e1:iv=_:=HK.out;subst e1
      go_wp2_with fail
      go_ret
      have hL:(l').drop l'.length=[]:=List.drop_eq_nil_of_le (by have:=a.out.1;omega);have hx:=HX.out;rw[hL]at hx;have hx':x=R:=hx;subst hx';have hm:=HM.out;have hm0:m=0:=by omega
      subst hm0;refine⟨?_,Qcv HB.out (Nat.le_trans HB.out.size (Nat.le_refl _)) HBi.out⟩;have e5:sumP h0 l=finP x:=by
       rw[j.out];unfold sumP;rw[hm.2.1,hm.2.2];simp only[Qme,Nat.mul_zero,List.drop_zero]
       first|rw[if_pos h4]|rw[if_neg h4]
      rw[← HH.out,e5];rfl
def Qmf(sd:Int)(l:List Int):Int :=
 sumP (IntKind.u64.wrap (Qma sd (Qkj (l.length/32) (IntKind.u64.wrap (IntKind.u64.wrap (sd+Q1)+Q2),IntKind.u64.wrap (sd+Q2),sd,IntKind.u64.wrap (sd-Q1)) l) l.length+l.length)) (l.drop (32*(l.length/32)))
theorem Qmg(b g:Nat)(sd:Int)(V:V4)(rv:Value)(A0:Option Addr)(c0:Nat)(l:List Int)(w:World)(hr0:Kd.C (Kd.int .u8) w A0 l.length l)(hfar:∀ad,A0=some ad→0<l.length→ad.block≠g)(hv:StAt w g sd V rv 0)(hR:R8 w b rv [])(hbg:b≤g)(hbw:b≤w.heap.size)(hl:l.length≤140737488355328) :
  Calls Tryz.prog 155 #[.pointer (some ⟨g,0,none⟩),.slice A0 l.length c0] w fun e w'=>e=.returned (.pointer (some ⟨g,0,none⟩))∧(∃rv',StAt w' g sd (Qkj (l.length/32) V l) rv' l.length∧R8 w' b rv' (l.drop (32*(l.length/32))))∧Below b w w':=by
 have hu:=Tryz.underlying280;have hu2:=Tryz.underlying278;have hu3:=Tryz.underlying40;obtain⟨A1,n1,c1,rfl⟩:=R8.shape hR;have c6:w.cell? ⟨g,6,none⟩=some (.int .u64 0):=(Qdr hv 6).trans rfl;have c5:w.cell? ⟨g,5,none⟩=some (.slice A1 n1 c1):=(Qdr hv 5).trans rfl;have f6:=Qds hv 6;have hw:=IntWalk.u64_in (l.length:Int) (by omega)
 go_enter Tryz.func155,Tryz.ntmps155
 have hC1:Kd.C (Kd.int .u8) (w.setCell ⟨g,6,none⟩ (.int .u64 l.length)) A0 l.length l:=Kd.C_keep (0:Int) hr0 ((KeepBut.refl w g none).set_ 6 _) hfar;have hv1:StAt (w.setCell ⟨g,6,none⟩ (.int .u64 l.length)) g sd V (.slice A1 n1 c1) l.length:=Qdo hv 6 _;have hR1:R8 (w.setCell ⟨g,6,none⟩ (.int .u64 l.length)) b (.slice A1 n1 c1) []:=hR.set hv (by decide) 6 _;have hb1:Below b w (w.setCell ⟨g,6,none⟩ (.int .u64 l.length)):=Qjt (Below.refl _ _) hbg;have hz1:(w.setCell ⟨g,6,none⟩ (.int .u64 l.length)).heap.size=w.heap.size:=by simp
 go_wp2_with (first |(at_builtin;refine Kd.R_append_row (Value.int .u8) (0:Int) (h1:=fun _=>rfl) (w0:=w) b rfl (.tmp 20) (.tmp 21) 40 5 (.int .u8 0) 1 rfl Tryz.underlying40 Qit rfl (by decide) (.slice A1 n1 c1) [] l A0 l.length c0 (fun _=>True) rfl rfl (fun _ _=>trivial) ?hO ?hR ?hB ?hS ?hL ?_;(case hO=>exact hR1);(case hR=>exact hC1);(case hB=>exact hb1);(case hS=>rw[hz1];exact hbw);(case hL=>simp;omega);intro v2 w2 a hb2 j hat2;have hv2:=Qdt hv1 j (hR1.clean hv1 (by decide));simp only[List.nil_append]at a))
 have HV2:=QA (show StAt w2 g sd V (.slice A1 n1 c1) l.length from hv2);have k:=QA hb2;obtain⟨A2,cc2,rfl,n,_⟩:=Kd.R_reads a;have HQ2:=QA (Kd.Q_of_R a);clear hv2 hb2 a hC1 hv1 hR1 hb1 hz1 c6 c5 f6 hr0 hfar hv hR j hat2
 go_loopw [5] (fun v5 wr=>∃(m:Nat) (l':List Int) (V':V4) (A:Option Addr) (c:Nat),v5=.slice A l'.length c∧l'.length≤c∧l'.length≤l.length∧Aside0 (l'.length/32=m∧Qkj (l.length/32) V l=Qkj m V' l'∧l.drop (32*(l.length/32))=l'.drop (32*m))∧Aside0 (Q8 wr b (.slice A l'.length c) l')∧Aside0 (StAt wr g sd V' (.slice A1 n1 c1) l.length)∧Aside0 (Below b w wr))
  (fun v5 _=>lenV v5)
 case atStart=>exact⟨_,l,V,A2,cc2,rfl,n,Nat.le_refl _,⟨rfl,rfl,rfl⟩,HQ2,HV2,k⟩
 case round =>
  obtain⟨m,l',V',A,c,rfl,hlc,hll,HM,HQ,HV,HB⟩:=hrel;clear HQ2 HV2 k
  by_cases p:32≤l'.length
  ·have o:(32:Int)≤(l'.length:Int):=by omega
   go_wp2_with fail
   go_loopw [6,26] (fun v6 d wi=>∃(i:Nat) (iv:Int),i≤4∧d=.int .i64 iv∧Aside0 (iv=(i:Int))∧Aside0 (Q8 wi b (.slice A l'.length c) l')∧Aside0 (StAt wi g sd (Qkk i V' l') (.slice A1 n1 c1) l.length)∧Aside0 (Below b w wi))
    (fun _ d _=>4-(intOf d).toNat)
   case atStart=>exact⟨0,0,by omega,rfl,⟨rfl⟩,HQ,HV,HB⟩
   case round =>
    obtain⟨i,iv,hi,rfl,HI,HQi,HVi,HBi⟩:=hrel;clear HQ HV HB
    by_cases h4:i<4
    ·have hk:i=0∨i=1∨i=2∨i=3:=by omega
     rcases hk with rfl|rfl|rfl|rfl
     ·obtain rfl:iv=0:=HI.out;have cv:wr.cell? ⟨g,1,none⟩=some (.int .u64 V'.1):=(Qdr HVi.out 1).trans rfl;have fv:=Qds HVi.out 1
      go_wp2_with fail
      obtain⟨A',hcut,hA'⟩:=Qkl A l'.length c 0 0 rfl (by omega);have hwa:IntKind.i64.wrap 0=0:=IntWalk.i64_in 0 (by decide);have hq:∀q,Q8 (wr.drewN q) b (.slice A' (l'.length-0) (c-0)) (l'.drop 0):=fun q=>hA' _ _ _ rfl (Kd.Q_drewN HQi.out q)
      have h8:8≤(l'.drop 0).length:=by rw[List.length_drop];omega
      go_region_with (first |(go_at_call 199;refine(Qkm (hq _) h8).mono ?_;rintro e w7 ⟨rfl,hd⟩;obtain⟨q,rfl⟩:=hd.out;clear hd) |(go_at_call 198;refine(Qkn _ _ _).mono ?_;rintro e w8 ⟨rfl,hd⟩;obtain⟨q2,rfl⟩:=hd.out;clear hd))
      all_goals
       go_wp2_with fail
       go_roundw
       case rel=>exact⟨1,1,by omega,by go_num,⟨rfl⟩,⟨Kd.Q_set (Kd.Q_drewN HQi.out _) (cells:=#[.int .u64 sd,.int .u64 (Qkk 0 V' l').1,.int .u64 (Qkk 0 V' l').2.1,.int .u64 (Qkk 0 V' l').2.2.1,.int .u64 (Qkk 0 V' l').2.2.2,.slice A1 n1 c1,.int .u64 l.length]) (t:=280) HVi.out (by intro q hq;rcases List.mem_cons.1 hq with rfl|hq;decide;cases hq) _ _⟩,⟨Qdo (w:=wr.drewN _) HVi.out 1 _⟩,⟨Qjt (Qcu HBi.out _) hbg⟩⟩
       case measure=>simp[intOf]
     ·obtain rfl:iv=1:=HI.out;have cv:wr.cell? ⟨g,2,none⟩=some (.int .u64 V'.2.1):=(Qdr HVi.out 2).trans rfl;have fv:=Qds HVi.out 2
      go_wp2_with fail
      obtain⟨A',hcut,hA'⟩:=Qkl A l'.length c 8 8 rfl (by omega);have hwa:IntKind.i64.wrap 8=8:=IntWalk.i64_in 8 (by decide);have hq:∀q,Q8 (wr.drewN q) b (.slice A' (l'.length-8) (c-8)) (l'.drop 8):=fun q=>hA' _ _ _ rfl (Kd.Q_drewN HQi.out q)
      have h8:8≤(l'.drop 8).length:=by rw[List.length_drop];omega
      go_region_with (first |(go_at_call 199;refine(Qkm (hq _) h8).mono ?_;rintro e w7 ⟨rfl,hd⟩;obtain⟨q,rfl⟩:=hd.out;clear hd) |(go_at_call 198;refine(Qkn _ _ _).mono ?_;rintro e w8 ⟨rfl,hd⟩;obtain⟨q2,rfl⟩:=hd.out;clear hd))
      all_goals
       go_wp2_with fail
       go_roundw
       case rel=>exact⟨2,2,by omega,by go_num,⟨rfl⟩,⟨Kd.Q_set (Kd.Q_drewN HQi.out _) (cells:=#[.int .u64 sd,.int .u64 (Qkk 1 V' l').1,.int .u64 (Qkk 1 V' l').2.1,.int .u64 (Qkk 1 V' l').2.2.1,.int .u64 (Qkk 1 V' l').2.2.2,.slice A1 n1 c1,.int .u64 l.length]) (t:=280) HVi.out (by intro q hq;rcases List.mem_cons.1 hq with rfl|hq;decide;cases hq) _ _⟩,⟨Qdo (w:=wr.drewN _) HVi.out 2 _⟩,⟨Qjt (Qcu HBi.out _) hbg⟩⟩
       case measure=>simp[intOf]
     ·obtain rfl:iv=2:=HI.out;have cv:wr.cell? ⟨g,3,none⟩=some (.int .u64 V'.2.2.1):=(Qdr HVi.out 3).trans rfl;have fv:=Qds HVi.out 3
      go_wp2_with fail
      obtain⟨A',hcut,hA'⟩:=Qkl A l'.length c 16 16 rfl (by omega);have hwa:IntKind.i64.wrap 16=16:=IntWalk.i64_in 16 (by decide);have hq:∀q,Q8 (wr.drewN q) b (.slice A' (l'.length-16) (c-16)) (l'.drop 16):=fun q=>hA' _ _ _ rfl (Kd.Q_drewN HQi.out q)
      have h8:8≤(l'.drop 16).length:=by rw[List.length_drop];omega
      go_region_with (first |(go_at_call 199;refine(Qkm (hq _) h8).mono ?_;rintro e w7 ⟨rfl,hd⟩;obtain⟨q,rfl⟩:=hd.out;clear hd) |(go_at_call 198;refine(Qkn _ _ _).mono ?_;rintro e w8 ⟨rfl,hd⟩;obtain⟨q2,rfl⟩:=hd.out;clear hd))
      all_goals
       go_wp2_with fail
       go_roundw
       case rel=>exact⟨3,3,by omega,by go_num,⟨rfl⟩,⟨Kd.Q_set (Kd.Q_drewN HQi.out _) (cells:=#[.int .u64 sd,.int .u64 (Qkk 2 V' l').1,.int .u64 (Qkk 2 V' l').2.1,.int .u64 (Qkk 2 V' l').2.2.1,.int .u64 (Qkk 2 V' l').2.2.2,.slice A1 n1 c1,.int .u64 l.length]) (t:=280) HVi.out (by intro q hq;rcases List.mem_cons.1 hq with rfl|hq;decide;cases hq) _ _⟩,⟨Qdo (w:=wr.drewN _) HVi.out 3 _⟩,⟨Qjt (Qcu HBi.out _) hbg⟩⟩
       case measure=>simp[intOf]
     ·obtain rfl:iv=3:=HI.out;have cv:wr.cell? ⟨g,4,none⟩=some (.int .u64 V'.2.2.2):=(Qdr HVi.out 4).trans rfl;have fv:=Qds HVi.out 4
      go_wp2_with fail
      obtain⟨A',hcut,hA'⟩:=Qkl A l'.length c 24 24 rfl (by omega);have hwa:IntKind.i64.wrap 24=24:=IntWalk.i64_in 24 (by decide);have hq:∀q,Q8 (wr.drewN q) b (.slice A' (l'.length-24) (c-24)) (l'.drop 24):=fun q=>hA' _ _ _ rfl (Kd.Q_drewN HQi.out q)
      have h8:8≤(l'.drop 24).length:=by rw[List.length_drop];omega
      go_region_with (first |(go_at_call 199;refine(Qkm (hq _) h8).mono ?_;rintro e w7 ⟨rfl,hd⟩;obtain⟨q,rfl⟩:=hd.out;clear hd) |(go_at_call 198;refine(Qkn _ _ _).mono ?_;rintro e w8 ⟨rfl,hd⟩;obtain⟨q2,rfl⟩:=hd.out;clear hd))
      all_goals
       go_wp2_with fail
       go_roundw
       case rel=>exact⟨4,4,by omega,by go_num,⟨rfl⟩,⟨Kd.Q_set (Kd.Q_drewN HQi.out _) (cells:=#[.int .u64 sd,.int .u64 (Qkk 3 V' l').1,.int .u64 (Qkk 3 V' l').2.1,.int .u64 (Qkk 3 V' l').2.2.1,.int .u64 (Qkk 3 V' l').2.2.2,.slice A1 n1 c1,.int .u64 l.length]) (t:=280) HVi.out (by intro q hq;rcases List.mem_cons.1 hq with rfl|hq;decide;cases hq) _ _⟩,⟨Qdo (w:=wr.drewN _) HVi.out 4 _⟩,⟨Qjt (Qcu HBi.out _) hbg⟩⟩
       case measure=>simp[intOf]
    ·obtain rfl:i=4:=by omega
     obtain rfl:iv=4:=HI.out;obtain⟨A',hcut,hA'⟩:=Qkl A l'.length c 32 32 rfl p
     go_wp2_with fail
     go_roundw
     case rel =>
      have e4:Qkk 4 V' l'=Qki V' l':=rfl;have hm:=HM.out;have hd:(l'.drop 32).length=l'.length-32:=List.length_drop;refine⟨m-1,l'.drop 32,Qki V' l',A',c-32,by rw[hd],by rw[hd];omega,by rw[hd];omega,⟨by rw[hd];omega,?_,?_⟩,⟨?_⟩,⟨?_⟩,HBi⟩
      ·rw[hm.2.1,show m=(m-1)+1 by omega];rfl
      ·rw[hm.2.2,List.drop_drop]
       congr 1
       omega
      ·rw[hd];exact hA' _ _ _ rfl HQi.out
      ·exact HVi.out
     case measure=>simp[lenV];omega
  ·have o:(l'.length:Int)<32:=by omega
   have hq':=Kd.Q_reads' HQ.out;have cv:wr.cell? ⟨g,5,none⟩=some (.slice A1 n1 c1):=(Qdr HV.out 5).trans rfl
   go_wp2_with (first |(at_builtin;refine Kd.R_append_row (Value.int .u8) (0:Int) (h1:=fun _=>rfl) (w0:=wr) b rfl (.const (.slice none 0 0)) (.tmp 50) 40 5 (.int .u8 0) 1 rfl Tryz.underlying40 Qit rfl (by decide) (.slice none 0 0) [] l' A l'.length c (fun _=>True) rfl rfl (fun _ _=>trivial) ?hO ?hR ?hB ?hS ?hL ?_;(case hO=>exact Kd.R_nil _ _ _ _ _);(case hR=>exact hq'.2.2);(case hB=>exact Below.refl _ _);(case hS=>exact Nat.le_trans hbw HB.out.size);(case hL=>simp;omega);intro v3 w3 h hb3 r hat3;obtain⟨A3,n3,c3,rfl⟩:=R8.shape h;have hv3:=Qdt (show wr.heap[g]? = _ from HV.out) r (by simp[Value.ownBlock]);have fv:=Qds hv3 5;have cv3:w3.cell? ⟨g,5,none⟩=some (.slice A1 n1 c1):=(Qdr hv3 5).trans rfl;(try simp only[List.nil_append]at h)))
   go_ret
   have hm:=HM.out;have hm0:m=0:=by omega
   subst hm0;refine⟨rfl,⟨.slice A3 n3 c3,?_,?_⟩,Qjt (HB.out.trans hb3) hbg⟩
   ·rw[hm.2.1];exact Qdo hv3 5 _
   ·rw[hm.2.2]
    simpa using R8.set h hv3 (by decide) 5 _
theorem Qmt(n:Int)(h0:0≤n)(h1:n≤140737488355328):Qaa.f 1 n=some (0,n):=by
 have e1:Go.bits .and .u64 1 4294967295=1:=by rw[and_low32 _ (by omega) (by omega)];rfl
 have e2:Go.bits .and .u64 n 4294967295=n%4294967296:=and_low32 _ (by omega) (by omega);have e3:∀x:Int,0≤x→x≤18446744073709551615→IntKind.u64.wrap x=x:=fun x a b=>IntWalk.u64_in x ⟨a,b⟩
 unfold Qaa.f Qab.f;rw[e1,e2];have d1:(1:Int)/4294967296=0:=by decide
 have m0:0≤n%4294967296:=by omega
 have m1:n%4294967296<4294967296:=by omega
 have q0:0≤n/4294967296:=by omega
 have q1:n/4294967296<4294967296:=by omega
 have d2:(n%4294967296)/4294967296=0:=by omega
 have d3:(n/4294967296)/4294967296=0:=by omega
 have z3:IntKind.u64.wrap 0=0:=e3 0 (by omega) (by omega);have zb:Go.bits .and .u64 0 4294967295=0:=by rw[and_low32 _ (by omega) (by omega)];rfl
 simp only[d1,Int.zero_mul,Int.one_mul,z3,e3 _ m0 (by omega),d2,Int.add_zero,Int.zero_add,Int.zero_ediv,zb,e3 _ q0 (by omega),d3,e3 _ h0 (by omega),Option.bind_some]
attribute [local go_sem] Qie Qif Qig Qih
def Fill(w wr:World)(g n bp:Nat)(x:Int):Prop :=
 ∃cur:List Value,wr.heap[g]? = some (.cells cur.toArray 5 (0,0))∧n≤cur.length∧(∀j,j<bp→cur[j]? = some (.int .u8 x))∧Below w.heap.size w wr∧w.heap.size≤g
theorem Fill.splice{w w1:World}{g n bp k:Nat}{x:Int}{cur:List Value}(hc:∀j,j<bp→cur[j]? = some (.int .u8 x))(hl:n≤cur.length)(hbk:bp+k≤n)(hg:w1.heap[g]? = some (.cells (splice cur bp (List.replicate k (.int .u8 x))).toArray 5 (0,0)))(hB:Below w.heap.size w w1)(hle:w.heap.size≤g):Fill w w1 g n (bp+k) x:=by
 refine⟨_,hg,?_,?_,hB,hle⟩
 ·rw[length_splice _ _ _ qq_30];exact hl
 ·intro j hj;unfold Go.splice
  by_cases h1:j<bp
  ·rw[List.getElem?_append_left qq_30,List.getElem?_take_of_lt h1];exact hc j h1
  ·rw[List.getElem?_append_right qq_30,List.length_take,Nat.min_eq_left (by omega),List.getElem?_append_left qq_30];simp[List.getElem?_replicate];omega
theorem Qmu (A0:Option Addr) (c0:Nat) (x:Int) (n:Nat) (w:World) (p:0<n) (hn:n≤140737488355328) (hr0:Kd.C (Kd.int .u8) w A0 1 [x]) :
    Calls Tryz.prog 108 #[.slice A0 1 c0,.int .i64 n] w fun e w'=>∃g,e=.returned (.slice (some ⟨g,0,none⟩) n n)∧Fill w w' g n n x:=by
  have hmul:=Qmt n (by omega) (by omega);obtain⟨ad,c,rfl,_,hK,hcell0⟩:=Kd.C_get hr0 0 0 (by omega) (by omega);have hK':c=[.int .u8 x]:=hK;subst hK';have hcell:=hcell0 0 _ rfl;clear hcell0 hK;have n0:(0:Int)<(n:Int):=by omega
  have n1:(n:Int)≤140737488355328:=by omega
  go_enter Tryz.func108,Tryz.ntmps108
  have hsz1:(Tryz.prog.info? 5).map (·.size)=some 1:=by kernel_rfl
  obtain⟨g,hg⟩:∃g,g=w.heap.size:=⟨_,rfl⟩
  go_wp2_with (go_at_call 157;refine(Qaa.calls 1 n 0 n w hmul).mono ?_;rintro e w' ⟨rfl,hd⟩;obtain⟨q,rfl⟩:=hd.out;clear hd;fail)
  go_at_call 157
  refine(Qaa.calls 1 n 0 n w hmul).mono ?_;rintro e w' ⟨rfl,hd⟩;obtain⟨q,rfl⟩:=hd.out;clear hd;obtain⟨cs,hrunM,hle,hmx⟩:=Lib.run_makeNoZero (P:=Tryz.prog) (w.drewN q) #[3] 40 5 Tryz.underlying40 n (by omega);have hcall:(callFunc 158 #[.int .i64 (n:Int)]).run Tryz.prog (w.drewN q)=.ok (.value (.slice (some ⟨w.heap.size,0,none⟩) n cs.size)) ((w.alloc (.cells cs 5)).drewN (q+2)):=by
    rw[run_callFunc_extern Tryz.func158 qq_4 qq_4 qq_4 (e:=Extern.BytealgMakeNoZero.makeNoZero #[3] #[40]) qq_4,hrunM];rfl
  clear hrunM hmx;have i1:(n:Int)≤(cs.size:Int):=by omega
  have hcell':((w.alloc (.cells cs 5)).drewN (q+2)).cell? (ad.add 0)=some (.int .u8 x):=by
    rw[World.cell?_drewN];exact(((Below.refl _ w).alloc (Nat.le_refl _) _).cell (World.block_lt_of_cell? w _ hcell)).trans hcell
  obtain⟨W0,hW0⟩:∃W0,((w.alloc (.cells cs 5)).drewN (q+2))=W0:=⟨_,rfl⟩;have hh0:W0.heap[g]? = some (.cells cs.toList.toArray 5 (0,0)):=by rw[← hW0,hg];simpa using heap_alloc_new w (.cells cs 5)
  have hb0:Below w.heap.size w W0:=by rw[← hW0];exact Qcu ((Below.refl _ w).alloc (Nat.le_refl _) _) _
  rw[hW0]at hcall hcell';clear hW0;have HG:=QA hg;rw[← hg]at hcall;clear hg
  by_cases hbig:8192<(n:Int)
  all_goals
    go_wp2_with (refine wpList_copy_splice rfl (.tmp 58) (.tmp 59) 40 40 ?ho 5 Tryz.underlying40 hsz1 (some ⟨g,0,none⟩) (some ad) n n 1 c0 ?hd ?hs g 0 cs.toList 5 hh0 [.int .u8 x] ?hn ?hpos ?hfit ?h1 w.heap.size w hb0 ?hBg ?_;(case ho=>rfl);(case hd=>rfl);(case hs=>rfl);(case hn=>simp[Nat.min_def];omega);(case hpos=>intro _;refine⟨rfl,ad,rfl,fun j v hj=>?_⟩;cases j with|zero=>(simp at hj;subst hj;exact hcell')|succ j=>(simp at hj));(case hfit=>simp;omega);(case h1=>intro v hv;simp at hv;subst hv;rfl);(case hBg=>rw[HG.out];exact Nat.le_refl _);intro w1 HG1 hb1)
    have b:Fill w w1 g n (0+1) x:=Fill.splice (cur:=cs.toList) (bp:=0) (k:=1) (by intro j hj;omega) (by simpa using hle) (by omega) HG1.out hb1 (by rw[HG.out];exact Nat.le_refl _);clear HG1 hb1
    go_loopw [10] (fun a wr=>∃(bp:Nat),1≤bp∧bp≤n∧a=.int .i64 (bp:Int)∧Aside0 (Fill w wr g n bp x)) (fun a _=>n-(intOf a).toNat)
    case atStart=>exact⟨1,Nat.le_refl _,by omega,rfl,⟨b⟩⟩
    case round =>
      clear b;obtain⟨bp,hb1,hb2,rfl,HF⟩:=hrel
      by_cases hlt:bp<n
      · by_cases c8:8192<(bp:Int)
        all_goals first |(exfalso;omega)|skip
        all_goals
         obtain⟨ch,hch1,hch2,hcb⟩:∃ch:Nat,1≤ch∧ch≤bp∧((8192<(n:Int)→8192<(bp:Int)→ch=8192)∧(¬8192<(bp:Int)→ch=bp)∧(¬8192<(n:Int)→ch=bp)):=by
          by_cases c:8192<(n:Int)∧8192<(bp:Int)
          · exact⟨8192,by omega,by omega,fun _ _=>rfl,by omega,by omega⟩
          · exact⟨bp,by omega,by omega,by omega,by omega,by omega⟩
         have e3:(if 8192<(bp:Int)then(8192:Int)else(bp:Int))≤(n:Int):=by split<;>omega
         first|rw[if_pos c8]at e3|rw[if_neg c8]at e3
         have HCB:=QA hcb;clear hcb;obtain⟨cur,hcur,hcl,hcx,hB,hle2⟩:=HF.out;obtain⟨kk,hkk⟩:∃kk,kk=Nat.min ch (n-bp):=⟨_,rfl⟩;have hk1:1≤kk∧kk≤ch∧kk≤n-bp:=by
           have h1:kk≤ch:=by rw[hkk];exact Nat.min_le_left _ _
           have h2:kk≤n-bp:=by rw[hkk];exact Nat.min_le_right _ _
           have h3:1≤kk:=by rw[hkk];exact Nat.le_min.2 ⟨hch1,by omega⟩
           exact⟨h3,h1,h2⟩
         have HKK:=QA hkk;clear hkk;have hcells:∀j,j<ch→wr.cell? ⟨g,j,none⟩=some (.int .u8 x):=by
           intro j hj;have:=hcx j (by omega);simp[World.cell?,hcur,this]
         have HCELLS:=QA hcells;have HCUR:=QA hcur;have HCX:=QA hcx;have HCL:=QA hcl;have HB:=QA hB;have HLE:=QA hle2;clear hcells hcur hcx hcl hB hle2 HF;have e1:(bp:Int)<(n:Int):=by omega
         have e2:(ch:Int)≤(n:Int):=by omega
         have d:=QA (show(List.replicate kk (Value.int .u8 x)).length=Nat.min ch (n-bp)by rw[List.length_replicate];exact HKK.out);have h:=QA (show ∀j v,(List.replicate kk (Value.int .u8 x))[j]? = some v→wr.cell? ((⟨g,0,none⟩:Addr).add j)=some v by
           intro j v hj;rw[List.getElem?_replicate]at hj;split at hj
           · injection hj with hj
             subst hj;rw[Qcx];exact HCELLS.out j (by omega)
           · cases hj)
         have l:=QA (show bp+(List.replicate kk (Value.int .u8 x)).length≤cur.length by rw[List.length_replicate];have:=HCL.out;omega);have m:=QA (show ∀v∈List.replicate kk (Value.int .u8 x),v.oneCell'=true by intro v hv;rw[(List.mem_replicate.1 hv).2];rfl)
         go_wp2_with fail
         go_region_law (refine step_copy_splice rfl (.tmp 70) (.tmp 73) 40 40 rfl 5 Tryz.underlying40 hsz1 (some ⟨g,bp,none⟩) (some ⟨g,0,none⟩) (n-bp) (n-bp) ch n (by(try simp[Act.eval,Act.put])<;>omega) (by(try simp[Act.eval,Act.put])<;>(have:=HCB.out;omega)) g bp cur 5 HCUR.out (List.replicate kk (.int .u8 x)) d.out (fun _=>⟨rfl,_,rfl,h.out⟩) l.out m.out w.heap.size w (by first|exact HB.out|exact Qct HB.out) HLE.out ?_;intro w4 HG4 hb4)
         have o:Fill w w4 g n (bp+kk) x:=Fill.splice HCX.out HCL.out (by omega) HG4.out hb4 HLE.out;clear HG4 hb4;go_wp2
         go_roundw
         case rel=>exact⟨bp+kk,by omega,by omega,by rw[IntWalk.i64_in _ (by omega)];go_num,⟨o⟩⟩
         case measure=>simp[intOf,IntWalk.i64_in ((bp:Int)+(kk:Int)) (by omega)];omega
      · obtain rfl:bp=n:=by omega
        go_wp2;go_ret
        exact⟨g,rfl,HF.out⟩
theorem Qmv{w w':World}{g n:Nat}{x:Int}(h:Fill w w' g n n x)(hn:n≤9223372036854775807):Kd.C (Kd.int .u8) w' (some ⟨g,0,none⟩) n (List.replicate n x):=by
 obtain⟨cur,h1,h2,h3,h4,h5⟩:=h;refine Kd.C_of_reads (d:=(0:Int)) ⟨List.length_replicate,hn,fun _=>⟨_,rfl,fun j hj=>?_⟩⟩;rw[Qcx,Qdr h1];simp[h3 j hj,List.getD_eq_getElem?_getD,List.getElem?_replicate,hj]
theorem Qmw(A0:Option Addr)(c0:Nat)(x:Int)(n:Nat)(w:World)(hn:n≤140737488355328)(hr0:Kd.C (Kd.int .u8) w A0 1 [x]) :
  Calls Tryz.prog 108 #[.slice A0 1 c0,.int .i64 n] w fun e w'=>∃A c,e=.returned (.slice A n c)∧n≤c∧Kd.C (Kd.int .u8) w' A n (List.replicate n x)∧Below w.heap.size w w':=by
 rcases Nat.eq_zero_or_pos n with rfl|hp
 ·go_enter Tryz.func108,Tryz.ntmps108
  go_wp2;go_ret
  exact⟨_,_,rfl,Nat.le_refl _,⟨rfl,by omega,fun h=>absurd h (by omega)⟩,Qcs (Below.refl _ _) _⟩
 ·refine(Qmu A0 c0 x n w hp hn hr0).mono ?_;rintro e w' ⟨g,rfl,hF⟩;refine⟨_,_,rfl,Nat.le_refl _,Qmv hF (by omega),?_⟩;obtain⟨cur,h1,h2,h3,h4,h5⟩:=hF;exact h4
def IsCur(W:World)(b g:Nat)(bs:List Int)(i:Int):Prop:=∃v,W.heap[g]? = some (.cells #[v,.int .i64 i,.bool true] 300 (0,0))∧R8 W b v bs
def Qnb(g:Nat)(e:Int):PanicEntry:={ v:=.iface 302 (.agg #[.pointer (some ⟨g,0,none⟩),.int .i64 e]),recovered:=false }
theorem IsCur.kept{W W':World}{b g:Nat}{bs:List Int}{i:Int}(h:IsCur W b g bs i)(hb:Below W.heap.size W W'):IsCur W' b g bs i:=by
 obtain⟨v,h1,h2⟩:=h;exact⟨v,Qeg h1 hb,h2.kept hb⟩
theorem IsCur.lt{W:World}{b g:Nat}{bs:List Int}{i:Int}(h:IsCur W b g bs i):g<W.heap.size:=by
 obtain⟨v,h1,h2⟩:=h;exact Qdq h1
theorem IsCur.cells{W:World}{b g:Nat}{bs:List Int}{i:Int}(h:IsCur W b g bs i):∃A c,W.cell? ⟨g,0,none⟩=some (.slice A bs.length c)∧W.cell? ⟨g,1,none⟩=some (.int .i64 i)∧W.cell? ⟨g,2,none⟩=some (.bool true)∧W.frozen? ⟨g,1,none⟩=false∧Kd.C (Kd.int .u8) W A bs.length bs∧bs.length≤c:=by
 obtain⟨v,h1,h2⟩:=h;obtain⟨A,c,rfl⟩:=Kd.R_slice h2;exact⟨A,c,(Qdr h1 0).trans rfl,(Qdr h1 1).trans rfl,(Qdr h1 2).trans rfl,Qds h1 1,(Kd.R_reads' h2).2.2,(Kd.R_reads' h2).2.1⟩
theorem IsCur.move{W:World}{b g:Nat}{bs:List Int}{i:Int}(h:IsCur W b g bs i)(hbg:b≤g)(j:Int):IsCur (W.setCell ⟨g,1,none⟩ (.int .i64 j)) b g bs j∧Bw b g W (W.setCell ⟨g,1,none⟩ (.int .i64 j)):=by
 obtain⟨v,h1,h2⟩:=h;exact⟨⟨v,Qdo h1 1 _,h2.set h1 (by decide) 1 _⟩,Qjt (Below.refl _ _) hbg,fun k cs t h3 h4 h5=>Qdp h3 h5 _⟩
theorem Qnc(b g:Nat)(bs:List Int)(i:Int)(w:World)(hI:IsCur w b g bs i) :
  Calls Tryz.prog 220 #[.pointer (some ⟨g,0,none⟩)] w fun e w'=>e=.returned (.bool false)∧w'=w:=by
 obtain⟨A,c,h0,h1,h2,h3,h4,h5⟩:=hI.cells;clear hI;have hu:=Tryz.underlying300
 go_enter Tryz.func220,Tryz.ntmps220
 go_wp2;go_ret
 exact⟨rfl,rfl⟩
theorem Qnd(b g:Nat)(bs:List Int)(i er:Int)(he:er≠0)(w:World)(hI:IsCur w b g bs i) :
  Calls Tryz.prog 174 #[.pointer (some ⟨g,0,none⟩),.int .i64 er] w fun e w'=>e=.panicked [Qnb g er]∧w'=w:=by
 have HI:=QA hI;clear hI;have hu:=Tryz.underlying300;have hne:(er != 0)=true:=bne_iff_ne.2 he
 go_enter Tryz.func174,Tryz.ntmps174
 go_wp2_with (go_at_call 220;refine(Qnc b g bs i _ HI.out).mono ?_;rintro ee wa ⟨rfl,rfl⟩)
 exact⟨rfl,rfl,rfl⟩
theorem Qne(b g:Nat)(bs:List Int)(i n:Int)(hn:0<n)(hi:0≤i∧i≤bs.length)(hl:bs.length≤140737488355328)(hs:(bs.length:Int)-i<n)(w:World)(hI:IsCur w b g bs i) :
  Calls Tryz.prog 221 #[.pointer (some ⟨g,0,none⟩),.int .i64 n] w fun e w'=>e=.panicked [Qnb g 2]∧Below w.heap.size w w':=by
 have HI:=QA hI;obtain⟨A,c,h0,h1,h2,h3,h4,h5⟩:=hI.cells;clear hI h4;have hu:=Tryz.underlying300;have hb0:decide (n≤0)=false:=decide_eq_false (by omega);have hw1:IntKind.i64.wrap ((bs.length:Int)-i)=(bs.length:Int)-i:=IntWalk.i64_in _ (by omega);have hb1:decide ((bs.length:Int)-i<n)=true:=decide_eq_true hs
 go_enter Tryz.func221,Tryz.ntmps221
 go_upto_region 3 with(go_at_call 220;refine(Qnc b g bs i _ HI.out).mono ?_;rintro ee wa ⟨rfl,rfl⟩)
 have q0:=Qcw (Qct (Below.refl _ _)) h0;have q1:=Qcw (Qct (Below.refl _ _)) h1
 go_region
 go_wp2_with (go_at_call 174;refine(Qnd b g bs i 2 (by decide) _ (HI.out.kept (Qct (Below.refl _ _)))).mono ?_;rintro ee wa ⟨rfl,rfl⟩)
 exact⟨rfl,rfl,Qct (Below.refl _ _)⟩
theorem Qnf(b g:Nat)(bs:List Int)(i n:Int)(hn:n≤0)(w:World)(hI:IsCur w b g bs i) :
  Calls Tryz.prog 221 #[.pointer (some ⟨g,0,none⟩),.int .i64 n] w fun e w'=>e=.returned (.slice none 0 0)∧w'=w:=by
 have HI:=QA hI;clear hI;have hb0:decide (n≤0)=true:=decide_eq_true hn
 go_enter Tryz.func221,Tryz.ntmps221
 go_wp2_with (go_at_call 220;refine(Qnc b g bs i _ HI.out).mono ?_;rintro ee wa ⟨rfl,rfl⟩)
 go_ret
 exact⟨rfl,rfl⟩
def K8(w w':World):Prop:=∀(b:Nat) (v:Value) (ys:List Int),R8 w b v ys→R8 w' b v ys
theorem K8.move{W:World}{b g:Nat}{bs:List Int}{i:Int}(h:IsCur W b g bs i)(j:Int){w':World}(hb:Below W.heap.size (W.setCell ⟨g,1,none⟩ (.int .i64 j)) w'):K8 W w':=by
 intro b' v' ys hR;obtain⟨v,h1,_⟩:=h;exact R8.kept (R8.set hR h1 (by decide) 1 _) (by simpa [World.setCell]using hb)
theorem Qng(b g:Nat)(bs xs:List Int)(i n:Int)(hxs:xs=(bs.drop i.toNat).take n.toNat)(hn:0<n)(hi:0≤i)(hl:bs.length≤140737488355328)(hs:i+n≤(bs.length:Int))(hbg:b≤g)(w:World)(hbw:b≤w.heap.size)(hI:IsCur w b g bs i) :
  Calls Tryz.prog 221 #[.pointer (some ⟨g,0,none⟩),.int .i64 n] w fun e w'=>∃v,e=.returned v∧R8 w' w.heap.size v xs∧IsCur w' b g bs (i+n)∧Bw b g w w'∧K8 w w':=by
 have HI:=QA hI;obtain⟨A,c,h0,h1,h2,h3,h4,h5⟩:=hI.cells;clear hI h4;have hu:=Tryz.underlying300;have hb0:decide (n≤0)=false:=decide_eq_false (by omega);have hw1:IntKind.i64.wrap ((bs.length:Int)-i)=(bs.length:Int)-i:=IntWalk.i64_in _ (by omega);have hw2:IntKind.i64.wrap (i+n)=i+n:=IntWalk.i64_in _ (by omega);have hw3:IntKind.i64.wrap (i+n-n)=i:=by rw[show i+n-n=i by omega];exact IntWalk.i64_in _ (by omega)
 have hw4:IntKind.i64.wrap i=i:=IntWalk.i64_in _ (by omega);have hb1:decide ((bs.length:Int)-i<n)=false:=decide_eq_false (by omega)
 go_enter Tryz.func221,Tryz.ntmps221
 go_upto_region 3 with(go_at_call 220;refine(Qnc b g bs i _ HI.out).mono ?_;rintro ee wa ⟨rfl,rfl⟩)
 have q0:=Qcw (Qct (Below.refl _ _)) h0;have q1:=Qcw (Qct (Below.refl _ _)) h1;have q3:wa.drew.frozen? ⟨g,1,none⟩=false:=h3;clear h0 h1 h2 h3;have HI1:=QA (HI.out.kept (Qct (Below.refl _ _)))
 go_region
 go_upto_region 6 with fail
 clear HI1 q0 q1 q3;obtain⟨m1,m2⟩:=HI.out.move hbg (i+n);have M1:=QA (m1.kept (Qct (Below.refl _ _)));have M2:=QA (m2.trans (Bw.below (Qct (Below.refl _ _)) (Nat.le_trans hbw m2.size)));clear m1 m2;obtain⟨W2,hW2⟩:∃W2,W2=(wa.setCell ⟨g,1,none⟩ (.int .i64 (i+n))).drew:=⟨_,rfl⟩;have hk8:Below wa.heap.size (wa.setCell ⟨g,1,none⟩ (.int .i64 (i+n))) W2:=by rw[hW2];exact Qct (Below.refl _ _)
 have HK8:=QA (fun w' (hb:Below W2.heap.size W2 w')=>K8.move HI.out (i+n) (hk8.trans (Qju hb (by have:=hk8.size;simpa [World.setCell]using this))));clear hk8;rw[← hW2]at M1 M2 ⊢;obtain⟨A2,c2,r0,r1,r2,r3,r4,r5⟩:=M1.out.cells;clear hW2 r2 r3;have hmid:(bs.take (i+n).toNat).drop i.toNat=xs:=by rw[hxs,List.drop_take,show(i+n).toNat-i.toNat=n.toNat by omega]
 have hxl:xs.length=n.toNat:=by rw[hxs,List.length_take,List.length_drop];omega
 obtain⟨i0,hii,_,hsz,_⟩:=info_parts Qit;have hcut:=Qff (P:=Tryz.prog) 40 5 .i64 .i64 Tryz.underlying40 hii 1 hsz A2 bs.length c2 i (i+n) hi (by omega) (by omega) r5;have hC:=Kd.C_mid (lo:=i.toNat) (hi:=(i+n).toNat) r4 (by omega) (by omega) r5;rw[hmid]at hC;obtain⟨A3,hA3⟩:∃A3,A3=(if c2=i.toNat then A2 else A2.map (·.add (i.toNat*1))):=⟨_,rfl⟩;obtain⟨c3,hc3⟩:∃c3,c3=c2-i.toNat:=⟨_,rfl⟩;rw[← hA3,← hc3,show(i+n).toNat-i.toNat=xs.length by omega]at hcut;have hC3:Kd.C (Kd.int .u8) W2 A3 xs.length xs:=by rw[hA3];exact hC
 have d:=QA hC3;have hxl2:xs.length≤140737488355328:=by omega
 obtain⟨j,hj⟩:∃j,j=i+n:=⟨_,rfl⟩;have hw5:IntKind.i64.wrap (j-n)=i:=by rw[hj];exact hw3
 rw[← hj]at hcut r1 M1 ⊢;have HJ:=QA hj;clear hj hC hC3 hA3 hmid r4 hc3 r5 hxs hxl;refine Qgf (n:=17) (S:=fun w'=>w'.cell? ⟨g,0,none⟩=some (.slice A2 bs.length c2)∧w'.cell? ⟨g,1,none⟩=some (.int .i64 j)) (ds:=[]) (bm 17 0) qq_4 rfl rfl ⟨(Qcw (Qct (Below.refl _ _)) r0),(Qcw (Qct (Below.refl _ _)) r1)⟩ (fun a=>?_);refine pz_ (i:=0) (N:=some 33) (bm 17 1) qq_4 ?_;refine pz_ (i:=1) (N:=some 34) (bm 17 3) qq_4 ?_;refine pz_ (i:=2) (N:=some 35) (bm 17 7) qq_4 ?_;refine pz_ (i:=4) (N:=some 37) (bm 17 23) qq_4 ?_;refine pz_ (i:=5) (N:=some 38) (bm 17 55) qq_4 ?_;refine pz_ (i:=6) (N:=some 39) (bm 17 119) qq_4 ?_;refine pz_ (i:=8) (N:=some 41) (bm 17 375) qq_4 ?_;refine pz_ (i:=10) (N:=some 43) (bm 17 1399) qq_4 ?_;refine pz_ (i:=11) (N:=some 44) (bm 17 3447) qq_4 ?_;refine pz_ (i:=12) (N:=some 45) (bm 17 7543) qq_4 ?_;refine tz_ (i:=3) (N:=some 36) (bm 17 7551) qq_4 a ?_;refine tz_ (i:=7) (N:=some 40) (bm 17 7679) qq_4 a ?_;refine pz_ (i:=9) (N:=some 42) (bm 17 8191) qq_4 ?_;refine tz_ (i:=13) (N:=some 46) (bm 17 16383) qq_4 a ?_;refine pz_ (i:=14) (N:=some 47) (bm 17 32767) qq_4 ?_;refine one_ (i:=15) (N:=some 48) (bm 17 65535) rfl rfl qq_4 (by decide) (fun K hK=>?_);refine Qgn Tryz.func72 qq_4 rfl #[.slice A3 xs.length c3] (by rfl) rfl rfl (by simp only[List.map_toArray,List.map_cons,List.map_nil];rfl) ?_;with_reducible refine(Qjv A3 c3 xs _ (Kd.C_below d.out (Qct (Below.refl _ _))) hxl2).mono ?_
 rintro ee w3 ⟨v,rfl,hR,hb⟩;refine⟨_,rfl,?_⟩;refine hK.out _ _ ⟨(Qcw hb a.1),(Qcw hb a.2)⟩ (fun a=>?_);clear hK K;refine nzp_ 48 ?_;refine pz_ (i:=16) (N:=some 4) (bm 17 131071) qq_4 ?_;refine Qgj qq_4 ?_;go_wp2;go_ret
 have hb2:Below W2.heap.size W2 w3:=(Qct (Below.refl _ _)).trans hb;exact⟨v,rfl,R8.low hR (show wa.heap.size≤W2.drew.heap.size from M2.out.size),HJ.out ▸ M1.out.kept hb2,M2.out.trans (Bw.below hb2 (Nat.le_trans hbw M2.out.size)),HK8.out _ hb2⟩
theorem Qnh(b g:Nat)(bs xs:List Int)(i n:Int)(hxs:xs=(bs.drop i.toNat).take n.toNat)(hn:0<n)(hi:0≤i)(hl:bs.length≤140737488355328)(hs:i+n≤(bs.length:Int))(hbg:b≤g)(w:World)(hbw:b≤w.heap.size)(hI:IsCur w b g bs i) :
  Calls Tryz.prog 221 #[.pointer (some ⟨g,0,none⟩),.int .i64 n] w fun e w'=>∃v,e=.returned v∧R8 w' w.heap.size v xs∧IsCur w' b g bs (i+n)∧Bw b g w w' :=
 (Qng b g bs xs i n hxs hn hi hl hs hbg w hbw hI).mono (by rintro e w' ⟨v,h1,h2,h3,h4,_⟩;exact⟨v,h1,h2,h3,h4⟩)
end Go.Proofs.YteaocbonofboeaaGreat.C
end
