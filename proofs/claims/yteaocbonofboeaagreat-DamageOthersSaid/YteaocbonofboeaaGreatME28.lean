/- Merged texts. -/
import Derived.Test.YteaocbonofboeaaGreatME02
import Derived.WalkLawsBesides
import Derived.Defers
import Derived.Deep.RegionLaw
import Derived.Test.YteaocbonofboeaaGreatME07
import Derived.Test.YteaocbonofboeaaGreatME18
import Derived.Test.YteaocbonofboeaaGreatME09
import Derived.Test.YteaocbonofboeaaGreatME27
import Derived.Test.YteaocbonofboeaaGreatME24
import Derived.Test.YteaocbonofboeaaGreatME23
import Derived.Test.YteaocbonofboeaaGreatME26
set_option linter.unusedVariables false
set_option linter.unusedSimpArgs false
set_option maxHeartbeats 8000000
set_option maxRecDepth 100000
section
namespace Go.Proofs.YteaocbonofboeaaGreat.C
open Go.RowKit Go.Proofs.YteaocbonofboeaaGreatW.PrintWords Go.Proofs.YteaocbonofboeaaGreatW.PrintLast Go.Proofs.YteaocbonofboeaaGreatW.PrintMore
abbrev SvS:=KS × List Int × Int × Int × Int × List Fd
noncomputable def Qtj(k:Nat)(S:SvS)(x:Int):Option SvS :=
 if x=0 then(Qbr.f k S.2.1).bind fun r=>some (cutN S.1 x,[],S.2.2.1+1,(if r.2.2.2.2=0 then S.2.2.2.1+1 else S.2.2.2.1),(if S.1.2.2.2=S.1.2.2.1 then S.2.2.2.2.1+1 else S.2.2.2.2.1),endO S.2.2.2.2.2 r.2.2.2.2 r.1 r.2.1 r.2.2.1 r.2.2.2.1 S.1.2.1 S.1.2.2.2 S.1.2.2.1)
 else some (cutN S.1 x,(if(cutN S.1 x).2.2.1-(cutN S.1 x).2.2.2=0 then []else S.2.1++[x]),S.2.2.1,S.2.2.2.1,S.2.2.2.2.1,S.2.2.2.2.2)
noncomputable def Qtk(k:Nat):SvS→List Int→Option SvS
 | S,[]=>some S
 | S,x :: l=>(Qtj k S x).bind fun S'=>Qtk k S' l
def svB(S:SvS)(i:Int):Prop:=(0≤S.1.2.2.2∧S.1.2.2.2≤S.1.2.2.1∧S.1.2.2.1≤1000000+i)∧(0≤S.1.2.1∧S.1.2.1<18446744073709551616)∧((S.2.1.length:Int)≤i)∧(0≤S.2.2.1∧S.2.2.1≤1000000+i)∧(0≤S.2.2.2.1∧S.2.2.2.1≤1000000+i)∧(0≤S.2.2.2.2.1∧S.2.2.2.2.1≤1000000+i)∧((S.2.2.2.2.2.length:Int)≤i)
theorem Qtl{K:KS}{x:Int}{m:Int}(h:0≤K.2.2.2∧K.2.2.2≤K.2.2.1∧K.2.2.1≤m)(hs:0≤K.2.1∧K.2.1<18446744073709551616)(hm:0≤m):(0≤(cutN K x).2.2.2∧(cutN K x).2.2.2≤(cutN K x).2.2.1∧(cutN K x).2.2.1≤m+1)∧0≤(cutN K x).2.1∧(cutN K x).2.1<18446744073709551616:=by
 unfold cutN cutF;split
 ·dsimp only;omega
 ·dsimp only;split<;>omega
theorem svOne_B{k:Nat}{S S':SvS}{x i:Int}(h:svB S i)(hi:0≤i)(hs:Qtj k S x=some S'):svB S' (i+1):=by
 obtain⟨K,held,ch,fo,em,out⟩:=S;obtain⟨h1,h2,h3,h4,h5,h6,h7⟩:=h;obtain⟨c1,c2⟩:=Qtl (x:=x) h1 h2 (by omega);unfold Qtj at hs;dsimp only at hs h1 h2 h3 h4 h5 h6 h7 c1 c2;split at hs
 ·obtain⟨r,hr,hs⟩:=Option.bind_eq_some_iff.mp hs;simp only[Option.some.injEq]at hs;subst hs;unfold svB endO;dsimp only;refine⟨by omega,c2,by simp;omega,by omega,?_,?_,?_⟩
  ·split<;>omega
  ·split<;>omega
  ·split
   ·rw[List.length_append];simp only[List.length_singleton];omega
   ·omega
 ·simp only[Option.some.injEq]at hs;subst hs;unfold svB;dsimp only;refine⟨by omega,c2,?_,by omega,by omega,by omega,by omega⟩;split
  ·simp;omega
  ·rw[List.length_append];simp only[List.length_singleton];omega
def SvAt(w W:World)(b kc sb:Nat)(S:SvS)(vo:Value):Prop:=∃vh,SSt w W b kc sb S.1 S.2.1 S.2.2.1 S.2.2.2.1 S.2.2.2.2.1 S.2.2.2.2.2 vh vo
theorem at_Ck{w:World}{A:Option Addr}{n:Nat}{xs:List Ck}(h:Kd.C kCk w A n xs)(i:Int)(h0:0≤i)(h1:i<n):∃ad , A=some ad∧w.cell? (ad.add (i.toNat*3))=some (.int .u64 (xs.getD i.toNat (0,0,0)).1)∧w.cell? ⟨(ad.add (i.toNat*3)).block,(ad.add (i.toNat*3)).off+1,none⟩=some (.int .i64 (xs.getD i.toNat (0,0,0)).2.1)∧w.cell? ⟨(ad.add (i.toNat*3)).block,(ad.add (i.toNat*3)).off+2,none⟩=some (.int .i64 (xs.getD i.toNat (0,0,0)).2.2):=by
 obtain⟨ad,c,e,_,hK,hc0⟩:=Kd.C_get h (0,0,0) i h0 h1;have hc:∀j u,c[j]? = some u→w.cell? (ad.add (i.toNat*3+j))=some u:=hc0;obtain rfl:=Qpr hK;exact⟨ad,e,hc 0 _ rfl,by rw[← Qdm _ _ 1 (by omega)];exact hc 1 _ rfl,by rw[← Qdm _ _ 2 (by omega)];exact hc 2 _ rfl⟩
theorem SSt.rebase{w W:World}{b kc sb:Nat}{K:KS}{held:List Int}{ch fo em:Int}{out:List Fd}{vh vo:Value}(h:SSt w W b kc sb K held ch fo em out vh vo):SSt W W b kc sb K held ch fo em out vh vo:=⟨h.k,h.s,h.h,h.o,Below.refl _ _,h.bk,h.bs⟩
theorem SSt.over{w W W':World}{b kc sb:Nat}{K:KS}{held:List Int}{ch fo em:Int}{out:List Fd}{vh vo:Value}(h:SSt W W' b kc sb K held ch fo em out vh vo)(hb:Below b w W):SSt w W' b kc sb K held ch fo em out vh vo:=⟨h.k,h.s,h.h,h.o,hb.trans h.low,h.bk,h.bs⟩
theorem Qtm (k b kc sb:Nat) (S0 S1:SvS) (A:Option Addr) (c:Nat) (l:List Int) (w:World) (hS:SvAt w w b kc sb S0 (.slice none 0 0)) (hbw:b≤w.heap.size) (hC:∀W,Below b w W→Kd.C (Kd.int .u8) W A l.length l) (hlc:l.length≤c) (hB:svB S0 1000) (hl:l.length≤100000) (h:Qtk k S0 l=some S1) :
  Calls Tryz.prog 25 #[.pointer (some ⟨sb,0,none⟩),.slice A l.length c] w fun e w'=>∃vo,e=.returned vo∧SvAt w w' b kc sb S1 vo:=by
 have hu:=Tryz.underlying144;have HS:=QA hS;have HC:=QA hC;have HB:=QA hB;have HH:=QA h;clear hS hC hB h
 go_enter Tryz.func25,Tryz.ntmps25
 go_wp2_with fail
 go_loopw [5,6,8,11,25] (fun v5 v6 v8 p a wr=>∃(i:Nat) (iv:Int) (S:SvS),p=.int .i64 iv∧i≤l.length∧Aside0 (iv=(i:Int))∧Aside0 (Qtk k S (l.drop i)=some S1)∧Aside0 (svB S (1000+(i:Int)))∧Aside0 (SvAt w wr b kc sb S v5))
  (fun _ _ _ p _ _=>l.length-(intOf p).toNat)
 case atStart=>exact⟨0,0,S0,rfl,Nat.zero_le _,⟨rfl⟩,⟨by rw[List.drop_zero];exact HH.out⟩,⟨HB.out⟩,HS⟩
 case round =>
  clear HS HB HH;obtain⟨i,iv,S,rfl,hi,HI,HA,HB,HSv⟩:=hrel;obtain⟨vh,hSS⟩:=HSv.out
  by_cases hlt:i<l.length
  ·have hge:0≤iv:=by have:=HI.out;omega
   have hl2:iv<(l.length:Int):=by have:=HI.out;omega
   have hwi:IntKind.i64.wrap (iv+1)=iv+1:=IntWalk.i64_in _ (by omega);obtain⟨K,held,ch,fo,em,out⟩:=S;obtain⟨sz,sg,at_,fr⟩:=K;obtain⟨Ah,chh,hvh⟩:=Kd.R_slice hSS.h;subst hvh;obtain⟨Ao,co,hvo⟩:=Kd.R_slice hSS.o;subst hvo;have q:=QA hSS;have hlow:=hSS.low;obtain⟨x,hx⟩:∃x,x=YteaocbonofboeaaGreatW.PrintWords.rd l iv:=⟨_,rfl⟩;have HX:=QA hx;have hdrop:l.drop i=x :: l.drop (i+1):=by
    rw[hx,HI.out,List.drop_eq_getElem_cons hlt];simp[YteaocbonofboeaaGreatW.PrintWords.rd,List.getD_eq_getElem?_getD,List.getElem?_eq_getElem hlt]
   have hmid:(l.take (iv+1).toNat).drop iv.toNat=[x]:=by
    rw[List.drop_take,show iv.toNat=i by have:=HI.out;omega,show(iv+1).toNat-i=1 by have:=HI.out;omega,hdrop];rfl
   have ha:=HA.out;rw[hdrop]at ha;obtain⟨S2,hs2,ha2⟩:=Option.bind_eq_some_iff.mp (show(Qtj k ((sz,sg,at_,fr),held,ch,fo,em,out) x).bind (fun S'=>Qtk k S' (l.drop (i+1)))=some S1 from ha);have r:=QA (svOne_B HB.out (by omega) hs2);have HA2:=QA ha2;have HS2:=QA hs2;obtain⟨i0,hii,_,hsz,_⟩:=info_parts Qit;have hcut:=Qff (P:=Tryz.prog) 40 5 .i64 .i64 Tryz.underlying40 hii 1 hsz A l.length c iv (iv+1) hge (by omega) (by omega) hlc;obtain⟨A3,hA3⟩:∃A3,A3=(if c=iv.toNat then A else A.map (·.add (iv.toNat*1))):=⟨_,rfl⟩;obtain⟨c3,hc3⟩:∃c3,c3=c-iv.toNat:=⟨_,rfl⟩;have HCx:=QA (show ∀W',Below b wr.drew W'→Kd.C (Kd.int .u8) W' A3 [x].length [x] from fun W' hb'=>by
    have hCC:=Kd.C_mid (lo:=iv.toNat) (hi:=(iv+1).toNat) (HC.out W' ((hlow.trans (Qct (Below.refl _ _))).trans hb')) (by omega) (by omega) hlc;rw[hmid]at hCC;rw[hA3];exact hCC)
   rw[← hA3,← hc3,show(iv+1).toNat-iv.toNat=[x].length by simp;omega]at hcut;have hbr:b≤wr.drew.heap.size:=Nat.le_trans hbw hlow.size;obtain⟨⟨c0,c1,c2,m,c4,c5⟩,f1,f2,f3,f4,f5⟩:=hSS.cells;have d0:wr.drew.cell? ⟨sb,0,none⟩=some (.pointer (some ⟨kc,0,none⟩)):=c0;have HK:=QA (show IsK wr.drew kc (sz,sg,at_,fr) from hSS.k);have HBB:=QA HB.out;clear ha ha2 hs2 hdrop hmid hA3 hc3 hii hsz hx hSS HA HSv HB c1 c2 m c4 c5 f1 f2 f3 f4 f5 hlow
   go_upto_region 5 with fail
   go_region_law (first
    |(go_simp;go_at_call 74;refine(Qpt b kc (sz,sg,at_,fr) A3 c3 [x] _ HK.out q.out.bk hbr HCx.out (by simp) (by have:=HBB.out.1;dsimp only at this ⊢;omega) HBB.out.2.1).mono ?_;rintro ee w2 ⟨v2,rfl,h2⟩;obtain⟨A2,c2,hv2⟩:=Kd.R_slice h2.row;subst hv2;have HK2:=QA h2;clear h2))
   all_goals
    have hcs:(cutA (sz,sg,at_,fr) [x]).1=cutO (sz,sg,at_,fr) x:=by simp[cutA]
    have hcn:(cutA (sz,sg,at_,fr) [x]).2=cutN (sz,sg,at_,fr) x:=rfl;have s2:=q.out.below (W':=wr.drew) (Qct (Below.refl _ _)) (Nat.le_trans hbw q.out.low.size);have s3:=s2.cut HK2.out.k HK2.out.kt HK2.out.low;rw[hcn]at s3;have HS3:=QA s3;have hb3:b≤w2.heap.size:=Nat.le_trans hbr HK2.out.low.size;clear s2 s3 hcn d0 hcut hb3
    by_cases d:x=0
    ·subst d;have hA3:=HS2.out;unfold Qtj at hA3;rw[if_pos rfl]at hA3;obtain⟨⟨rd,rq,rk,rv,re⟩,hgr,hA4⟩:=Option.bind_eq_some_iff.mp hA3;have HA4:=QA (Option.some.inj hA4);have hn:cutO (sz,sg,at_,fr) 0=[(sg,fr,at_)]:=rfl;have hrow:=HK2.out.row;rw[hcs,hn]at hrow;have HGR:=QA (show Qbr.f k held=some (rd,rq,rk,rv,re) from hgr);rw[hcs,hn];clear hcs hn hA3 hA4 hgr;obtain⟨ad,hAd,g⟩:=Kd.at_int (HC.out w2 HS3.out.low) iv hge hl2;rw[← HX.out]at g;subst hAd;have hkb:=(Qtl (x:=0) HBB.out.1 HBB.out.2.1 (by omega)).1;have hop:(cutN (sz,sg,at_,fr) 0).2.2.1-(cutN (sz,sg,at_,fr) 0).2.2.2=0:=by
      unfold cutN cutF;split
      ·rfl
      ·simp
     obtain⟨Kn,hKn⟩:∃Kn,Kn=cutN (sz,sg,at_,fr) 0:=⟨_,rfl⟩;dsimp only at hkb;rw[← hKn]at hkb HS3 HA4 hop;have n:=QA (show 0≤Kn.2.2.2∧Kn.2.2.2≤Kn.2.2.1∧Kn.2.2.1≤1000000000000 from⟨hkb.1,hkb.2.1,by omega⟩);have HROW:=QA hrow;have HOP:=QA hop;have hob:(Kn.2.2.1-Kn.2.2.2 == 0)=true:=beq_iff_eq.2 hop;have HS2K:=QA (show S2.1=Kn∧S2.2.1=[]by rw[← HA4.out];exact⟨rfl,rfl⟩);have HAT:=QA HBB.out;clear hkb hKn hrow hop hob g
     go_wp2_with fail
     go_loopw [5,8,25] (fun v5 v8 a wi=>∃(j:Nat) (jv:Int) (S':SvS),a=.int .i64 jv∧Aside0 (jv=(j:Int))∧Aside0 ((j=0∧S'=(Kn,held,ch,fo,em,out)∧wi=w2∧v5=.slice Ao out.length co)∨(j=1∧S'=S2))∧Aside0 (SvAt w wi b kc sb S' v5))
      (fun _ _ a _=>1-(intOf a).toNat)
     case atStart=>exact⟨0,0,_,rfl,⟨rfl⟩,⟨.inl ⟨rfl,rfl,rfl,rfl⟩⟩,⟨_,HS3.out⟩⟩
     case round =>
      obtain⟨j,jv,S',rfl,HJ,HCASE,HSi⟩:=hrel
      rcases HCASE.out with⟨hj,hS',hwi2,hv5⟩ |⟨hj,hS'⟩
      ·subst hS' hwi2 hv5;clear HCASE HSi;have hgej:0≤jv:=by have:=HJ.out;omega
       have hltj:jv<1:=by have:=HJ.out;omega
       have hwj:IntKind.i64.wrap (jv+1)=jv+1:=IntWalk.i64_in _ (by omega);obtain⟨adk,hAk,k0,k1,k2⟩:=at_Ck (Kd.R_reads' HROW.out).2.2 jv hgej qq_30;have hgd:[(sg,fr,at_)].getD jv.toNat (0,0,0)=(sg,fr,at_):=by
        rw[show jv.toNat=0 by have:=HJ.out;omega];rfl
       rw[hgd]at k0 k1 k2;subst hAk;have HJ1:=QA (show jv=0 by have:=HJ.out;omega);have kn:=Qeh wr (.cells #[.int .u64 sg,.int .i64 fr,.int .i64 at_] 147 (0,0));have n0:=(Qdr kn 0).trans (rfl:_=some (Value.int .u64 sg));have n1:=(Qdr kn 1).trans (rfl:_=some (Value.int .i64 fr));have n2:=(Qdr kn 2).trans (rfl:_=some (Value.int .i64 at_));have HEND:=QA (sv_end k b kc sb chh Kn held ch fo em sg fr at_ out Ah (.slice Ao out.length co) rd rq rk rv re _ (HS3.out.below (W':=wr.alloc (.cells #[.int .u64 sg,.int .i64 fr,.int .i64 at_] 147 (0,0))) (Qcs (Below.refl _ _) _) (Nat.le_trans hbw HS3.out.low.size)).rebase (by rw[World.size_alloc];exact Nat.le_succ_of_le (Nat.le_trans hbw HS3.out.low.size)) HGR.out (by have:=HAT.out;dsimp only[svB]at this;omega) (by have:=HAT.out.1;dsimp only at this;omega) (by have:=HAT.out.2.2.2.2.2.2;dsimp only at this;omega));clear hgd kn hj
       go_wp2_with (go_at_call 75;refine HEND.out.mono ?_;rintro ee w5 ⟨vo5,vh5,rfl,h5⟩;have HS5:=QA (h5.over (HS3.out.low.trans (Qju (Qcs (Below.refl _ _) _) (Nat.le_trans hbw HS3.out.low.size))));clear h5)
       go_roundw
       case rel=>exact⟨1,jv+1,S2,rfl,⟨by have:=HJ1.out;omega⟩,⟨.inr ⟨rfl,rfl⟩⟩,⟨_,by rw[← HA4.out];exact HS5.out⟩⟩
       case measure=>have:=HJ1.out;simp[intOf];omega
      ·have hS2:=hS';subst hS2;obtain⟨vhi,hsi⟩:=HSi.out;obtain⟨Ai,ci,hvi⟩:=Kd.R_slice hsi.h;subst hvi;have hltj:¬jv<1:=by have:=HJ.out;omega
       have hltd:decide (jv<1)=false:=decide_eq_false hltj;obtain⟨ad',hAd',g⟩:=Kd.at_int (HC.out wr hsi.low) iv hge hl2
       cases hAd'
       rw[← HX.out]at g;obtain⟨⟨c0,c1,c2,m,c4,c5⟩,f1,f2,f3,f4,f5⟩:=hsi.cells;have HSI:=QA hsi;have hob:(S'.1.2.2.1-S'.1.2.2.2 == 0)=true:=by rw[HS2K.out.1];exact beq_iff_eq.2 HOP.out
       clear HCASE HSi hsi hj hltj c1 c2 m c4 c5 f1 f2 f3 f4 f5
       go_wp2_with (first
        |(go_at_call 78;refine(Qtg b kc sb ci _ S'.2.1 _ _ _ _ Ai _ w _ HS6.out).2.mono ?_;rintro ee w7 ⟨rfl,h7⟩;have HS7:=QA h7;clear h7)
        |(go_at_call 77;refine(Qti kc _ _ HSI.out.k (by rw[HS2K.out.1];exact n.out)).mono ?_;rintro ee w6 ⟨rfl,hb6⟩;have HS6:=QA (HSI.out.below hb6 (Nat.le_trans hbw HSI.out.low.size));clear hb6))
       go_roundw
       case rel =>
        refine⟨i+1,iv+1,S',rfl,hlt,⟨by have:=HI.out;omega⟩,HA2,⟨by have:=r.out;rw[show(1000:Int)+((i+1:Nat):Int)=1000+(i:Int)+1 by omega];exact this⟩,⟨.slice Ai 0 ci,?_⟩⟩;rw[HS2K.out.2];exact HS7.out
       case measure=>have:=HI.out;simp[intOf];omega
    ·have hn:cutO (sz,sg,at_,fr) x=[]:=by unfold cutO;rw[if_neg d]
     have hxb:(x != 0)=true:=bne_iff_ne.2 d;have HX0:=QA d;have hA3:=HS2.out;unfold Qtj at hA3;rw[if_neg d]at hA3;have hA4:=Option.some.inj hA3;have HA4:=QA hA4;rw[hcs,hn];clear hcs hn d hA3 hA4;obtain⟨ad,hAd,g⟩:=Kd.at_int (HC.out w2 HS3.out.low) iv hge hl2;rw[← HX.out]at g;subst hAd;have hkb:=(Qtl (x:=x) HBB.out.1 HBB.out.2.1 (by omega)).1;obtain⟨Kn,hKn⟩:∃Kn,Kn=cutN (sz,sg,at_,fr) x:=⟨_,rfl⟩;dsimp only at hkb;rw[← hKn]at hkb HS3 HA4;have n:=QA (show 0≤Kn.2.2.2∧Kn.2.2.2≤Kn.2.2.1∧Kn.2.2.1≤1000000000000 from⟨hkb.1,hkb.2.1,by omega⟩);have HLH:=QA (show held.length<1060000 by have:=HBB.out.2.2.1;dsimp only at this;omega);clear hkb hKn
     go_wp2_with fail
     go_loopw [5,8,25] (fun v5 v8 a wi=>v5=.slice Ao out.length co∧a=.int .i64 0∧wi=w2)
      (fun _ _ _ _=>0)
     case atStart=>exact⟨rfl,rfl,rfl⟩
     case round =>
      obtain⟨rfl,rfl,rfl⟩:=hrel;obtain⟨⟨c0,c1,c2,m,c4,c5⟩,f1,f2,f3,f4,f5⟩:=HS3.out.cells;obtain⟨oo,hoo⟩:∃oo,oo=Kn.2.2.1-Kn.2.2.2:=⟨_,rfl⟩
      by_cases ho:Kn.2.2.1-Kn.2.2.2=0
      ·have hob:(Kn.2.2.1-Kn.2.2.2 == 0)=true:=beq_iff_eq.2 ho
       go_wp2_with (first
        |(go_at_call 78;obtain⟨A7,c7,hv7⟩:=Kd.R_slice HS6.out.h;refine(Qtg b kc sb c7 _ (held++[x]) _ _ _ _ A7 _ w _ (by rw[← hv7];exact HS6.out)).2.mono ?_;rintro ee w7 ⟨rfl,h7⟩;have HS7:=QA h7;clear h7 hv7)
        |(go_at_call 77;refine(Qti kc _ _ HS5.out.k (by have:=n.out;exact this)).mono ?_;rintro ee w6 ⟨rfl,hb6⟩;have HS6:=QA (HS5.out.below hb6 (Nat.le_trans hbw HS5.out.low.size));clear hb6)
        |(go_at_call 76;refine(Qth b kc sb chh Kn held ch fo em x out Ah _ w _ HS3.out (Nat.le_trans hbw HS3.out.low.size) HLH.out).mono ?_;rintro ee w5 ⟨s,rfl,h5⟩;have HS5:=QA h5;clear h5;obtain⟨⟨q0,_,_,_,_,_⟩,_⟩:=HS5.out.cells))
       go_roundw
       case rel =>
        refine⟨i+1,iv+1,S2,rfl,hlt,⟨by have:=HI.out;omega⟩,HA2,⟨by have:=r.out;rw[show(1000:Int)+((i+1:Nat):Int)=1000+(i:Int)+1 by omega];exact this⟩,⟨?_⟩⟩;rw[← HA4.out];refine⟨.slice A7 0 c7,?_⟩;(try dsimp only);rw[if_pos ho];exact HS7.out
       case measure=>have:=HI.out;simp[intOf];omega
      ·have hob:(Kn.2.2.1-Kn.2.2.2 == 0)=false:=beq_eq_false_iff_ne.2 ho
       go_wp2_with (first
        |(go_at_call 77;refine(Qti kc _ _ HS5.out.k (by have:=n.out;exact this)).mono ?_;rintro ee w6 ⟨rfl,hb6⟩;have HS6:=QA (HS5.out.below hb6 (Nat.le_trans hbw HS5.out.low.size));clear hb6)
        |(go_at_call 76;refine(Qth b kc sb chh Kn held ch fo em x out Ah _ w _ HS3.out (Nat.le_trans hbw HS3.out.low.size) HLH.out).mono ?_;rintro ee w5 ⟨s,rfl,h5⟩;have HS5:=QA h5;clear h5;obtain⟨⟨q0,_,_,_,_,_⟩,_⟩:=HS5.out.cells))
       go_roundw
       case rel =>
        refine⟨i+1,iv+1,S2,rfl,hlt,⟨by have:=HI.out;omega⟩,HA2,⟨by have:=r.out;rw[show(1000:Int)+((i+1:Nat):Int)=1000+(i:Int)+1 by omega];exact this⟩,⟨?_⟩⟩;rw[← HA4.out];refine⟨s,?_⟩;(try dsimp only);rw[if_neg ho];exact HS6.out
       case measure=>have:=HI.out;simp[intOf];omega
  ·obtain rfl:i=l.length:=by omega
   have e1:iv=_:=HI.out;subst e1;have ha:=HA.out;rw[List.drop_of_length_le (Nat.le_refl _)]at ha;have e2:S=S1:=Option.some.inj ha;subst e2;clear ha;go_wp2;go_ret
   exact⟨_,rfl,HSv.out⟩
end Go.Proofs.YteaocbonofboeaaGreat.C
end
section
namespace Go.Proofs.YteaocbonofboeaaGreat.C
open Go.RowKit Go.Proofs.YteaocbonofboeaaGreatW.PrintWords Go.Proofs.YteaocbonofboeaaGreatW.PrintLast Go.Proofs.YteaocbonofboeaaGreatW.PrintMore
attribute [local go_sem] Qie Qif Qig Qih
def Qtn(a0:Int):SvS:=((if 1<a0 then a0 else 1,0,0,0),[],0,0,0,[])
noncomputable def Qcm.f(k:Nat)(a0:Int)(l1:List Int):Option (List Fd):=if l1.length≤100000 then(Qtk k (Qtn a0) l1).bind fun S=>some S.2.2.2.2.2 else none
theorem cut_New(a0:Int)(w:World) :
  Calls Tryz.prog 73 #[.int .i64 a0] w fun e w'=>e=.returned (.pointer (some ⟨w.heap.size,0,none⟩))∧IsK w' w.heap.size (if 1<a0 then a0 else 1,0,0,0)∧Below w.heap.size w w':=by
 have hu:=Tryz.underlying207;obtain⟨m,hm⟩:∃m,m=(if 1<a0 then a0 else 1):=⟨_,rfl⟩;rw[← hm];have hm2:=hm.symm;clear hm
 go_enter Tryz.func73,Tryz.ntmps73
 go_wp2;go_ret
 exact⟨rfl,Qeh w _,Qcs (Below.refl _ _) _⟩
theorem sv_New(a0:Int)(w:World) :
  Calls Tryz.prog 24 #[.int .i64 a0] w fun e w'=>∃sb,e=.returned (.pointer (some ⟨sb,0,none⟩))∧SvAt w w' w.heap.size w.heap.size sb (Qtn a0) (.slice none 0 0):=by
 have hu:=Tryz.underlying144
 go_enter Tryz.func24,Tryz.ntmps24
 go_wp2_with (go_at_call 73;refine(cut_New a0 _).mono ?_;rintro ee w1 ⟨rfl,hK,hb1⟩;have HK:=QA hK;have HB1:=QA hb1;clear hK hb1)
 go_ret
 have hb2:Below w1.heap.size w1 (w1.alloc (.cells (Qtf w.heap.size (.slice none 0 0) 0 0 0) 144 (0,0))):=Qcs (Below.refl _ _) _;exact⟨w1.heap.size,rfl,.slice none 0 0,Qeg HK.out hb2,Qeh w1 _,Kd.R_nil _ _ _ _ _,Kd.R_nil _ _ _ _ _,HB1.out.trans (Qju hb2 HB1.out.size),Nat.le_refl _,HB1.out.size⟩
theorem Qcm.calls(k:Nat)(a0:Int)(A1:Option Addr)(c1:Nat)(l1:List Int)(r:List Fd)(w:World)(hr1:Kd.C (Kd.int .u8) w A1 l1.length l1)(hc1:l1.length≤c1)(h:Qcm.f k a0 l1=some r) :
  Calls Tryz.prog 34 #[.int .i64 a0,.slice A1 l1.length c1] w fun e w'=>∃v0_:Value,e=.returned (v0_)∧Kd.R k74 74 w' w.heap.size (fun _=>True) v0_ r∧Below w.heap.size w w':=by
 unfold Qcm.f at h
 by_cases hl:l1.length≤100000
 ·rw[if_pos hl]at h;obtain⟨S,hS,hr⟩:=Option.bind_eq_some_iff.mp h;have hr':=Option.some.inj hr;have HR:=QA hr';have HS:=QA hS;have HC:=QA hr1;have hB:svB (Qtn a0) 1000:=by
   unfold svB Qtn;dsimp only;refine⟨by omega,by omega,by simp,by omega,by omega,by omega,by simp⟩
  clear h hS hr hr' hr1
  go_enter Tryz.func34,Tryz.ntmps34
  go_wp2_with (first
   |(go_at_call 25;obtain⟨vh,hs⟩:=HN.out;refine(Qtm k w.heap.size w.heap.size sb (Qtn a0) S A1 c1 l1 _ ⟨vh,hs.rebase⟩ hs.low.size (fun W hW=>Kd.C_below HC.out (hs.low.trans hW)) hc1 hB hl HS.out).mono ?_;rintro ee w2 ⟨vo,rfl,vh2,h2⟩;have HW:=QA (h2.over hs.low);clear h2 hs)
   |(go_at_call 24;refine(sv_New a0 _).mono ?_;rintro ee w1 ⟨sb,rfl,hN⟩;have HN:=QA hN;clear hN))
  go_ret
  rw[← HR.out];exact⟨_,rfl,HW.out.o,HW.out.low⟩
 ·rw[if_neg hl]at h;cases h
end Go.Proofs.YteaocbonofboeaaGreat.C
end
section
namespace Go.Proofs.YteaocbonofboeaaGreat.CodecP
open Go.RowKit Go.Proofs.YteaocbonofboeaaGreat.C Go.Proofs.YteaocbonofboeaaGreatW.PrintWords Go.Proofs.YteaocbonofboeaaGreatW.PrintLast Go.Proofs.YteaocbonofboeaaGreatW.PrintMore
theorem Qxf(j:Nat)(x b:Int)(hj:j≤9)(d:0≤x)(hx:x<128^j)(hb0:0≤b)(hb:b<256)(h9:j=9→b≤1) :
  Go.bits .or .u64 x (shl .u64 (IntKind.u64.wrap (Go.bits .andNot .u8 b 128)) (7*(j:Int)))=x+128^j*(b%128):=by
 have e0:Go.bits .andNot .u8 b 128=b%128:=by
  have h:∀n:Fin 256,Go.bits .andNot .u8 ((n.val:Nat):Int) 128=((n.val:Nat):Int)%128:=by decide +kernel
  obtain⟨n,rfl⟩:=Int.eq_ofNat_of_zero_le hb0;exact h ⟨n,by omega⟩
 have hc:b%128<128∧0≤b%128∧(j=9→b%128≤1):=⟨by omega,by omega,fun h=>by have:=h9 h;omega⟩;rw[e0,IntWalk.u64_in _ (by omega)];generalize b%128=c at hc ⊢;obtain⟨hc1,hc0,hc9⟩:=hc;obtain⟨a,rfl⟩:=Int.eq_ofNat_of_zero_le d;obtain⟨c,rfl⟩:=Int.eq_ofNat_of_zero_le hc0;have hp:(128:Nat)^j=2^(7*j):=by rw[Nat.pow_mul]
 have ha:a<2^(7*j):=by
  rw[← hp]
  exact_mod_cast hx
 have hbig:c*2^(7*j)<2^64:=by
  by_cases h:j=9
  ·subst h;have:=hc9 rfl;have e:(2:Nat)^(7*9)=9223372036854775808:=by decide
   rw[e];omega
  ·have h1:c*2^(7*j)<2^7*2^(7*j):=Nat.mul_lt_mul_of_pos_right (by omega) (Nat.two_pow_pos _);have h2:(2:Nat)^7*2^(7*j)≤2^64:=by rw[← Nat.pow_add];exact Nat.pow_le_pow_right (by omega) (by omega)
   omega
 have ha2:a<2^64:=by
  have h2:(2:Nat)^(7*j)≤2^64:=Nat.pow_le_pow_right (by omega) (by omega);omega
 rw[show(7*(j:Int))=((7*j:Nat):Int)by push_cast;rfl];unfold shl;rw[show min ((7*j:Nat):Int).toNat IntKind.u64.bits=7*j by simp[IntKind.bits];omega,IntKind.wrap_u64];have e1:((c:Int)*2^(7*j))%18446744073709551616=((2^(7*j)*c:Nat):Int):=by
  have e2:((c:Int)*2^(7*j))=((c*2^(7*j):Nat):Int):=by push_cast;rfl
  rw[e2,Nat.mul_comm (2^(7*j)) c];omega
 rw[e1,bits_or_u64_nat _ _ (by omega) (by rw[Nat.mul_comm];omega),Nat.or_comm,← Nat.two_pow_add_eq_or_of_lt ha];have e3:((128:Int)^j*(c:Int))=((128^j*c:Nat):Int):=by push_cast;rfl
 rw[e3,hp];omega
theorem Qxg{bs:List Int}{i:Nat}(h:i<bs.length):bs.drop i=rd bs (i:Int) :: bs.drop (i+1):=by rw[rd_get h];exact List.drop_eq_getElem_cons h
theorem Qxh{bs:List Int}{i:Nat}{c:Int}{t:List Int}(h:bs.drop i=c :: t):i<bs.length∧rd bs (i:Int)=c∧bs.drop (i+1)=t:=by
 have hi:i<bs.length:=by
  rcases Nat.lt_or_ge i bs.length with h1|h1
  ·exact h1
  ·rw[List.drop_eq_nil_of_le h1]at h;cases h
 rw[Qxg hi]at h
 cases h
 exact⟨hi,rfl,rfl⟩
theorem p128(j:Nat)(h:j≤8):(128:Int)^j≤72057594037927936:=by
 have k:∀j:Fin 9,(128:Int)^j.val≤72057594037927936:=by decide +kernel
 exact k ⟨j,by omega⟩
theorem Qxi(j:Nat):0<(128:Int)^j:=Int.pow_pos (by decide)
theorem Qxj(bs:List Int)(hb:Bytes bs):∀(n j i:Nat) (x r i1:Int),n+j=9→0≤x→x<128^j→Qsl bs (n+1) (j:Int) (i:Int) x=.ok (r,i1) →
  ∃y:Int,0≤y∧(0<j→y≠0)∧r=x+128^j*y∧r<18446744073709551616∧i1=((i+(vput n y).length:Nat):Int)∧bs.drop i=vput n y++bs.drop (i+(vput n y).length)
 | n, j,i,x,r,i1,hnj,hx0,hx1,h=>by
  have hpos:=Qxi j;unfold Qsl at h
  by_cases hi:(i:Int)<(bs.length:Int)
  ·rw [if_pos hi]at h;have hd:=rd_range hb (show i<bs.length by omega);have hdrop:=Qxg (show i<bs.length by omega)
   by_cases c1:(j:Int)=9∧1<rd bs (i:Int)
   ·rw[if_pos c1]at h;cases h
   ·rw [if_neg c1]at h;have h9:j=9→rd bs (i:Int)≤1:=fun hj=>by omega
    rw[Qxf j x (rd bs (i:Int)) (by omega) hx0 hx1 hd.1 hd.2 h9]at h;generalize rd bs (i:Int)=b at *;have hm:(128:Int)^j*(b%128)≤128^j*127:=Int.mul_le_mul_of_nonneg_left (by omega) (by omega);have hm0:0≤(128:Int)^j*(b%128):=Int.mul_nonneg (by omega) (by omega)
    by_cases c2:128≤b
    ·rw[if_pos c2]at h
     cases n with
     | zero=>have:=h9 (by omega);omega
     | succ n =>
      have h':Qsl bs (n+1) ((j+1:Nat):Int) ((i+1:Nat):Int) (x+128^j*(b%128))=.ok (r,i1):=by push_cast;exact h
      have hp:(128:Int)^(j+1)=128^j*128:=Int.pow_succ ..;obtain⟨y,a,hyn,hr,hr1,hi1,hdr⟩:=Qxj bs hb n (j+1) (i+1) _ r i1 (by omega) (by omega) (by rw[hp];omega) h';have hy:=hyn (by omega);have hv:vput (n+1) (b%128+128*y)=b :: vput n y:=by
       rw[vput,if_neg (by omega),show(b%128+128*y)%128+128=b by omega,show(b%128+128*y)/128=y by omega]
      refine⟨b%128+128*y,by omega,fun _=>by omega,?_,hr1,?_,?_⟩
      ·rw[hr,hp,Int.mul_add,← Int.mul_assoc];omega
      ·rw[hv,hi1,List.length_cons];congr 1;omega
      ·rw[hv,hdrop,hdr,List.length_cons,List.cons_append,show i+1+(vput n y).length=i+((vput n y).length+1)by omega]
    ·rw[if_neg c2]at h
     by_cases c3:b=0∧(0:Int)<(j:Int)
     ·rw[if_pos c3]at h;cases h
     ·rw[if_neg c3]at h
      cases h
      have e:b%128=b:=by omega
      have hv:vput n b=[b]:=by
       cases n with
       | zero=>rfl
       | succ n=>rw[vput,if_pos (by omega)]
      refine⟨b,hd.1,fun hj hb0=>c3 ⟨hb0,by omega⟩,by rw[e],?_,by rw[hv];rfl,by rw[hv,hdrop];rfl⟩
      by_cases hj:j=9
      ·subst hj;have:=h9 rfl;have e9:(128:Int)^9=9223372036854775808:=by decide
       rw[e,e9];rw[e9]at hx1;omega
      ·have:=p128 j (by omega);omega
  ·rw[if_neg hi]at h;cases h
theorem Qxk(bs:List Int)(hb:Bytes bs):∀(n j i:Nat) (x y:Int) (t:List Int),n+j=9→0≤x→x<128^j→0≤y→(0<j→y≠0)→x+128^j*y<18446744073709551616→bs.drop i=vput n y++t →
  Qsl bs (n+1) (j:Int) (i:Int) x=.ok (x+128^j*y,((i+(vput n y).length:Nat):Int))
 | n,j,i,x,y,t,hnj,hx0,hx1,hy0,hyn,hlt,h=>by
  have hpos:=Qxi j;have h9:j=9→y≤1:=fun hj=>by
   subst hj;have e9:(128:Int)^9=9223372036854775808:=by decide
   rw[e9]at hlt;omega
  by_cases hs:y<128
  ·have hv:vput n y=[y]:=by
    cases n with
    | zero=>rfl
    | succ n=>rw[vput,if_pos hs]
   rw[hv]at h ⊢;obtain⟨hi,hr,_⟩:=Qxh h;unfold Qsl;rw[if_pos (by omega),hr,if_neg (fun c=>by have:=h9 (by omega);omega),if_neg (by omega),if_neg (fun c=>hyn (by omega) c.1),Qxf j x y (by omega) hx0 hx1 hy0 (by omega) h9,show y%128=y by omega];rfl
  ·cases n with
   | zero=>have:=h9 (by omega);omega
   | succ n =>
    have hv:vput (n+1) y=(y%128+128) :: vput n (y/128):=by rw[vput,if_neg hs]
    rw[hv]at h ⊢;obtain⟨hi,hr,ht⟩:=Qxh h;have hp:(128:Int)^(j+1)=128^j*128:=Int.pow_succ ..;have hm:(128:Int)^j*(y%128)≤128^j*127:=Int.mul_le_mul_of_nonneg_left (by omega) (by omega);have hm0:0≤(128:Int)^j*(y%128):=Int.mul_nonneg (by omega) (by omega);have hsplit:x+128^j*(y%128)+128^(j+1)*(y/128)=x+128^j*y:=by
     have e:y=y%128+128*(y/128):=by omega
     have e2:(128:Int)^j*y=128^j*(y%128)+128^j*(128*(y/128)):=by rw[← Int.mul_add,← e]
     rw[e2,hp,Int.mul_assoc];omega
    have ih:=Qxk bs hb n (j+1) (i+1) (x+128^j*(y%128)) (y/128) t (by omega) (by omega) (by rw[hp];omega) (by omega) (fun _=>by omega) (by rw[hsplit];exact hlt) ht;unfold Qsl;rw[if_pos (by omega),hr,if_neg (fun c=>by omega),if_pos (by omega),Qxf j x (y%128+128) (by omega) hx0 hx1 (by omega) (by omega) (fun hj=>by omega),show(y%128+128)%128=y%128 by omega];rw[hsplit]at ih
    push_cast at ih
    rw[ih,List.length_cons]
    congr 2
    push_cast
    omega
theorem Qxl{bs:List Int}(hb:Bytes bs){i:Nat}{n i1:Int}(h:Qsl bs 10 0 (i:Int) 0=.ok (n,i1)):∃m:Nat,i1=(m:Int)∧0≤n∧n<18446744073709551616∧bs.drop i=vput 9 n++bs.drop m∧m=i+(vput 9 n).length:=by
 obtain⟨y,h0,_,h2,h3,h4,h5⟩:=Qxj bs hb 9 0 i 0 n i1 rfl (Int.le_refl _) (by decide) h;obtain rfl:n=y:=by rw[h2];simp
 exact⟨_,h4,h0,h3,h5,rfl⟩
theorem Qxm{bs:List Int}(hb:Bytes bs){i:Nat}{n:Int}{t:List Int}(h0:0≤n)(h1:n<18446744073709551616)(h:bs.drop i=vput 9 n++t):Qsl bs 10 0 (i:Int) 0=.ok (n,((i+(vput 9 n).length:Nat):Int)):=by
 have:=Qxk bs hb 9 0 i 0 n t rfl (Int.le_refl _) (by decide) h0 (fun h=>by omega) (by simpa using h1) h
 simpa using this
theorem Qxn{bs:List Int}(hb:Bytes bs){i:Nat}{least most i2:Int}{xs:List Int}(hl:0≤least)(h:Qso bs least most (i:Int)=.ok (xs,i2)) :
  ∃m:Nat,i2=(m:Int)∧least≤(xs.length:Int)∧(xs.length:Int)≤most∧bs.drop i=vput 9 (xs.length:Int)++(xs++bs.drop m)∧Bytes xs:=by
 unfold Qso at h
 cases hv:Qsl bs 10 0 (i:Int) 0 with
 | error p=>rw[hv]at h;cases h
 | ok p =>
  obtain⟨n,i1⟩:=p;obtain⟨m,rfl,h0,h1,hd,hm⟩:=Qxl hb hv;rw[hv]at h;dsimp only at h;split at h
  ·cases h
  ·rename_i c1;split at h
   ·cases h
   ·rename_i c2;split at h
    ·rename_i c3
     cases h
     have hlen:((bs.drop ((m:Int)).toNat).take n.toNat).length=n.toNat:=by rw[List.length_take,List.length_drop];omega
     refine⟨m+n.toNat,by omega,by rw[hlen];omega,by rw[hlen];omega,?_,(hb.drop _).take _⟩;rw[hlen,hd,show((n.toNat:Nat):Int)=n by omega,Int.toNat_natCast,← List.drop_drop,List.take_append_drop]
    ·cases h
theorem Qxo:∀(n:Nat) (x:Int),0<(vput n x).length
 | 0,_=>by simp[vput]
 | n+1,x=>by
  unfold vput;split<;>simp
theorem Qxp{bs:List Int}(hb:Bytes bs){i:Nat}{least most:Int}{xs t:List Int}(h0:least≤(xs.length:Int))(h1:(xs.length:Int)≤most)(hm:most<18446744073709551616)(h:bs.drop i=vput 9 (xs.length:Int)++(xs++t)) :
  Qso bs least most (i:Int)=.ok (xs,((i+(vput 9 (xs.length:Int)).length+xs.length:Nat):Int)):=by
 have hv:=Qxm hb (Int.natCast_nonneg _) (by omega) h;have hd:bs.drop (i+(vput 9 (xs.length:Int)).length)=xs++t:=by rw[← List.drop_drop,h,List.drop_left]
 have hlen:i+(vput 9 (xs.length:Int)).length+xs.length≤bs.length∨xs=[]:=by
  have:=congrArg List.length hd;rw[List.length_drop,List.length_append]at this
  rcases xs with _ |⟨x,xs⟩
  ·exact Or.inr rfl
  ·exact Or.inl (by simp only[List.length_cons]at this ⊢;omega)
 have hle:i+(vput 9 (xs.length:Int)).length≤bs.length:=by
  have:=congrArg List.length h;rw[List.length_drop,List.length_append]at this;have hne:=Qxo 9 (xs.length:Int);omega
 unfold Qso;rw[hv];dsimp only;have hle2:i+(vput 9 (xs.length:Int)).length+xs.length≤bs.length:=by
  rcases hlen with h|h
  ·exact h
  ·rw[h]at hle ⊢;simpa using hle
 rw[if_neg (by omega),if_neg (by omega),if_pos (by push_cast;omega),Int.toNat_natCast,Int.toNat_natCast,hd,List.take_left]
 congr 1
theorem Qxq {bs:List Int} (hb:Bytes bs) {d:Bool} {q i:Int} {a b:ByteArray} (h:recL bs=.ok ((d,q,a,b),i)):bs=Qlm d q a b∧chk d a b=0∧0≤q∧q<18446744073709551616:=by
 unfold recL at h
 by_cases h0:(0:Int)<(bs.length:Int)
 ·rw [if_pos h0]at h;have hdrop:bs=rd bs 0 :: bs.drop 1:=Qxg (i:=0) (by omega);have hnum:∀ {xs:List Int},Bytes xs→(strOfNums xs).size=xs.length:=fun hx=>by rw[Qqw,bytesOf_nums hx]
  generalize hr:rd bs 0=k at *
  by_cases hk:k≠2∧k≠3
  ·rw[if_pos hk]at h;cases h
  ·rw [if_neg hk]at h
   cases hv:Qsl bs 10 0 (0+1) 0 with
   | error p=>rw[hv]at h;cases h
   | ok p =>
    obtain⟨q',i2⟩:=p;obtain⟨m2,rfl,hq0,hq1,hd2,_⟩:=Qxl (i:=1) hb hv;rw[hv]at h;dsimp only at h
    cases ht:Qso bs 1 4096 (m2:Int)with
    | error p=>rw[ht]at h;cases h
    | ok p =>
     obtain⟨xs,i3⟩:=p;obtain⟨m3,rfl,c,g,hd3,hbx⟩:=Qxn hb (by decide) ht;rw[ht]at h;dsimp only at h;have hsx:=hnum hbx;have hkey:¬(strOfNums xs).toList=([]:List UInt8):=fun e=>by
      have:=(Qua _).1 e;omega
     by_cases hk3:k=3
     ·rw[if_pos hk3]at h
      by_cases hend:(0:Int)<(bs.length:Int)-(m3:Int)
      ·rw[if_pos hend]at h;cases h
      ·rw[if_neg hend]at h
       cases h
       refine⟨?_,?_,hq0,hq1⟩
       ·unfold Qlm;rw[if_pos rfl,if_pos rfl,hsx,bytesOf_nums hbx]
        conv=>lhs;rw[hdrop,hd2,hd3,List.drop_eq_nil_of_le (show bs.length≤m3 by omega),hk3]
        simp
       ·unfold chk;rw[if_neg hkey,if_neg (by rw[hsx];omega),(Qua (⟨#[]⟩:ByteArray)).2 rfl,if_neg (by decide),if_neg (by decide)]
     ·rw [if_neg hk3]at h;obtain rfl:k=2:=by omega
      cases hu:Qso bs 0 1048576 (m3:Int)with
      | error p=>rw[hu]at h;cases h
      | ok p =>
       obtain⟨ys,i4⟩:=p;obtain⟨m4,rfl,j,l,hd4,hby⟩:=Qxn hb (by decide) hu;rw[hu]at h;dsimp only at h;have hsy:=hnum hby
       by_cases hend:(0:Int)<(bs.length:Int)-(m4:Int)
       ·rw[if_pos hend]at h;cases h
       ·rw[if_neg hend]at h
        cases h
        refine⟨?_,?_,hq0,hq1⟩
        ·unfold Qlm;rw[if_neg (by decide),if_neg (by decide),hsx,hsy,bytesOf_nums hbx,bytesOf_nums hby]
         conv=>lhs;rw[hdrop,hd2,hd3,hd4,List.drop_eq_nil_of_le (show bs.length≤m4 by omega)]
         simp
        ·unfold chk;rw[if_neg hkey,if_neg (by rw[hsx];omega),if_neg (by simp),if_neg (by rw[hsy];omega)]
 ·rw[if_neg h0]at h;cases h
theorem Qxr{d:Bool}{q:Int}{a b:ByteArray}(h0:0≤q)(h1:q<18446744073709551616)(hc:chk d a b=0):∃i,recL (Qlm d q a b)=.ok ((d,q,a,b),i):=by
 have hca:(0:Int)<a.size∧(a.size:Int)≤4096∧(b.size:Int)≤1048576:=by
  unfold chk at hc;split at hc
  ·cases hc
  ·rename_i c1;rw[Qua]at c1;split at hc
   ·cases hc
   ·split at hc
    ·cases hc
    ·split at hc
     ·cases hc
     ·omega
 have hb:Bytes (Qlm d q a b):=Qwx d q a b h0 h1 (by omega) (by omega);have hle:(Qlm d q a b)≠[]:=by unfold Qlm;simp
 have hpos:(0:Int)<((Qlm d q a b).length:Int):=by
  have:=List.length_pos_iff.2 hle;omega
 generalize hB:Qlm d q a b=bs at *;have hbody:=hB;unfold Qlm at hbody;have hd0:bs.drop 0=(if d then(3:Int)else 2) :: (vput 9 q++((vput 9 a.size++bytesOf a)++(if d then []else vput 9 b.size++bytesOf b))):=by
  rw[List.drop_zero,← hbody];simp
 obtain⟨_,hr,hd1⟩:=Qxh hd0;have hv:=Qxm hb h0 h1 hd1;have hd2:bs.drop (1+(vput 9 q).length)=vput 9 (((bytesOf a).length:Nat):Int)++(bytesOf a++(if d then []else vput 9 b.size++bytesOf b)):=by
  rw[← List.drop_drop,hd1,List.drop_left,Qqw,List.append_assoc]
 have hla:((bytesOf a).length:Int)=a.size:=by rw[Qqw]
 have hlb:((bytesOf b).length:Int)=b.size:=by rw[Qqw]
 have ht:=Qxp hb (least:=1) (most:=4096) (by omega) (by omega) (by decide) hd2;have hd3:bs.drop (1+(vput 9 q).length+(vput 9 (((bytesOf a).length:Nat):Int)).length+(bytesOf a).length)=(if d then []else vput 9 b.size++bytesOf b):=by
  rw[← List.drop_drop,← List.drop_drop,hd2,List.drop_left,List.drop_left]
 generalize 1+(vput 9 q).length=m2 at *;generalize m2+(vput 9 (((bytesOf a).length:Nat):Int)).length+(bytesOf a).length=m3 at *;have hv':Qsl bs 10 0 (0+1) 0=.ok (q,(m2:Int)):=by simpa using hv
 cases d with
 | true =>
  have hr':rd bs 0=3:=hr;have hd3':bs.drop m3=[]:=hd3;have hlen:=congrArg List.length hd3';rw[List.length_drop,List.length_nil]at hlen;obtain rfl:b=ByteArray.empty:=Qwy hc;unfold recL;rw[if_pos hpos,hr',if_neg (by decide),hv'];dsimp only;rw[ht];dsimp only;rw[Qtr,if_pos rfl,if_neg (by omega)];exact⟨_,rfl⟩
 | false =>
  have hr':rd bs 0=2:=hr;have hd3':bs.drop m3=vput 9 (((bytesOf b).length:Nat):Int)++(bytesOf b++[]):=by rw[hd3,hlb];simp
  have hu:=Qxp hb (least:=0) (most:=1048576) (by omega) (by omega) (by decide) hd3';have hlen:=congrArg List.length hd3';rw[List.length_drop,List.length_append,List.length_append,List.length_nil]at hlen;unfold recL;rw[if_pos hpos,hr',if_neg (by decide),hv'];dsimp only;rw[ht];dsimp only;rw[Qtr,if_neg (by decide),hu];dsimp only;rw[Qtr,if_neg (by push_cast;omega)];exact⟨_,rfl⟩
end Go.Proofs.YteaocbonofboeaaGreat.CodecP
end
