/- Merged texts. -/
import Derived.Test.YteaocbonofboeaaGreatMD02
import Derived.Defers
import Derived.Test.YteaocbonofboeaaGreatMD18
import Derived.Test.YteaocbonofboeaaGreatMD05
import Derived.Test.YteaocbonofboeaaGreatMD04
import Derived.Test.YteaocbonofboeaaGreatMD15
import Derived.Test.YteaocbonofboeaaGreatMD08
import Derived.Test.YteaocbonofboeaaGreatMD20
import Derived.Test.YteaocbonofboeaaGreatMD22
import Derived.Test.YteaocbonofboeaaGreatMD16
import Derived.WalkLawsBesides
import Derived.Recover
import Derived.Test.YteaocbonofboeaaGreatMD06
import Derived.Test.YteaocbonofboeaaGreatMD09
import Derived.Test.YteaocbonofboeaaGreatMD19
import Derived.Test.YteaocbonofboeaaGreatMD17
set_option linter.unusedVariables false
set_option linter.unusedSimpArgs false
set_option maxHeartbeats 8000000
set_option maxRecDepth 100000
section
namespace Go.Proofs.YteaocbonofboeaaGreat.C
open Go.RowKit Go.Proofs.YteaocbonofboeaaGreatW.PrintWords Go.Proofs.YteaocbonofboeaaGreatW.PrintLast Go.Proofs.YteaocbonofboeaaGreatW.PrintMore
theorem Qqu{α:Type}{f:Nat→Option α}(h:∀k,LeO (f k) (f (k+1))):∀ {j k:Nat},j≤k→LeO (f j) (f k)
 | j,0,hjk=>by
  obtain rfl:j=0:=by omega
  exact LeO.refl _
 | j,k+1,hjk=>by
  rcases Nat.lt_or_ge j (k+1)with h1|h1
  ·exact(Qqu h (by omega)).trans (h k)
  ·obtain rfl:j=k+1:=by omega
   exact LeO.refl _
theorem Qqv(a b:Int):Qah.f a b=some (decide (a<b)):=by
 simp[Qah.f,Qak.f]
theorem Qqw(l:List Int)(hl:l.length≤1099511627776):∀(d k:Nat),(d=0∨d<l.length)→d+1≤k→∃s,Qby.l0 k l (d:Int)=some s∧((∀j:Nat,j<d→rd l (j:Int)≤rd l ((j+1:Nat):Int))→s=true)
 | 0,k+1,_,_=>⟨true,by unfold Qby.l0;rw[if_neg (by decide)],fun _=>rfl⟩
 | d+1,k+1,hd,hk=>by
  have hw:wrap64 (((d+1:Nat):Int)-1)=(d:Int):=by unfold wrap64;omega
  obtain⟨s,hs,hp⟩:=Qqw l hl d k (by omega) (by omega);unfold Qby.l0;rw[if_pos (by omega),if_pos (by omega),if_pos (by omega),hw,if_pos (by omega),if_pos (by omega),Qqv,Option.bind_some]
  by_cases h:rd l ((d+1:Nat):Int)<rd l (d:Int)
  ·exact⟨false,by rw[if_pos (decide_eq_true h)],fun q=>by have:=q d (by omega);omega⟩
  ·exact⟨s,by rw[if_neg (by simpa using h)];exact hs,fun q=>hp (fun j hj=>q j (by omega))⟩
def srtB(l:List Int):Bool:=(Qby.f (l.length+8) l).getD false
theorem Qqx(l:List Int)(hl:l.length≤1099511627776):Qby.f (l.length+8) l=some (srtB l)∧((∀j:Nat,j+1<l.length→rd l (j:Int)≤rd l ((j+1:Nat):Int))→srtB l=true):=by
 have h:∃s,Qby.f (l.length+8) l=some s∧((∀j:Nat,j+1<l.length→rd l (j:Int)≤rd l ((j+1:Nat):Int))→s=true):=by
  unfold Qby.f
  cases hn:l.length with
  | zero =>
   rw[show wrap64 (((0:Nat):Int)-1)=-1 by unfold wrap64;omega];exact⟨true,by unfold Qby.l0;rw[if_neg (by decide)],fun _=>rfl⟩
  | succ n =>
   rw[show wrap64 (((n+1:Nat):Int)-1)=(n:Int)by unfold wrap64;omega];obtain⟨s,hs,hp⟩:=Qqw l hl n (n+1+8) (by omega) (by omega);exact⟨s,hs,fun q=>hp (fun j hj=>q j (by omega))⟩
 obtain⟨s,hs,hp⟩:=h;have e:srtB l=s:=by unfold srtB;rw[hs];rfl
 rw[e];exact⟨hs,hp⟩
def Qqy (bs:List Int):Option (Int × List Ent × List Int) :=
 if 9≤bs.length∧rd bs 0=4 then
  if(CodecP.leI ((bs.drop 1).take 4)).toNat≤1048576∧bs.length=9+12*(CodecP.leI ((bs.drop 1).take 4)).toNat+8*(((CodecP.leI ((bs.drop 1).take 4)).toNat+15)/16)then
   if Qnh (Qqo bs 9 (CodecP.leI ((bs.drop 1).take 4)).toNat)=true∧srtB (Qqj bs (9+12*(CodecP.leI ((bs.drop 1).take 4)).toNat) (((CodecP.leI ((bs.drop 1).take 4)).toNat+15)/16))=true then
    some (CodecP.leI ((bs.drop 5).take 4),Qqo bs 9 (CodecP.leI ((bs.drop 1).take 4)).toNat,Qqj bs (9+12*(CodecP.leI ((bs.drop 1).take 4)).toNat) (((CodecP.leI ((bs.drop 1).take 4)).toNat+15)/16))
   else none
  else none
 else none
theorem Qqz (fb xb lo g:Nat) (bs:List Int) (hb:CodecP.Bytes bs) (hl:bs.length≤100000000000) (hlg:lo≤g) (w:World) (hS:FS w w fb xb lo g bs 0 0 (.slice none 0 0) (.slice none 0 0)) :
  Calls Tryz.prog 178 #[.pointer (some ⟨g,0,none⟩),.pointer (some ⟨fb,0,none⟩),.pointer (some ⟨xb,0,none⟩)] w fun e W' =>
   match Qqy bs with
   | some (u,t,x)=>e=.returned (.tuple #[])∧∃i tv fv,FS w W' fb xb lo g bs i u tv fv∧RE W' 0 tv t∧RU W' 0 fv x
   | none=>∃er,er≠0∧e=.panicked [Qlq g er]∧∃i u tv fv,FS w W' fb xb lo g bs i u tv fv:=by
 unfold Qqy;obtain⟨n,hn⟩:∃n,n=(CodecP.leI ((bs.drop 1).take 4)).toNat:=⟨_,rfl⟩;obtain⟨m,hm⟩:∃m,m=(n+15)/16:=⟨_,rfl⟩;have hnI:(n:Int)=CodecP.leI ((bs.drop 1).take 4):=by
  have:=(CodecP.leI_range ((hb.drop 1).take 4)).1;omega
 rw[← hn,← hm]
 by_cases h1:1≤bs.length
 ·by_cases h4:rd bs 0=4
  ·by_cases h2:5≤bs.length
   ·by_cases a:n≤1048576
    ·by_cases h3:9≤bs.length
     ·rw [if_pos ⟨h3,h4⟩]
      by_cases h5:9+12*n≤bs.length
      ·have hrt:=Qnl (Qqo bs 9 n) (by rw[Qqq];omega)
       by_cases hr:Qnh (Qqo bs 9 n)=true
       ·rw [hr]at hrt
        by_cases h6:9+12*n+8*m≤bs.length
        ·have hst:=(Qqx (Qqj bs (9+12*n) m) (by rw[Qql];omega)).1;obtain⟨k,hk1,hk2⟩:∃k,Qcb.f k (Qqo bs 9 n)=some true∧Qby.f k (Qqj bs (9+12*n) m)=some (srtB (Qqj bs (9+12*n) m)) :=
          ⟨_,Qqu (Qcb.mono _) (Nat.le_max_left _ _) _ hrt,Qqu (Qby.mono _) (Nat.le_max_right _ _) _ hst⟩
         by_cases hs:srtB (Qqj bs (9+12*n) m)=true
         ·rw[hs]at hk2
          by_cases h7:bs.length=9+12*n+8*m
          ·rw[if_pos ⟨a,h7⟩,if_pos ⟨hr,hs⟩];exact fg_ok k fb xb lo g bs hb hl hlg w hS h1 _ rfl h4 h2 n hnI a h3 _ rfl h5 hk1 m hm h6 hk2 h7
          ·rw[if_neg (fun h=>h7 h.2)];exact fg_long k fb xb lo g bs hb hl hlg w hS h1 _ rfl h4 h2 n hnI a h3 _ rfl h5 hk1 m hm h6 hk2 (by omega)
         ·have hg:(if n≤1048576∧bs.length=9+12*n+8*m then(if Qnh (Qqo bs 9 n)=true∧srtB (Qqj bs (9+12*n) m)=true then some (CodecP.leI ((bs.drop 5).take 4),Qqo bs 9 n,Qqj bs (9+12*n) m)else none)else none)=none:=by
           split
           ·rw[if_neg (fun h=>hs h.2)]
           ·rfl
          rw[hg];rw[Bool.not_eq_true]at hs;rw[hs]at hk2;exact fg_srt k fb xb lo g bs hb hl hlg w hS h1 _ rfl h4 h2 n hnI a h3 _ rfl h5 hk1 m hm h6 hk2
        ·rw[if_neg (fun h=>h6 (by omega))];exact fg_fen _ fb xb lo g bs hb hl hlg w hS h1 _ rfl h4 h2 n hnI a h3 _ rfl h5 hrt m hm h6
       ·have hg:(if n≤1048576∧bs.length=9+12*n+8*m then(if Qnh (Qqo bs 9 n)=true∧srtB (Qqj bs (9+12*n) m)=true then some (CodecP.leI ((bs.drop 5).take 4),Qqo bs 9 n,Qqj bs (9+12*n) m)else none)else none)=none:=by
         split
         ·rw[if_neg (fun h=>hr h.1)]
         ·rfl
        rw[hg];rw[Bool.not_eq_true]at hr;rw[hr]at hrt;exact fg_ris _ fb xb lo g bs hb hl hlg w hS h1 _ rfl h4 h2 n hnI a h3 _ rfl h5 hrt
      ·rw[if_neg (fun h=>h5 (by omega))];exact fg_tab 0 fb xb lo g bs hb hl hlg w hS h1 _ rfl h4 h2 n hnI a h3 _ rfl h5
     ·rw[if_neg (fun h=>h3 h.1)];exact fg_u 0 fb xb lo g bs hb hl hlg w hS h1 _ rfl h4 h2 n hnI a h3
    ·have hg:(if 9≤bs.length∧rd bs 0=4 then(if n≤1048576∧bs.length=9+12*n+8*m then(if Qnh (Qqo bs 9 n)=true∧srtB (Qqj bs (9+12*n) m)=true then some (CodecP.leI ((bs.drop 5).take 4),Qqo bs 9 n,Qqj bs (9+12*n) m)else none)else none)else none)=none:=by
      split
      ·rw[if_neg (fun h=>a h.1)]
      ·rfl
     rw[hg];exact fg_big 0 fb xb lo g bs hb hl hlg w hS h1 _ rfl h4 h2 n hnI a
   ·rw[if_neg (fun h=>h2 (by omega))];exact fg_n 0 fb xb lo g bs hb hl hlg w hS h1 _ rfl h4 h2
  ·rw[if_neg (fun h=>h4 h.2)];exact fg_kind 0 fb xb lo g bs hb hl hlg w hS h1 _ rfl h4
 ·rw[if_neg (fun h=>h1 (by omega))];exact fg_none 0 fb xb lo g bs hb hl hlg w hS h1
theorem RE.ty{W W':World}{b':Nat}{v:Value}{xs:List Ent}(h:RE W b' v xs)(hT:Ty W W'):RE W' b' v xs:=by
 refine Kd.R_mono (Kd.R_step (Kd.R_bound h) (fun k hk _=>?_)) (fun _ _=>trivial);obtain⟨q,hq,cells,hc⟩:=hk.2.2.2;have ht:∀q,q∈129 :: (k129).E→q=129:=by decide
 obtain rfl:=ht q hq;rw[hc];exact hT k cells _ hc (by decide) (by decide) (by decide)
theorem RU.ty{W W':World}{b':Nat}{v:Value}{xs:List Int}(h:RU W b' v xs)(hT:Ty W W'):RU W' b' v xs:=by
 refine Kd.R_mono (Kd.R_step (Kd.R_bound h) (fun k hk _=>?_)) (fun _ _=>trivial);obtain⟨q,hq,cells,hc⟩:=hk.2.2.2;have hq':q=35:=by simpa [Kd.int,Kd.scalar]using hq
 subst hq';rw[hc];exact hT k cells _ hc (by decide) (by decide) (by decide)
theorem Qra(as_:Array Value)(W:World):(callFunc 178 as_).run Tryz.prog W=.ok (.enter 178 as_) W:=by
 simp[callFunc,Tryz.func178,Tryz.f178]
def Qrb(l0:List Int)(fb xb:Nat)(w:World)(er:Int)(w':World):Prop :=
 Below fb w w'∧∃u tv fv,w'.heap[fb]? = some (.cells #[.int .u32 u,tv] 134 (0,0))∧w'.heap[xb]? = some (.cells #[fv] 93 (0,0)) ∧
  match Qqy l0 with
  | some (u',t,x)=>er=0∧u'=u∧RE w' 0 tv t∧RU w' 0 fv x
  | none=>er≠0
theorem Qrc(A0:Option Addr)(c0:Nat)(l0:List Int)(fb xb:Nat)(w:World)(hb:CodecP.Bytes l0)(hl:l0.length≤100000000000)(hr0:Kd.C (Kd.int .u8) w A0 l0.length l0)
  (hkf:w.heap[fb]? = some (.cells #[.int .u32 0,.slice none 0 0] 134 (0,0))) (hkx:w.heap[xb]? = some (.cells #[.slice none 0 0] 93 (0,0))) (hfx:fb<xb) :
  Calls Tryz.prog 169 #[.slice A0 l0.length c0,.func (.func 178) #[] #[.pointer (some ⟨fb,0,none⟩),.pointer (some ⟨xb,0,none⟩)]] w fun e w'=>∃er i,e=.returned (.tuple #[.int .i64 i,.int .i64 er])∧Qrb l0 fb xb w er w':=by
 have hlt:=Qda hkx;refine Qoz 178 #[.pointer (some ⟨fb,0,none⟩),.pointer (some ⟨xb,0,none⟩)] A0 c0 l0 w hr0 (by omega) Qra (fun er _ W'=>Qrb l0 fb xb w er W') ?_ ?_
 ·rintro er i W W' ⟨h1,u,tv,fv,h4,h5,h6⟩ h2 h3;refine⟨h1.trans (Qis h2 (by omega)),u,tv,fv,(h2.block fb (by omega)).trans h4,(h2.block xb hlt).trans h5,?_⟩
  cases hg:Qqy l0 with
  | none=>rw[hg]at h6;exact h6
  | some p =>
   obtain⟨u',t,x⟩:=p;rw[hg]at h6;exact⟨h6.1,h6.2.1,h6.2.2.1.ty h3,h6.2.2.2.ty h3⟩
 ·intro W g hg hB hI;have hlw:w.heap.size≤W.heap.size:=hB.size;have hS:FS W W fb xb w.heap.size g l0 0 0 (.slice none 0 0) (.slice none 0 0):=⟨hI,(hB.block fb (by omega)).trans hkf,(hB.block xb hlt).trans hkx,Below.refl _ _,fun k cs t _ h _ _=>h,hlw,hfx,hlt⟩;refine(Qqz fb xb w.heap.size g l0 hb hl hg W hS).mono ?_;intro e W' h
  cases hG:Qqy l0 with
  | none =>
   rw[hG]at h;obtain⟨er,h1,h2,i,u,tv,fv,hF⟩:=h;exact⟨i,hF.1,hF.2.2.2.2.1,.inr ⟨er,h2,(Qis hB (by omega)).trans hF.2.2.2.1,u,tv,fv,hF.2.1,hF.2.2.1,by rw[hG];exact h1⟩⟩
  | some p =>
   obtain⟨u,t,x⟩:=p;rw[hG]at h;obtain⟨h1,i,tv,fv,hF,hR,hX⟩:=h;exact⟨i,hF.1,hF.2.2.2.2.1,.inl ⟨h1,(Qis hB (by omega)).trans hF.2.2.2.1,u,tv,fv,hF.2.1,hF.2.2.1,by rw[hG];exact⟨rfl,rfl,hR,hX⟩⟩⟩
def getF(e0:Int)(out:List Int):Option (Int × List Ent) :=
 if e0=0 then(match Qqy out with
  | some (u,t,x)=>if Qnm u t=0∧x=Qmk t then some (u,t)else none
  | none=>none)else none
theorem Qrd(x y:List Int)(hxy:x.length=y.length)(hl:x.length≤1099511627776):∀(d i k:Nat),i+d=x.length→d+1≤k→Qbx.l0 k x y (x.length:Int) (i:Int)=some (decide (x.drop i=y.drop i))
 | 0,i,k+1,h,hk=>by
  unfold Qbx.l0;rw[if_neg (by omega),List.drop_eq_nil_of_le (show x.length≤i by omega),List.drop_eq_nil_of_le (show y.length≤i by omega)];simp
 | d+1,i,k+1,h,hk=>by
  unfold Qbx.l0;have hw:wrap64 ((i:Int)+1)=((i+1:Nat):Int):=by unfold wrap64;omega
  have hx:x.drop i=rd x (i:Int) :: x.drop (i+1):=by rw[CodecP.rd_get (show i<x.length by omega)];exact List.drop_eq_getElem_cons (by omega)
  have hy:y.drop i=rd y (i:Int) :: y.drop (i+1):=by rw[CodecP.rd_get (show i<y.length by omega)];exact List.drop_eq_getElem_cons (by omega)
  rw[if_pos (by omega),if_pos (by omega),if_pos (by omega),if_pos (by omega),hw,Qrd x y hxy hl d (i+1) k (by omega) (by omega),hx,hy]
  by_cases he:rd x (i:Int)=rd y (i:Int)
  ·simp[he]
  ·simp[he]
theorem eq64_is(x y:List Int)(hl:x.length≤1099511627776):Qbx.f (x.length+2) x y=some (decide (x=y)):=by
 unfold Qbx.f
 by_cases h:x.length=y.length
 ·rw[if_pos (by omega)];have:=Qrd x y h hl x.length 0 (x.length+2) (by omega) (by omega)
  simpa using this
 ·rw[if_neg (by omega)];have:¬x=y:=fun e=>h (by rw[e])
  simp[this]
def Qre(r:Option (Int × List Ent))(w:World)(e:Ending)(w':World):Prop :=
 (∃u A n c er,e=.returned (.tuple #[.agg #[.int .u32 u,.slice A n c],.int .i64 er])∧(match r with
  | some (u',t)=>er=0∧u'=u∧n=t.length∧n≤c∧Kd.C k129 w' A n t
  | none=>er≠0))∧Below w.heap.size w w'
theorem Qrf{W:World}{g:Nat}{u:Int}{v:Value}(h:W.heap[g]? = some (.cells #[.int .u32 u,v] 134 (0,0))):W.cell? ⟨g,0,none⟩=some (.int .u32 u)∧W.cell? ⟨g,1,none⟩=some v∧W.frozen? ⟨g,0,none⟩=false∧W.frozen? ⟨g,1,none⟩=false :=
 ⟨(Qdb h 0).trans rfl,(Qdb h 1).trans rfl,Qdc h 0,Qdc h 1⟩
theorem Qrg{w w1 W2 w3:World}{z:Obj}(B0:Below w.heap.size w (w.alloc z))(HB1:Below (w.alloc z).heap.size (w.alloc z) w1)(HA:Below w1.heap.size w1 W2)(HB3:Below w1.heap.size W2 w3):w3.heap[w.heap.size]? = some z∧Below w.heap.size w w3:=by
 have h1:=HB1.size;have h2:(w.alloc z).heap.size=w.heap.size+1:=by simp[World.size_alloc]
 refine⟨(HB3.block _ (by omega)).trans ((HA.block _ (by omega)).trans ((HB1.block _ (by omega)).trans (Qdp w z))),?_⟩;exact((B0.trans (Qis HB1 (by omega))).trans (Qis HA (by omega))).trans (Qis HB3 (by omega))
theorem Qrh(k:Nat)(A0:Option Addr)(c0:Nat)(l0 out:List Int)(e0:Int)(w:World)(hr0:Kd.C (Kd.int .u8) w A0 l0.length l0)(hc0:l0.length≤c0)(hO:Qbe.f k l0=some (out,e0))(he:e0≠0) :
  Calls Tryz.prog 122 #[.slice A0 l0.length c0] w (Qre none w):=by
 have hft:=Tryz.underlying134;obtain⟨z0,hz0⟩:∃z:Obj,z=.cells #[.int .u32 0,.slice none 0 0] 134 (0,0):=⟨_,rfl⟩;have b0:Below w.heap.size w (w.alloc z0):=Qce (Below.refl _ _) _;have k1:=Qdp w z0;subst hz0;have HU:=QA (Qbe.calls k A0 c0 l0 out e0 _ (Kd.C_below hr0 b0) hc0 hO);have B0:=QA b0;have K1:=QA k1;have hne:(e0 != 0)=true:=bne_iff_ne.2 he;clear hO hr0 b0 k1 hc0
 go_enter Tryz.func122,Tryz.ntmps122
 go_wp2_with (go_at_call 120;refine HU.out.mono ?_;rintro ee w1 ⟨A1,c1,rfl,hC1,hlc1,hb1⟩;have HB1:=QA hb1;have hr3:=(hb1.block w.heap.size (Qda K1.out)).trans K1.out;obtain⟨q0,q1,g0,g1⟩:=Qrf hr3;clear hb1 hC1 hlc1)
 have hbb:Below w.heap.size w w1:=B0.out.trans (Qis HB1.out B0.out.size);refine bodyPost_ret (Qdq rfl _ _ w.heap.size 134 #[.int .u32 0,.slice none 0 0] (0,0) _ rfl (Qcy (Qcy hr3 0 _) 1 _) hft rfl qq_4) rfl ?_;exact⟨⟨_,_,_,_,_,rfl,he⟩,Qir (Qir hbb (Nat.le_refl _)) (Nat.le_refl _)⟩
theorem Qri(k:Nat)(A0:Option Addr)(c0:Nat)(l0 out:List Int)(w:World)(hr0:Kd.C (Kd.int .u8) w A0 l0.length l0)(hc0:l0.length≤c0)(hO:Qbe.f k l0=some (out,0))(hb:CodecP.Bytes out)(hl:out.length≤100000000000)(hG:Qqy out=none) :
  Calls Tryz.prog 122 #[.slice A0 l0.length c0] w (Qre none w):=by
 have hft:=Tryz.underlying134;obtain⟨z0,hz0⟩:∃z:Obj,z=.cells #[.int .u32 0,.slice none 0 0] 134 (0,0):=⟨_,rfl⟩;have b0:Below w.heap.size w (w.alloc z0):=Qce (Below.refl _ _) _;have k1:=Qdp w z0;subst hz0;have HU:=QA (Qbe.calls k A0 c0 l0 out 0 _ (Kd.C_below hr0 b0) hc0 hO);have B0:=QA b0;have K1:=QA k1;have HG:=QA hG;have HB:=QA hb;have HL:=QA hl;clear hO hr0 b0 k1 hc0 hG hb hl
 go_enter Tryz.func122,Tryz.ntmps122
 go_upto_region 4 with(go_at_call 120;refine HU.out.mono ?_;rintro ee w1 ⟨A1,c1,rfl,hC1,hlc1,hb1⟩;have b:=QA hb1;have c:=QA hC1;clear hb1 hC1 hlc1)
 have hA:=Qce (Qce (Below.refl w1.heap.size w1) (.cells #[.int .u32 0,.slice none 0 0] 134)) (.cells #[.slice none 0 0] 93);have hkf:=Qdl (Qdp w1 (.cells #[.int .u32 0,.slice none 0 0] 134)) (.cells #[.slice none 0 0] 93);have hkx:=Qdp (w1.alloc (.cells #[.int .u32 0,.slice none 0 0] 134)) (.cells #[.slice none 0 0] 93);rw[World.size_alloc]at hkx;have RUN:=QA (Qrc A1 c1 out w1.heap.size (w1.heap.size+1) _ HB.out HL.out (Kd.C_below c.out hA) hkf hkx (Nat.lt_succ_self _));have HA:=QA hA;clear hA hkf hkx
 go_upto_region 9 with(go_at_call 169;refine RUN.out.mono ?_;rintro ee w3 ⟨er,i,rfl,hP⟩;unfold Qrb at hP;rw[HG.out]at hP;obtain⟨hb3,u,tv,fv,hf3,a,her⟩:=hP;have d:=QA hb3;have g:=QA (And.intro hf3 a);have HER:=QA her;have h0:(er == 0)=false:=beq_eq_false_iff_ne.2 her;have h:(er != 0)=true:=bne_iff_ne.2 her;clear hb3 hf3 a her)
 obtain⟨hr3,hbb⟩:=Qrg B0.out b.out HA.out d.out;obtain⟨q2,q3,g2,g3⟩:=Qrf hr3
 go_region
 go_wp2_with fail
 refine bodyPost_ret (Qdq rfl _ _ w.heap.size 134 #[.int .u32 0,.slice none 0 0] (0,0) _ rfl (Qcy (Qcy hr3 0 _) 1 _) hft rfl qq_4) rfl ?_;exact⟨⟨_,_,_,_,_,rfl,HER.out⟩,Qcf (Qir (Qir hbb (Nat.le_refl _)) (Nat.le_refl _))⟩
theorem Qrj(k:Nat)(A0:Option Addr)(c0:Nat)(l0 out:List Int)(w:World)(hr0:Kd.C (Kd.int .u8) w A0 l0.length l0)(hc0:l0.length≤c0)(hO:Qbe.f k l0=some (out,0))(hb:CodecP.Bytes out)(hl:out.length≤100000000000)(u:Int)(t:List Ent)(x:List Int)(hG:Qqy out=some (u,t,x))(ht:t.length≤1099511627776)(cd:Int)(hc:Qnm u t=cd)(hcd:cd≠0) :
  Calls Tryz.prog 122 #[.slice A0 l0.length c0] w (Qre none w):=by
 have hft:=Tryz.underlying134;obtain⟨z0,hz0⟩:∃z:Obj,z=.cells #[.int .u32 0,.slice none 0 0] 134 (0,0):=⟨_,rfl⟩;have b0:Below w.heap.size w (w.alloc z0):=Qce (Below.refl _ _) _;have k1:=Qdp w z0;subst hz0;have HU:=QA (Qbe.calls k A0 c0 l0 out 0 _ (Kd.C_below hr0 b0) hc0 hO);have B0:=QA b0;have K1:=QA k1;have HG:=QA hG;have HB:=QA hb;have HL:=QA hl;have HT:=QA ht;have HC:=QA hc;have HER:=QA hcd;have h0:(cd == 0)=false:=beq_eq_false_iff_ne.2 hcd;have l:(cd != 0)=true:=bne_iff_ne.2 hcd;clear ht hc hcd hO hr0 b0 k1 hc0 hG hb hl
 go_enter Tryz.func122,Tryz.ntmps122
 go_upto_region 4 with(go_at_call 120;refine HU.out.mono ?_;rintro ee w1 ⟨A1,c1,rfl,hC1,hlc1,hb1⟩;have d:=QA hb1;have g:=QA hC1;clear hb1 hC1 hlc1)
 have hA:=Qce (Qce (Below.refl w1.heap.size w1) (.cells #[.int .u32 0,.slice none 0 0] 134)) (.cells #[.slice none 0 0] 93);have hkf:=Qdl (Qdp w1 (.cells #[.int .u32 0,.slice none 0 0] 134)) (.cells #[.slice none 0 0] 93);have hkx:=Qdp (w1.alloc (.cells #[.int .u32 0,.slice none 0 0] 134)) (.cells #[.slice none 0 0] 93);rw[World.size_alloc]at hkx;have RUN:=QA (Qrc A1 c1 out w1.heap.size (w1.heap.size+1) _ HB.out HL.out (Kd.C_below g.out hA) hkf hkx (Nat.lt_succ_self _));have HA:=QA hA;clear hA hkf hkx
 go_upto_region 9 with(first
  |(go_at_call 109;refine(Qno 0 u At _ ct t _ rfl b.out HT.out).mono ?_;rw[HC.out];rintro ee w4 ⟨rfl,hb4⟩;have h:=QA hb4;have d4:=(hb4.block _ (Qda a.out.1)).trans a.out.1;have x4:=(hb4.block _ (Qda a.out.2)).trans a.out.2;have m:=QA (And.intro d4 x4);have n:=QA (Kd.R_below b.out hb4);have HX4:=QA (Kd.R_below HX3.out hb4);clear hb4 d4 x4)
  |(go_at_call 169;refine RUN.out.mono ?_;rintro ee w3 ⟨er,i,rfl,hP⟩;unfold Qrb at hP;rw[HG.out]at hP;obtain⟨hb3,u3,tv,fv,hf3,c,rfl,rfl,hR3,hX3⟩:=hP;obtain⟨At,ct,htv⟩:=Kd.R_slice hR3;obtain⟨Ax,cx,hfv⟩:=Kd.R_slice hX3;subst htv;subst hfv;have j:=QA hb3;have a:=QA (And.intro hf3 c);have b:=QA hR3;have HX3:=QA hX3;obtain⟨d0,d1,_,_⟩:=Qrf hf3;clear hb3 hf3 c hR3 hX3))
 obtain⟨hr3,hbb⟩:=Qrg B0.out d.out HA.out (j.out.trans (Qis h.out (Nat.le_of_lt (Nat.lt_of_lt_of_le (Qda a.out.1) (Nat.le_refl _)))));obtain⟨q2,q3,g2,g3⟩:=Qrf hr3
 go_region
 go_wp2_with fail
 refine bodyPost_ret (Qdq rfl _ _ w.heap.size 134 #[.int .u32 0,.slice none 0 0] (0,0) _ rfl (Qcy (Qcy hr3 0 _) 1 _) hft rfl qq_4) rfl ?_;exact⟨⟨_,_,_,_,_,rfl,HER.out⟩,Qcf (Qir (Qir hbb (Nat.le_refl _)) (Nat.le_refl _))⟩
theorem Qrk(k:Nat)(A0:Option Addr)(c0:Nat)(l0 out:List Int)(w:World)(hr0:Kd.C (Kd.int .u8) w A0 l0.length l0)(hc0:l0.length≤c0)(hO:Qbe.f k l0=some (out,0))(hb:CodecP.Bytes out)(hl:out.length≤100000000000)(u:Int)(t:List Ent)(x:List Int)(hG:Qqy out=some (u,t,x))(ht:t.length≤1099511627776)(hc:Qnm u t=0)(hxl:x.length≤1099511627776)(R:Option (Int × List Ent))(hRR:(if x=Qmk t then some (u,t)else none)=R) :
  Calls Tryz.prog 122 #[.slice A0 l0.length c0] w (Qre R w):=by
 have hft:=Tryz.underlying134;obtain⟨z0,hz0⟩:∃z:Obj,z=.cells #[.int .u32 0,.slice none 0 0] 134 (0,0):=⟨_,rfl⟩;have b0:Below w.heap.size w (w.alloc z0):=Qce (Below.refl _ _) _;have k1:=Qdp w z0;subst hz0;have HU:=QA (Qbe.calls k A0 c0 l0 out 0 _ (Kd.C_below hr0 b0) hc0 hO);have B0:=QA b0;have K1:=QA k1;have HG:=QA hG;have HB:=QA hb;have HL:=QA hl;have HT:=QA ht;have HC:=QA hc;have HLXX:=QA hxl;have l:=QA hRR;clear ht hc hxl hRR hO hr0 b0 k1 hc0 hG hb hl
 go_enter Tryz.func122,Tryz.ntmps122
 go_upto_region 4 with(go_at_call 120;refine HU.out.mono ?_;rintro ee w1 ⟨A1,c1,rfl,hC1,hlc1,hb1⟩;have p:=QA hb1;have q:=QA hC1;clear hb1 hC1 hlc1)
 have hA:=Qce (Qce (Below.refl w1.heap.size w1) (.cells #[.int .u32 0,.slice none 0 0] 134)) (.cells #[.slice none 0 0] 93);have hkf:=Qdl (Qdp w1 (.cells #[.int .u32 0,.slice none 0 0] 134)) (.cells #[.slice none 0 0] 93);have hkx:=Qdp (w1.alloc (.cells #[.int .u32 0,.slice none 0 0] 134)) (.cells #[.slice none 0 0] 93);rw[World.size_alloc]at hkx;have RUN:=QA (Qrc A1 c1 out w1.heap.size (w1.heap.size+1) _ HB.out HL.out (Kd.C_below q.out hA) hkf hkx (Nat.lt_succ_self _));have HA:=QA hA;clear hA hkf hkx
 go_upto_region 9 with(first
  |(go_at_call 109;refine(Qno 0 u At _ ct t _ rfl m.out HT.out).mono ?_;rw[HC.out];rintro ee w4 ⟨rfl,hb4⟩;have r:=QA hb4;have d4:=(hb4.block _ (Qda b.out.1)).trans b.out.1;have x4:=(hb4.block _ (Qda b.out.2)).trans b.out.2;have a:=QA (And.intro d4 x4);have g:=QA (Kd.R_below m.out hb4);have HX4:=QA (Kd.R_below HX3.out hb4);clear hb4 d4 x4)
  |(go_at_call 169;refine RUN.out.mono ?_;rintro ee w3 ⟨er,i,rfl,hP⟩;unfold Qrb at hP;rw[HG.out]at hP;obtain⟨hb3,u3,tv,fv,hf3,n,rfl,rfl,hR3,hX3⟩:=hP;obtain⟨At,ct,htv⟩:=Kd.R_slice hR3;obtain⟨Ax,cx,hfv⟩:=Kd.R_slice hX3;subst htv;subst hfv;have s:=QA hb3;have b:=QA (And.intro hf3 n);have m:=QA hR3;have HX3:=QA hX3;obtain⟨d0,d1,_,_⟩:=Qrf hf3;clear hb3 hf3 n hR3 hX3))
 have hpos:0<t.length:=by
  have hcc:=HC.out;unfold Qnm at hcc;apply Decidable.byContradiction;intro h;rw[if_pos (by omega)]at hcc
  cases hcc
 obtain⟨gt,cap,hf,_⟩:=Kd.R_form g.out hpos
 injection hf with hf1 hf2 hf3
 subst hf1;clear hf2 hf3 hpos;obtain⟨_,hlct,hCt⟩:=Kd.R_reads' g.out;obtain⟨_,hlcx,hCx⟩:=Kd.R_reads' HX4.out;have FE:=QA (Qmn ⟨gt,0,none⟩ ct t.length t w4.drew rfl (Kd.C_below hCt (Qcf (Below.refl _ _))) hlct HT.out);have HCX:=QA (Kd.C_below hCx (Qcf (Below.refl _ _)));have HLX:=QA hlcx;have HLT:=QA hlct;have j0:w4.drew.cell? ⟨w1.heap.size,1,none⟩=some (.slice (some ⟨gt,0,none⟩) t.length ct):=(Qrf a.out.1).2.1;have j1:w4.drew.cell? ⟨w1.heap.size+1,0,none⟩=some (.slice Ax x.length cx):=(Qdb a.out.2 0).trans rfl;clear hCt hCx hlcx hlct;have EQ:=QA (eq64_is x (Qmk t) (by have:=HLXX.out;omega));obtain⟨bq,hbq⟩:∃bq,bq=decide (x=Qmk t):=⟨_,rfl⟩;rw[← hbq]at EQ;have HBQ:=QA hbq;clear hbq
 go_region_held3 (fun w'=>w'.cell? ⟨w1.heap.size,1,none⟩=some (.slice (some ⟨gt,0,none⟩) t.length ct)∧w'.cell? ⟨w1.heap.size+1,0,none⟩=some (.slice Ax x.length cx)) (first|exact⟨j0,j1⟩|exact⟨j2,j3⟩|exact⟨j4,j5⟩) (first
  |(go_at_call 113;refine FE.out.mono ?_;rintro ee w5 ⟨⟨v5,rfl,hR5⟩,hb5⟩;obtain⟨A5,c5,rfl⟩:=Kd.R_slice hR5;have k5:=(hb5.block _ (Qda (show w4.drew.heap[w1.heap.size]? = _ from a.out.1))).trans a.out.1;have k6:=(hb5.block _ (Qda (show w4.drew.heap[w1.heap.size+1]? = _ from a.out.2))).trans a.out.2;have d:=QA (And.intro k5 k6);have j2:=(Qrf k5).2.1;have j3:w5.cell? ⟨w1.heap.size+1,0,none⟩=some (.slice Ax x.length cx):=(Qdb k6 0).trans rfl;have j:=QA hb5;have o:=QA (Kd.R_reads' hR5).2;clear hb5 hR5 k5 k6)
  |(go_at_call 183;refine(Qbx.calls _ Ax cx x A5 c5 (Qmk t) bq _ (Kd.C_below HCX.out j.out) HLX.out o.out.2 o.out.1 EQ.out).mono ?_;rintro ee w6 ⟨rfl,hd6⟩;have c:=QA hd6.below;have j4:=(Qrf (Qdo d.out.1 c.out)).2.1;have j5:w6.cell? ⟨w1.heap.size+1,0,none⟩=some (.slice Ax x.length cx):=(Qdb (Qdo d.out.2 c.out) 0).trans rfl;clear hd6))
 have l3:w1.heap.size+1<w3.heap.size:=Qda b.out.2;have l4:w1.heap.size+1<w4.heap.size:=Qda a.out.2;have l5:w1.heap.size+1<w5.heap.size:=Qda d.out.2;have b36:=((s.out.trans (Qis r.out (by omega))).trans (Qis (Qcf (Below.refl w4.heap.size w4)) (by omega))).trans (Qis j.out (show w1.heap.size≤w4.heap.size by omega));have b37:=b36.trans (Qis c.out (by omega));obtain⟨hr3,hbb⟩:=Qrg B0.out p.out HA.out b37;obtain⟨q2,q3,g2,g3⟩:=Qrf hr3;obtain⟨d6,d7,_,_⟩:=Qrf (Qdo d.out.1 c.out);clear b36 b37
 cases bq with
 | false =>
  go_wp2_with fail
  refine bodyPost_ret (Qdq rfl _ _ w.heap.size 134 #[.int .u32 0,.slice none 0 0] (0,0) _ rfl (Qcy (Qcy hr3 0 _) 1 _) hft rfl qq_4) rfl ?_;have hR:=l.out;rw[if_neg (of_decide_eq_false HBQ.out.symm)]at hR;subst hR;exact⟨⟨_,_,_,_,_,rfl,(by decide:(4:Int)≠0)⟩,Qir (Qir hbb (Nat.le_refl _)) (Nat.le_refl _)⟩
 | true =>
  have HCT:=QA (Kd.R_set (Kd.R_set (Kd.R_below (Kd.R_below g.out ((Qcf (Below.refl w4.heap.size w4)).trans j.out)) c.out) hr3 (by decide) 0 (.int .u32 u)) (Qcy hr3 0 _) (by decide) 1 (.slice (some ⟨gt,0,none⟩) t.length ct))
  go_wp2_with fail
  refine bodyPost_ret (Qdq rfl _ _ w.heap.size 134 #[.int .u32 u,.slice (some ⟨gt,0,none⟩) t.length ct] (0,0) _ rfl (Qcy (Qcy hr3 0 _) 1 _) hft rfl qq_4) rfl ?_;have hR:=l.out;rw[if_pos (of_decide_eq_true HBQ.out.symm)]at hR;subst hR;exact⟨⟨_,_,_,_,_,rfl,rfl,rfl,rfl,HLT.out,(Kd.R_reads' HCT.out).2.2⟩,Qir (Qir hbb (Nat.le_refl _)) (Nat.le_refl _)⟩
theorem Qrl(k:Nat)(A0:Option Addr)(c0:Nat)(l0 out:List Int)(e0:Int)(w:World)(hr0:Kd.C (Kd.int .u8) w A0 l0.length l0)(hc0:l0.length≤c0)(hO:Qbe.f k l0=some (out,e0))(hb:e0=0→CodecP.Bytes out∧out.length≤100000000000) :
  Calls Tryz.prog 122 #[.slice A0 l0.length c0] w (Qre (getF e0 out) w):=by
 unfold getF
 by_cases he:e0=0
 ·rw [if_pos he];subst he;obtain⟨hb,hl⟩:=hb rfl
  cases hG:Qqy out with
  | none=>exact Qri k A0 c0 l0 out w hr0 hc0 hO hb hl hG
  | some p =>
   obtain⟨u,t,x⟩:=p;have hlen:t.length≤1099511627776∧x.length≤1099511627776:=by
    unfold Qqy at hG;split at hG
    ·split at hG
     ·rename_i h2;split at hG
      ·simp only[Option.some.injEq,Prod.mk.injEq]at hG;obtain⟨_,rfl,rfl⟩:=hG;rw[Qqq,Qql];omega
      ·cases hG
     ·cases hG
    ·cases hG
   dsimp only
   by_cases hc:Qnm u t=0
   ·refine Qrk k A0 c0 l0 out w hr0 hc0 hO hb hl u t x hG hlen.1 hc hlen.2 _ ?_
    by_cases hx:x=Qmk t
    ·rw[if_pos hx,if_pos ⟨hc,hx⟩]
    ·rw[if_neg hx,if_neg (fun h=>hx h.2)]
   ·rw[if_neg (fun h=>hc h.1)];exact Qrj k A0 c0 l0 out w hr0 hc0 hO hb hl u t x hG hlen.1 _ rfl hc
 ·rw[if_neg he];exact Qrh k A0 c0 l0 out e0 w hr0 hc0 hO he
end Go.Proofs.YteaocbonofboeaaGreat.C
end
section
namespace Go.Proofs.YteaocbonofboeaaGreat.C
open Go.RowKit Go.Proofs.YteaocbonofboeaaGreatW.PrintWords Go.Proofs.YteaocbonofboeaaGreatW.PrintLast Go.Proofs.YteaocbonofboeaaGreatW.PrintMore
attribute [local go_sem] Qhl Qhm Qhn Qho Qhp Qhq Qhr Qhs
attribute [local go_sem high] Qmo
def Qca.l0:Nat→List (S129)→List (S129)→Int→Int→Option (Bool)
 | 0,_,_,_,_=>none
 | k+1,x0,x1,x12,x13=>if x13<x12 then(if 0≤x13 then(if x13<(x0.length:Int)then(if x13<(x1.length:Int)then(if(!(((Qil x0 x13).f0) == ((Qil x1 x13).f0)) ||(!(((Qil x0 x13).f1) == ((Qil x1 x13).f1))))=true then(some false)else(Qca.l0 k x0 x1 x12 (wrap64 (x13+1))))else(none))else(none))else(none))else(some true)
def Qca.f(k:Nat)(l0:List (S129))(l1:List (S129)):Option (Bool):=if(l0.length:Int)=(l1.length:Int)then(Qca.l0 k l0 l1 (l0.length:Int) 0)else(some false)
theorem Qca.calls (k:Nat) (A0:Option Addr) (c0:Nat) (l0:List (S129)) (A1:Option Addr) (c1:Nat) (l1:List (S129)) (r:Bool) (w:World) (hr0:Kd.C k129 w A0 l0.length l0) (hc0:l0.length≤c0) (hr1:Kd.C k129 w A1 l1.length l1) (hc1:l1.length≤c1) (h:Qca.f k l0 l1=some r) :
  Calls Tryz.prog 123 #[.slice A0 l0.length c0,.slice A1 l1.length c1] w fun e w'=>e=.returned (.bool r)∧Drawn0 w w':=by
 have hu129:=Tryz.underlying129;have x:=QA hr0;have I:=QA hc0;clear hr0 hc0;have y:=QA hr1;have J:=QA hc1;clear hr1 hc1;have H:(if(l0.length:Int)=(l1.length:Int)then(Qca.l0 k l0 l1 (l0.length:Int) 0)else(some false))=some r:=h;clear h
 by_cases c3:(l0.length:Int)=(l1.length:Int)
 ·rw [if_pos c3]at H;have q:((l0.length:Int) == (l1.length:Int))=true:=beq_iff_eq.mpr c3;have s:((l0.length:Int) != (l1.length:Int))=false:=bne_eq_false_iff_eq.mpr c3;have t:(l0.length == l1.length)=true:=by first|simpa using c3 |(simp at c3 ⊢;omega)
  clear c3;have H':=QA H;clear H
  go_enter Tryz.func123,Tryz.ntmps123
  go_wp2
  repeat(go_quiet (fail);try go_wp2)
  go_loopg [13] k (fun kq B w'=>∃(a:Int),B=.int .i64 a∧Aside0 (Qca.l0 kq l0 l1 (l0.length:Int) a=some r)∧Aside0 (kq≤k)∧Drawn0 w w')
  case atStart=>exact⟨(0),qq_8,H',⟨Nat.le_refl _⟩,by repeat(first|exact Drawn0.refl _|apply Drawn0.step)⟩
  case round =>
   clear H'
   try clear c1
   try clear c3
   try clear q
   try clear s
   try clear t
   obtain⟨a,rfl,HA,HK1,⟨m1,rfl⟩⟩:=hrel
   cases gk with
   | zero=>exact absurd HA.out (by simp[Qca.l0])
   | succ k1 =>
    have H:=HA.out;clear HA;simp only[Qca.l0]at H
    by_cases c4:a<(l0.length:Int)
    ·rw [if_pos c4]at H;have z:=decide_eq_true c4;clear c4
     by_cases c5:0≤a
     ·rw [if_pos c5]at H;have D:=decide_eq_true c5;clear c5
      by_cases c6:a<(l0.length:Int)
      ·rw[if_pos c6]at H;have E:=decide_eq_true c6;clear c6
       by_cases c7:a<(l1.length:Int)
       ·rw[if_pos c7]at H;have G:=decide_eq_true c7;clear c7
        by_cases c8:(!(((Qil l0 a).f0) == ((Qil l1 a).f0)) ||(!(((Qil l0 a).f1) == ((Qil l1 a).f1))))=true
        ·rw[if_pos c8]at H;have A:(!(((Qil l0 a).f0) == ((Qil l1 a).f0)) ||(!(((Qil l0 a).f1) == ((Qil l1 a).f1))))=true:=c8;clear c8;obtain rfl:=Option.some.inj H;have b:0≤(a:Int):=of_decide_eq_true qq_2;have c:a<(l0.length:Int):=of_decide_eq_true qq_2;obtain⟨u,j,m,n⟩:=Qim x.out a b c
         cases j
         replace b:=eq_true b;replace c:=eq_true c;have d:0≤(a:Int):=of_decide_eq_true qq_2;have g:a<(l1.length:Int):=of_decide_eq_true qq_2;obtain⟨v,l,o,p⟩:=Qim y.out a d g
         cases l
         replace d:=eq_true d;replace g:=eq_true g;go_wp2
         repeat(go_quiet (fail);try go_wp2)
         go_ret
         exact⟨by first|rfl |(simp;done) |(simp[*];done),by repeat(first|exact Drawn0.refl _|apply Drawn0.step)⟩
        ·rw[if_neg c8]at H;have A:(!(((Qil l0 a).f0) == ((Qil l1 a).f0)) ||(!(((Qil l0 a).f1) == ((Qil l1 a).f1))))=false:=by simpa using c8
         clear c8;have H':=QA H;clear H;have b:0≤(a:Int):=of_decide_eq_true qq_2;have c:a<(l0.length:Int):=of_decide_eq_true qq_2;obtain⟨u,j,m,n⟩:=Qim x.out a b c
         cases j
         replace b:=eq_true b;replace c:=eq_true c;have d:0≤(a:Int):=of_decide_eq_true qq_2;have g:a<(l1.length:Int):=of_decide_eq_true qq_2;obtain⟨v,l,o,p⟩:=Qim y.out a d g
         cases l
         replace d:=eq_true d;replace g:=eq_true g;go_wp2
         repeat(go_quiet (fail);try go_wp2)
         go_roundg k1
         case measure=>have:=HK1.out;omega
         case rel=>exact⟨(wrap64 (a+1)),qq_8,H',⟨by have:=HK1.out;omega⟩,by repeat(first|exact Drawn0.refl _|apply Drawn0.step)⟩
       ·rw[if_neg c7]at H;exact absurd H (by simp)
      ·rw[if_neg c6]at H;exact absurd H (by simp)
     ·rw[if_neg c5]at H;exact absurd H (by simp)
    ·rw[if_neg c4]at H;have z:=decide_eq_false c4;clear c4;obtain rfl:=Option.some.inj H;go_wp2
     repeat(go_quiet (fail);try go_wp2)
     go_ret
     exact⟨by first|rfl |(simp;done) |(simp[*];done),by repeat(first|exact Drawn0.refl _|apply Drawn0.step)⟩
 ·rw[if_neg c3]at H;have q:((l0.length:Int) == (l1.length:Int))=false:=beq_eq_false_iff_ne.mpr c3;have s:((l0.length:Int) != (l1.length:Int))=true:=bne_iff_ne.mpr c3;have t:(l0.length == l1.length)=false:=by first|simpa using c3 |(simp at c3 ⊢;omega)
  obtain rfl:=Option.some.inj H
  go_enter Tryz.func123,Tryz.ntmps123
  go_wp2
  repeat(go_quiet (fail);try go_wp2)
  go_ret
  exact⟨by first|rfl |(simp;done) |(simp[*];done),by repeat(first|exact Drawn0.refl _|apply Drawn0.step)⟩
end Go.Proofs.YteaocbonofboeaaGreat.C
end
section
namespace Go.Proofs.YteaocbonofboeaaGreat.C
open Go.RowKit Go.Proofs.YteaocbonofboeaaGreatW.PrintWords Go.Proofs.YteaocbonofboeaaGreatW.PrintLast Go.Proofs.YteaocbonofboeaaGreatW.PrintMore
instance decEnt:DecidableEq Ent:=fun a b=>if h:a.f0=b.f0∧a.f1=b.f1 then isTrue (by cases a;cases b;simp_all)else isFalse (fun e=>h (by rw[e];exact⟨rfl,rfl⟩))
theorem Qrm(x y:List Ent)(hxy:x.length=y.length)(hl:x.length≤1099511627776):∀(d i k:Nat),i+d=x.length→d+1≤k→Qca.l0 k x y (x.length:Int) (i:Int)=some (decide (x.drop i=y.drop i))
 | 0,i,k+1,h,hk=>by
  unfold Qca.l0;rw[if_neg (by omega),List.drop_eq_nil_of_le (show x.length≤i by omega),List.drop_eq_nil_of_le (show y.length≤i by omega)];simp
 | d+1,i,k+1,h,hk=>by
  unfold Qca.l0;have hw:wrap64 ((i:Int)+1)=((i+1:Nat):Int):=by unfold wrap64;omega
  have hx:x.drop i=Qil x (i:Int) :: x.drop (i+1):=by rw[rdE x i (show i<x.length by omega)];exact List.drop_eq_getElem_cons (by omega)
  have hy:y.drop i=Qil y (i:Int) :: y.drop (i+1):=by rw[rdE y i (show i<y.length by omega)];exact List.drop_eq_getElem_cons (by omega)
  rw[if_pos (by omega),if_pos (by omega),if_pos (by omega),if_pos (by omega),hw,Qrm x y hxy hl d (i+1) k (by omega) (by omega),hx,hy];generalize Qil x (i:Int)=a;generalize Qil y (i:Int)=b;obtain⟨a0,a1⟩:=a;obtain⟨b0,b1⟩:=b
  by_cases h0:a0=b0
  ·by_cases h1:a1=b1
   ·simp[h0,h1]
   ·simp[h0,h1]
  ·simp[h0]
theorem eqE_is(x y:List Ent)(hl:x.length≤1099511627776):Qca.f (x.length+2) x y=some (decide (x=y)):=by
 unfold Qca.f
 by_cases h:x.length=y.length
 ·rw[if_pos (by omega)];have:=Qrm x y h hl x.length 0 (x.length+2) (by omega) (by omega)
  simpa using this
 ·rw[if_neg (by omega)];have:¬x=y:=fun e=>h (by rw[e])
  simp[this]
theorem Qrn{e0:Int}{out:List Int}{u:Int}{t:List Ent}(h:getF e0 out=some (u,t)):t.length≤1048576:=by
 unfold getF at h;split at h
 ·split at h
  ·split at h
   ·rename_i hc
    cases h
    have hc:=hc.1;unfold Qnm at hc;split at hc
    ·cases hc
    ·split at hc
     ·cases hc
     ·omega
   ·cases h
  ·cases h
 ·cases h
def Qro(u:Int)(l:List Rec)(ps:List Int)(r:Option (Int × List Ent)):Bool:=match r with
 | some (u',t)=>decide (u'=u) && decide (t=Qmu (Qqb l ps))
 | none=>false
theorem Qrp{W:World}{B:Nat}{a b:Value}{u:Int}{s:Bool}(h:W.heap[B]? = some (.cells #[a,b,.int .u32 u,.bool s] 45 (0,0))) :
  W.cell? ⟨B,0,none⟩=some a∧W.cell? ⟨B,1,none⟩=some b∧W.cell? ⟨B,2,none⟩=some (.int .u32 u)∧W.cell? ⟨B,3,none⟩=some (.bool s) :=
 ⟨(Qdb h 0).trans rfl,(Qdb h 1).trans rfl,(Qdb h 2).trans rfl,(Qdb h 3).trans rfl⟩
theorem Qrq(k:Nat)(Ar Aa Ac:Option Addr)(cr ca cc:Nat)(l:List Rec)(ps lc out:List Int)(u e0:Int)(s:Bool)(w:World)(hr:Kd.C k37 w Ar l.length l)(ha:Kd.C (Kd.int .u32) w Aa ps.length ps)(hlen:ps.length=l.length)(hl:l.length≤1000000000)
  (hk:∀r∈l,r.f2.size≤140737488355328) (hnd:(Qqb l ps).Nodup) (hcc:Kd.C (Kd.int .u8) w Ac lc.length lc) (hlc:lc.length≤cc) (hO:Qbe.f k lc=some (out,e0)) (hb:e0=0→CodecP.Bytes out∧out.length≤100000000000) :
  Calls Tryz.prog 70 #[.agg #[.slice Ar l.length cr,.slice Aa ps.length ca,.int .u32 u,.bool s],.slice Ac lc.length cc] w fun e w'=>e=.returned (.bool (Qro u l ps (getF e0 out)))∧Below w.heap.size w w':=by
 have hu76:=Tryz.underlying45;have hft:=Tryz.underlying134;have hB1:Below w.heap.size w (w.alloc (.cells #[.slice Ar l.length cr,.slice Aa ps.length ca,.int .u32 u,.bool s] 45)):=Qce (Below.refl _ _) _;have g:=QA (Qdp w (.cells #[.slice Ar l.length cr,.slice Aa ps.length ca,.int .u32 u,.bool s] 45));have HCR:=QA (Kd.C_below hr hB1);have HCA:=QA (Kd.C_below ha hB1);have FG:=QA (Qrl k Ac cc lc out e0 _ (Kd.C_below hcc hB1) hlc hO hb);have b:=QA hB1;have HK:=QA hk;have HND:=QA hnd;have n:=QA hlen;obtain⟨R,hR⟩:∃R,R=getF e0 out:=⟨_,rfl⟩;rw[← hR]at FG ⊢;have HTL:Aside0 (∀u t,R=some (u,t)→t.length≤1048576):=⟨fun u t h=>Qrn (hR.symm.trans h)⟩;clear hr ha hB1 hk hnd hlen hcc hlc hO hb hR
 cases R with
 | none =>
  show Calls _ _ _ _ fun e w'=>e=.returned (.bool false)∧Below w.heap.size w w'
  go_enter Tryz.func70,Tryz.ntmps70
  go_wp2_with (go_at_call 122;refine FG.out.mono ?_;rintro ee w2 ⟨⟨u',A',n',c',er,rfl,her⟩,hb2⟩;have h0:(er == 0)=false:=beq_eq_false_iff_ne.2 her;have a:=QA hb2;clear her hb2)
  go_region
  go_wp2;go_ret
  exact⟨rfl,Qcf ((b.out.trans (Qis a.out b.out.size)).trans (Qis (Qce (Below.refl _ _) _) (Nat.le_trans b.out.size a.out.size)))⟩
 | some p =>
  obtain⟨u',t⟩:=p
  by_cases hu:u'=u
  ·subst hu;have hee:(u' == u')=true:=beq_self_eq_true u';obtain⟨bq,hbq⟩:∃bq,bq=decide (t=Qmu (Qqb l ps)):=⟨_,rfl⟩;have hcl:Qro u' l ps (some (u',t))=bq:=by rw[hbq];simp[Qro]
   rw[hcl];have HBQ:=QA hbq;clear hbq hcl
   go_enter Tryz.func70,Tryz.ntmps70
   go_wp2_with (go_at_call 122;refine FG.out.mono ?_;rintro ee w2 ⟨⟨_,A',n',c',er,rfl,rfl,rfl,rfl,hnc,hC2⟩,hb2⟩;have a:=QA hb2;have j:=QA hC2;have HNC:=QA hnc;clear hb2 hC2 hnc)
   have kf:=Qdp w2 (.cells #[.int .u32 u',.slice A' t.length c'] 134);have kb:=Qdl (Qdo g.out a.out) (.cells #[.int .u32 u',.slice A' t.length c'] 134);obtain⟨W3,hW3⟩:∃W3,W3=w2.alloc (.cells #[.int .u32 u',.slice A' t.length c'] 134):=⟨_,rfl⟩;have hb3:Below w2.heap.size w2 W3:=by rw[hW3];exact Qce (Below.refl _ _) _
   have hBB:Below w.heap.size w W3:=(b.out.trans (Qis a.out b.out.size)).trans (Qis hb3 (Nat.le_trans b.out.size a.out.size));rw[← hW3]at kf kb ⊢;have kfd:W3.drew.heap[w2.heap.size]? = some (.cells #[.int .u32 u',.slice A' t.length c'] 134 (0,0)):=kf;have kbd:W3.drew.heap[w.heap.size]? = some (.cells #[.slice Ar l.length cr,.slice Aa ps.length ca,.int .u32 u',.bool s] 45 (0,0)):=kb;obtain⟨f0,f1,_,_⟩:=Qrf kfd;obtain⟨b0,b1,b2,b3⟩:=Qrp kbd;have b2d:Below w2.heap.size w2 W3.drew:=Qcf hb3;have HBB:=QA hBB;have HCT:=QA (Kd.C_below j.out b2d);have EN:=QA (Qqe Ar Aa cr ca l ps u' s W3.drew (Kd.C_below HCR.out (a.out.trans (Qis b2d a.out.size))) (Kd.C_below HCA.out (a.out.trans (Qis b2d a.out.size))) n.out hl HK.out HND.out);have EQ:=QA (eqE_is t (Qmu (Qqb l ps)) (by have:=HTL.out _ _ rfl;omega));rw[← HBQ.out]at EQ;have HKF:=QA kfd;have HKV:=QA kbd;clear hW3 kf kb hBB kfd kbd b2d hb3
   go_region_held3 (fun w'=>w'.cell? ⟨w2.heap.size,0,none⟩=some (.int .u32 u')∧w'.cell? ⟨w2.heap.size,1,none⟩=some (.slice A' t.length c')∧w'.cell? ⟨w.heap.size,0,none⟩=some (.slice Ar l.length cr)∧w'.cell? ⟨w.heap.size,1,none⟩=some (.slice Aa ps.length ca)∧w'.cell? ⟨w.heap.size,2,none⟩=some (.int .u32 u')∧w'.cell? ⟨w.heap.size,3,none⟩=some (.bool s)) (first|exact⟨f0,f1,b0,b1,b2,b3⟩|exact⟨g0,g1,d0,d1,d2,d3⟩|exact⟨p0,p1,q0,q1,q2,q3⟩) (first
    |(go_at_call 124;refine EN.out.mono ?_;rintro ee w5 ⟨v5,rfl,hR5,hb5⟩;obtain⟨A5,c5,hv5⟩:=Kd.R_slice hR5;subst hv5;have c:=QA hb5;have m:=QA (Kd.R_reads' hR5).2;have HKF5:=QA (Qdo HKF.out hb5);have HKV5:=QA (Qdo HKV.out hb5);obtain⟨g0,g1,_,_⟩:=Qrf HKF5.out;obtain⟨d0,d1,d2,d3⟩:=Qrp HKV5.out;clear hb5 hR5)
    |(go_at_call 123;refine(Qca.calls _ A' c' t A5 c5 (Qmu (Qqb l ps)) bq _ (Kd.C_below HCT.out c.out) HNC.out m.out.2 m.out.1 EQ.out).mono ?_;rintro ee w6 ⟨rfl,hd6⟩;have d:=QA hd6.below;obtain⟨p0,p1,_,_⟩:=Qrf (Qdo HKF5.out d.out);obtain⟨q0,q1,q2,q3⟩:=Qrp (Qdo HKV5.out d.out);clear hd6))
   all_goals
    go_wp2;go_ret
    have z1:=HBB.out.size;have z2:=c.out.size;exact⟨rfl,((Qcf HBB.out).trans (Qis c.out z1)).trans (Qis d.out (Nat.le_trans z1 z2))⟩
  ·have hne:(u' == u)=false:=beq_eq_false_iff_ne.2 hu;have hcl:Qro u l ps (some (u',t))=false:=by simp[Qro,hu]
   rw[hcl];clear hcl
   go_enter Tryz.func70,Tryz.ntmps70
   go_wp2_with (go_at_call 122;refine FG.out.mono ?_;rintro ee w2 ⟨⟨_,A',n',c',er,rfl,rfl,rfl,rfl,hnc,hC2⟩,hb2⟩;have a:=QA hb2;have j:=QA hC2;have HNC:=QA hnc;clear hb2 hC2 hnc)
   have kf:=Qdp w2 (.cells #[.int .u32 u',.slice A' t.length c'] 134);have kb:=Qdl (Qdo g.out a.out) (.cells #[.int .u32 u',.slice A' t.length c'] 134);obtain⟨f0,f1,_,_⟩:=Qrf kf;obtain⟨b0,b1,b2,b3⟩:=Qrp kb;obtain⟨W3,hW3⟩:∃W3,W3=w2.alloc (.cells #[.int .u32 u',.slice A' t.length c'] 134):=⟨_,rfl⟩;have hBB:Below w.heap.size w W3:=by rw[hW3];exact(b.out.trans (Qis a.out b.out.size)).trans (Qis (Qce (Below.refl _ _) _) (Nat.le_trans b.out.size a.out.size))
   rw[← hW3]at f0 f1 b0 b1 b2 b3 ⊢;have HBB:=QA hBB;clear hW3 kf kb hBB
   go_region
   go_wp2;go_ret
   exact⟨rfl,Qcf HBB.out⟩
end Go.Proofs.YteaocbonofboeaaGreat.C
end
