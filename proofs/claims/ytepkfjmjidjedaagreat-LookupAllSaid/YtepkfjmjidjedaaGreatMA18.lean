/- Merged texts. -/
import Derived.Test.YtepkfjmjidjedaaGreatMA02
import Derived.Test.YtepkfjmjidjedaaGreatMA03
import Derived.Test.YtepkfjmjidjedaaGreatMA13
import Derived.Test.YtepkfjmjidjedaaGreatMA12
import Derived.Test.YtepkfjmjidjedaaGreatMA06
import Derived.Test.YtepkfjmjidjedaaGreatMA11
import Derived.Test.YtepkfjmjidjedaaGreatMA17
import Derived.Test.YtepkfjmjidjedaaGreatMA15
import Derived.WalkMore
import Derived.Test.YtepkfjmjidjedaaGreatMA08
import Derived.Test.YtepkfjmjidjedaaGreatMA07
import Derived.Test.YtepkfjmjidjedaaGreatMA16
set_option linter.unusedVariables false
set_option linter.unusedSimpArgs false
set_option maxHeartbeats 8000000
set_option maxRecDepth 100000
section
namespace Go.Proofs.YtepkfjmjidjedaaGreat.C
open Go.RowKit Go.Proofs.YtepkfjmjidjedaaGreatW.PrintWords Go.Proofs.YtepkfjmjidjedaaGreatW.PrintLast Go.Proofs.YtepkfjmjidjedaaGreatW.PrintMore
attribute [local go_sem] Qho Qhp Qhq Qhr Qhs Qht Qhu Qhv
attribute [local go_sem high] Qmo
def Qce.l0:Nat→List (S177)→List (S177)→Int→Int→Option (Bool)
 | 0,_,_,_,_=>none
 | k+1,x0,x1,x12,x13=>if x13<x12 then(if 0≤x13 then(if x13<(x0.length:Int)then(if x13<(x1.length:Int)then(if(!(((Qio x0 x13).f0) == ((Qio x1 x13).f0)) ||(!(((Qio x0 x13).f1) == ((Qio x1 x13).f1))))=true then(some false)else(Qce.l0 k x0 x1 x12 (wrap64 (x13+1))))else(none))else(none))else(none))else(some true)
def Qce.f(k:Nat)(l0:List (S177))(l1:List (S177)):Option (Bool):=if(l0.length:Int)=(l1.length:Int)then(Qce.l0 k l0 l1 (l0.length:Int) 0)else(some false)
theorem Qce.calls (k:Nat) (A0:Option Addr) (c0:Nat) (l0:List (S177)) (A1:Option Addr) (c1:Nat) (l1:List (S177)) (r:Bool) (w:World) (hr0:Kd.C k177 w A0 l0.length l0) (hc0:l0.length≤c0) (hr1:Kd.C k177 w A1 l1.length l1) (hc1:l1.length≤c1) (h:Qce.f k l0 l1=some r) :
  Calls Tryz.prog 184 #[.slice A0 l0.length c0,.slice A1 l1.length c1] w fun e w'=>e=.returned (.bool r)∧Drawn0 w w':=by
 have hu177:=Tryz.underlying177;have x:=QA hr0;have I:=QA hc0;clear hr0 hc0;have y:=QA hr1;have J:=QA hc1;clear hr1 hc1;have H:(if(l0.length:Int)=(l1.length:Int)then(Qce.l0 k l0 l1 (l0.length:Int) 0)else(some false))=some r:=h;clear h
 by_cases c3:(l0.length:Int)=(l1.length:Int)
 ·rw [if_pos c3]at H;have q:((l0.length:Int) == (l1.length:Int))=true:=beq_iff_eq.mpr c3;have s:((l0.length:Int) != (l1.length:Int))=false:=bne_eq_false_iff_eq.mpr c3;have t:(l0.length == l1.length)=true:=by first|simpa using c3 |(simp at c3 ⊢;omega)
  clear c3;have H':=QA H;clear H
  go_enter Tryz.func184,Tryz.ntmps184
  go_wp2
  repeat(go_quiet (fail);try go_wp2)
  go_loopg [13] k (fun kq B w'=>∃(a:Int),B=.int .i64 a∧Aside0 (Qce.l0 kq l0 l1 (l0.length:Int) a=some r)∧Aside0 (kq≤k)∧Drawn0 w w')
  case atStart=>exact⟨(0),qq_7,H',⟨Nat.le_refl _⟩,by repeat(first|exact Drawn0.refl _|apply Drawn0.step)⟩
  case round =>
   clear H'
   try clear c1
   try clear c3
   try clear q
   try clear s
   try clear t
   obtain⟨a,rfl,HA,HK1,⟨m1,rfl⟩⟩:=hrel
   cases gk with
   | zero=>exact absurd HA.out (by simp[Qce.l0])
   | succ k1 =>
    have H:=HA.out;clear HA;simp only[Qce.l0]at H
    by_cases c4:a<(l0.length:Int)
    ·rw [if_pos c4]at H;have z:=decide_eq_true c4;clear c4
     by_cases c5:0≤a
     ·rw [if_pos c5]at H;have D:=decide_eq_true c5;clear c5
      by_cases c6:a<(l0.length:Int)
      ·rw[if_pos c6]at H;have E:=decide_eq_true c6;clear c6
       by_cases c7:a<(l1.length:Int)
       ·rw[if_pos c7]at H;have G:=decide_eq_true c7;clear c7
        by_cases c8:(!(((Qio l0 a).f0) == ((Qio l1 a).f0)) ||(!(((Qio l0 a).f1) == ((Qio l1 a).f1))))=true
        ·rw[if_pos c8]at H;have A:(!(((Qio l0 a).f0) == ((Qio l1 a).f0)) ||(!(((Qio l0 a).f1) == ((Qio l1 a).f1))))=true:=c8;clear c8;obtain rfl:=Option.some.inj H;have b:0≤(a:Int):=of_decide_eq_true qq_3;have c:a<(l0.length:Int):=of_decide_eq_true qq_3;obtain⟨u,j,m,n⟩:=Qip x.out a b c
         cases j
         replace b:=eq_true b;replace c:=eq_true c;have d:0≤(a:Int):=of_decide_eq_true qq_3;have g:a<(l1.length:Int):=of_decide_eq_true qq_3;obtain⟨v,l,o,p⟩:=Qip y.out a d g
         cases l
         replace d:=eq_true d;replace g:=eq_true g;go_wp2
         repeat(go_quiet (fail);try go_wp2)
         go_ret
         exact⟨by first|rfl |(simp;done) |(simp[*];done),by repeat(first|exact Drawn0.refl _|apply Drawn0.step)⟩
        ·rw[if_neg c8]at H;have A:(!(((Qio l0 a).f0) == ((Qio l1 a).f0)) ||(!(((Qio l0 a).f1) == ((Qio l1 a).f1))))=false:=by simpa using c8
         clear c8;have H':=QA H;clear H;have b:0≤(a:Int):=of_decide_eq_true qq_3;have c:a<(l0.length:Int):=of_decide_eq_true qq_3;obtain⟨u,j,m,n⟩:=Qip x.out a b c
         cases j
         replace b:=eq_true b;replace c:=eq_true c;have d:0≤(a:Int):=of_decide_eq_true qq_3;have g:a<(l1.length:Int):=of_decide_eq_true qq_3;obtain⟨v,l,o,p⟩:=Qip y.out a d g
         cases l
         replace d:=eq_true d;replace g:=eq_true g;go_wp2
         repeat(go_quiet (fail);try go_wp2)
         go_roundg k1
         case measure=>have:=HK1.out;omega
         case rel=>exact⟨(wrap64 (a+1)),qq_7,H',⟨by have:=HK1.out;omega⟩,by repeat(first|exact Drawn0.refl _|apply Drawn0.step)⟩
       ·rw[if_neg c7]at H;exact absurd H (by simp)
      ·rw[if_neg c6]at H;exact absurd H (by simp)
     ·rw[if_neg c5]at H;exact absurd H (by simp)
    ·rw[if_neg c4]at H;have z:=decide_eq_false c4;clear c4;obtain rfl:=Option.some.inj H;go_wp2
     repeat(go_quiet (fail);try go_wp2)
     go_ret
     exact⟨by first|rfl |(simp;done) |(simp[*];done),by repeat(first|exact Drawn0.refl _|apply Drawn0.step)⟩
 ·rw[if_neg c3]at H;have q:((l0.length:Int) == (l1.length:Int))=false:=beq_eq_false_iff_ne.mpr c3;have s:((l0.length:Int) != (l1.length:Int))=true:=bne_iff_ne.mpr c3;have t:(l0.length == l1.length)=false:=by first|simpa using c3 |(simp at c3 ⊢;omega)
  obtain rfl:=Option.some.inj H
  go_enter Tryz.func184,Tryz.ntmps184
  go_wp2
  repeat(go_quiet (fail);try go_wp2)
  go_ret
  exact⟨by first|rfl |(simp;done) |(simp[*];done),by repeat(first|exact Drawn0.refl _|apply Drawn0.step)⟩
end Go.Proofs.YtepkfjmjidjedaaGreat.C
end
section
namespace Go.Proofs.YtepkfjmjidjedaaGreat.C
open Go.RowKit Go.Proofs.YtepkfjmjidjedaaGreatW.PrintWords Go.Proofs.YtepkfjmjidjedaaGreatW.PrintLast Go.Proofs.YtepkfjmjidjedaaGreatW.PrintMore
instance decEnt:DecidableEq Ent:=fun a b=>if h:a.f0=b.f0∧a.f1=b.f1 then isTrue (by cases a;cases b;simp_all)else isFalse (fun e=>h (by rw[e];exact⟨rfl,rfl⟩))
theorem Qsm(x y:List Ent)(hxy:x.length=y.length)(hl:x.length≤1099511627776):∀(d i k:Nat),i+d=x.length→d+1≤k→Qce.l0 k x y (x.length:Int) (i:Int)=some (decide (x.drop i=y.drop i))
 | 0,i,k+1,h,hk=>by
  unfold Qce.l0;rw[if_neg (by omega),List.drop_eq_nil_of_le (show x.length≤i by omega),List.drop_eq_nil_of_le (show y.length≤i by omega)];simp
 | d+1,i,k+1,h,hk=>by
  unfold Qce.l0;have hw:wrap64 ((i:Int)+1)=((i+1:Nat):Int):=by unfold wrap64;omega
  have hx:x.drop i=Qio x (i:Int) :: x.drop (i+1):=by rw[rdE x i (show i<x.length by omega)];exact List.drop_eq_getElem_cons (by omega)
  have hy:y.drop i=Qio y (i:Int) :: y.drop (i+1):=by rw[rdE y i (show i<y.length by omega)];exact List.drop_eq_getElem_cons (by omega)
  rw[if_pos (by omega),if_pos (by omega),if_pos (by omega),if_pos (by omega),hw,Qsm x y hxy hl d (i+1) k (by omega) (by omega),hx,hy];generalize Qio x (i:Int)=a;generalize Qio y (i:Int)=b;obtain⟨a0,a1⟩:=a;obtain⟨b0,b1⟩:=b
  by_cases h0:a0=b0
  ·by_cases h1:a1=b1
   ·simp[h0,h1]
   ·simp[h0,h1]
  ·simp[h0]
theorem eqE_is(x y:List Ent)(hl:x.length≤1099511627776):Qce.f (x.length+2) x y=some (decide (x=y)):=by
 unfold Qce.f
 by_cases h:x.length=y.length
 ·rw[if_pos (by omega)];have:=Qsm x y h hl x.length 0 (x.length+2) (by omega) (by omega)
  simpa using this
 ·rw[if_neg (by omega)];have:¬x=y:=fun e=>h (by rw[e])
  simp[this]
theorem Qsn{e0:Int}{out:List Int}{u:Int}{t:List Ent}(h:getF e0 out=some (u,t)):t.length≤1048576:=by
 unfold getF at h;split at h
 ·split at h
  ·split at h
   ·rename_i hc
    cases h
    have hc:=hc.1;unfold Qnm at hc;split at hc
    ·cases hc
    ·split at hc
     ·cases hc
     ·omega
   ·cases h
  ·cases h
 ·cases h
def Qso(u:Int)(l:List Rec)(ps:List Int)(r:Option (Int × List Ent)):Bool:=match r with
 | some (u',t)=>decide (u'=u) && decide (t=Qmu (Qrb l ps))
 | none=>false
theorem Qsp{W:World}{B:Nat}{a b:Value}{u:Int}{s:Bool}(h:W.heap[B]? = some (.cells #[a,b,.int .u32 u,.bool s] 139 (0,0))) :
  W.cell? ⟨B,0,none⟩=some a∧W.cell? ⟨B,1,none⟩=some b∧W.cell? ⟨B,2,none⟩=some (.int .u32 u)∧W.cell? ⟨B,3,none⟩=some (.bool s) :=
 ⟨(Qdf h 0).trans rfl,(Qdf h 1).trans rfl,(Qdf h 2).trans rfl,(Qdf h 3).trans rfl⟩
theorem Qsq(k:Nat)(Ar Aa Ac:Option Addr)(cr ca cc:Nat)(l:List Rec)(ps lc out:List Int)(u e0:Int)(s:Bool)(w:World)(hr:Kd.C k36 w Ar l.length l)(ha:Kd.C (Kd.int .u32) w Aa ps.length ps)(hlen:ps.length=l.length)(hl:l.length≤1000000000)
  (hk:∀r∈l,r.f2.size≤140737488355328) (hnd:(Qrb l ps).Nodup) (hcc:Kd.C (Kd.int .u8) w Ac lc.length lc) (hlc:lc.length≤cc) (hO:Qbg.f k lc=some (out,e0)) (hb:e0=0→CodecP.Bytes out∧out.length≤100000000000) :
  Calls Tryz.prog 124 #[.agg #[.slice Ar l.length cr,.slice Aa ps.length ca,.int .u32 u,.bool s],.slice Ac lc.length cc] w fun e w'=>e=.returned (.bool (Qso u l ps (getF e0 out)))∧Below w.heap.size w w':=by
 have hu76:=Tryz.underlying139;have hft:=Tryz.underlying169;have hB1:Below w.heap.size w (w.alloc (.cells #[.slice Ar l.length cr,.slice Aa ps.length ca,.int .u32 u,.bool s] 139)):=Qci (Below.refl _ _) _;have g:=QA (Qdt w (.cells #[.slice Ar l.length cr,.slice Aa ps.length ca,.int .u32 u,.bool s] 139));have HCR:=QA (Kd.C_below hr hB1);have HCA:=QA (Kd.C_below ha hB1);have FG:=QA (Qsl k Ac cc lc out e0 _ (Kd.C_below hcc hB1) hlc hO hb);have b:=QA hB1;have HK:=QA hk;have HND:=QA hnd;have n:=QA hlen;obtain⟨R,hR⟩:∃R,R=getF e0 out:=⟨_,rfl⟩;rw[← hR]at FG ⊢;have HTL:Aside0 (∀u t,R=some (u,t)→t.length≤1048576):=⟨fun u t h=>Qsn (hR.symm.trans h)⟩;clear hr ha hB1 hk hnd hlen hcc hlc hO hb hR
 cases R with
 | none =>
  show Calls _ _ _ _ fun e w'=>e=.returned (.bool false)∧Below w.heap.size w w'
  go_enter Tryz.func124,Tryz.ntmps124
  go_wp2_with (go_at_call 183;refine FG.out.mono ?_;rintro ee w2 ⟨⟨u',A',n',c',er,rfl,her⟩,hb2⟩;have h0:(er == 0)=false:=beq_eq_false_iff_ne.2 her;have a:=QA hb2;clear her hb2)
  go_region
  go_wp2;go_ret
  exact⟨rfl,Qcj ((b.out.trans (Qis a.out b.out.size)).trans (Qis (Qci (Below.refl _ _) _) (Nat.le_trans b.out.size a.out.size)))⟩
 | some p =>
  obtain⟨u',t⟩:=p
  by_cases hu:u'=u
  ·subst hu;have hee:(u' == u')=true:=beq_self_eq_true u';obtain⟨bq,hbq⟩:∃bq,bq=decide (t=Qmu (Qrb l ps)):=⟨_,rfl⟩;have hcl:Qso u' l ps (some (u',t))=bq:=by rw[hbq];simp[Qso]
   rw[hcl];have HBQ:=QA hbq;clear hbq hcl
   go_enter Tryz.func124,Tryz.ntmps124
   go_wp2_with (go_at_call 183;refine FG.out.mono ?_;rintro ee w2 ⟨⟨_,A',n',c',er,rfl,rfl,rfl,rfl,hnc,hC2⟩,hb2⟩;have a:=QA hb2;have j:=QA hC2;have HNC:=QA hnc;clear hb2 hC2 hnc)
   have kf:=Qdt w2 (.cells #[.int .u32 u',.slice A' t.length c'] 169);have kb:=Qdp (Qds g.out a.out) (.cells #[.int .u32 u',.slice A' t.length c'] 169);obtain⟨W3,hW3⟩:∃W3,W3=w2.alloc (.cells #[.int .u32 u',.slice A' t.length c'] 169):=⟨_,rfl⟩;have hb3:Below w2.heap.size w2 W3:=by rw[hW3];exact Qci (Below.refl _ _) _
   have hBB:Below w.heap.size w W3:=(b.out.trans (Qis a.out b.out.size)).trans (Qis hb3 (Nat.le_trans b.out.size a.out.size));rw[← hW3]at kf kb ⊢;have kfd:W3.drew.heap[w2.heap.size]? = some (.cells #[.int .u32 u',.slice A' t.length c'] 169 (0,0)):=kf;have kbd:W3.drew.heap[w.heap.size]? = some (.cells #[.slice Ar l.length cr,.slice Aa ps.length ca,.int .u32 u',.bool s] 139 (0,0)):=kb;obtain⟨f0,f1,_,_⟩:=Qsf kfd;obtain⟨b0,b1,b2,b3⟩:=Qsp kbd;have b2d:Below w2.heap.size w2 W3.drew:=Qcj hb3;have HBB:=QA hBB;have HCT:=QA (Kd.C_below j.out b2d);have EN:=QA (Qre Ar Aa cr ca l ps u' s W3.drew (Kd.C_below HCR.out (a.out.trans (Qis b2d a.out.size))) (Kd.C_below HCA.out (a.out.trans (Qis b2d a.out.size))) n.out hl HK.out HND.out);have EQ:=QA (eqE_is t (Qmu (Qrb l ps)) (by have:=HTL.out _ _ rfl;omega));rw[← HBQ.out]at EQ;have HKF:=QA kfd;have HKV:=QA kbd;clear hW3 kf kb hBB kfd kbd b2d hb3
   go_region_held3 (fun w'=>w'.cell? ⟨w2.heap.size,0,none⟩=some (.int .u32 u')∧w'.cell? ⟨w2.heap.size,1,none⟩=some (.slice A' t.length c')∧w'.cell? ⟨w.heap.size,0,none⟩=some (.slice Ar l.length cr)∧w'.cell? ⟨w.heap.size,1,none⟩=some (.slice Aa ps.length ca)∧w'.cell? ⟨w.heap.size,2,none⟩=some (.int .u32 u')∧w'.cell? ⟨w.heap.size,3,none⟩=some (.bool s)) (first|exact⟨f0,f1,b0,b1,b2,b3⟩|exact⟨g0,g1,d0,d1,d2,d3⟩|exact⟨p0,p1,q0,q1,q2,q3⟩) (first
    |(go_at_call 185;refine EN.out.mono ?_;rintro ee w5 ⟨v5,rfl,hR5,hb5⟩;obtain⟨A5,c5,hv5⟩:=Kd.R_slice hR5;subst hv5;have c:=QA hb5;have m:=QA (Kd.R_reads' hR5).2;have HKF5:=QA (Qds HKF.out hb5);have HKV5:=QA (Qds HKV.out hb5);obtain⟨g0,g1,_,_⟩:=Qsf HKF5.out;obtain⟨d0,d1,d2,d3⟩:=Qsp HKV5.out;clear hb5 hR5)
    |(go_at_call 184;refine(Qce.calls _ A' c' t A5 c5 (Qmu (Qrb l ps)) bq _ (Kd.C_below HCT.out c.out) HNC.out m.out.2 m.out.1 EQ.out).mono ?_;rintro ee w6 ⟨rfl,hd6⟩;have d:=QA hd6.below;obtain⟨p0,p1,_,_⟩:=Qsf (Qds HKF5.out d.out);obtain⟨q0,q1,q2,q3⟩:=Qsp (Qds HKV5.out d.out);clear hd6))
   all_goals
    go_wp2;go_ret
    have z1:=HBB.out.size;have z2:=c.out.size;exact⟨rfl,((Qcj HBB.out).trans (Qis c.out z1)).trans (Qis d.out (Nat.le_trans z1 z2))⟩
  ·have hne:(u' == u)=false:=beq_eq_false_iff_ne.2 hu;have hcl:Qso u l ps (some (u',t))=false:=by simp[Qso,hu]
   rw[hcl];clear hcl
   go_enter Tryz.func124,Tryz.ntmps124
   go_wp2_with (go_at_call 183;refine FG.out.mono ?_;rintro ee w2 ⟨⟨_,A',n',c',er,rfl,rfl,rfl,rfl,hnc,hC2⟩,hb2⟩;have a:=QA hb2;have j:=QA hC2;have HNC:=QA hnc;clear hb2 hC2 hnc)
   have kf:=Qdt w2 (.cells #[.int .u32 u',.slice A' t.length c'] 169);have kb:=Qdp (Qds g.out a.out) (.cells #[.int .u32 u',.slice A' t.length c'] 169);obtain⟨f0,f1,_,_⟩:=Qsf kf;obtain⟨b0,b1,b2,b3⟩:=Qsp kb;obtain⟨W3,hW3⟩:∃W3,W3=w2.alloc (.cells #[.int .u32 u',.slice A' t.length c'] 169):=⟨_,rfl⟩;have hBB:Below w.heap.size w W3:=by rw[hW3];exact(b.out.trans (Qis a.out b.out.size)).trans (Qis (Qci (Below.refl _ _) _) (Nat.le_trans b.out.size a.out.size))
   rw[← hW3]at f0 f1 b0 b1 b2 b3 ⊢;have HBB:=QA hBB;clear hW3 kf kb hBB
   go_region
   go_wp2;go_ret
   exact⟨rfl,Qcj HBB.out⟩
noncomputable def Qtk(k:Nat)(b:List Int):Nat→List Rec→List Int→Nat→Option (Option (List Rec × List Int × Nat × Bool))
 | 0,_,_,_=>none
 | f + 1,l,ps,u =>
  if ixOf (b.drop u) 0<0 then some (if Qsr (b.drop u)=true then some (l,ps,u,false)else none)
  else(Qbf.f k ((b.drop u).take (ixOf (b.drop u) 0).toNat)).bind fun r =>
   if r.2.2.2.2=0 then
    (if r.2.2.1.size≤140737488355328 then Qtk k b f (l++[(⟨r.1,r.2.1,r.2.2.1,r.2.2.2.1⟩:Rec)]) (ps++[(u:Int)]) (u+(ixOf (b.drop u) 0).toNat+1)else none)
   else(Qbg.f k ((b.drop u).take (ixOf (b.drop u) 0).toNat)).bind fun o =>
    @ite _ (o.2=0→CodecP.Bytes o.1∧o.1.length≤100000000000) (Classical.propDecidable _)
     (some (if Qso u l ps (getF o.2 o.1)=true∧Qsr (b.drop (u+(ixOf (b.drop u) 0).toNat+1))=true then some (l,ps,u,true)else none)) none
def Qtl(res:Option (List Rec × List Int × Nat × Bool))(er:Int)(w:World)(e:Ending)(w':World):Prop :=
 (match res with
  | some (l,ps,u,sl)=>∃Ar cr Aa ca,e=.returned (.tuple #[.agg #[.slice Ar l.length cr,.slice Aa ps.length ca,.int .u32 u,.bool sl],.int .i64 0])∧Kd.R k36 36 w' w.heap.size (fun _=>True) (.slice Ar l.length cr) l∧Kd.R (Kd.int .u32) 38 w' w.heap.size (fun _=>True) (.slice Aa ps.length ca) ps
  | none=>e=.returned (.tuple #[.agg #[.slice none 0 0,.slice none 0 0,.int .u32 0,.bool false],.int .i64 er]))∧Below w.heap.size w w'
theorem Qtm{W:World}{g:Nat}{a b:Value}{u:Int}{s:Bool}(h:W.heap[g]? = some (.cells #[a,b,.int .u32 u,.bool s] 139 (0,0))) :
  W.frozen? ⟨g,0,none⟩=false∧W.frozen? ⟨g,1,none⟩=false∧W.frozen? ⟨g,2,none⟩=false∧W.frozen? ⟨g,3,none⟩=false :=
 ⟨Qdg h 0,Qdg h 1,Qdg h 2,Qdg h 3⟩
theorem Qtn{W:World}{g:Nat}{cs:Array Value}(a b:Value)(u:Int)(s:Bool)(h:W.heap[g]? = some (.cells cs 139 (0,0)))(hs:cs.size=4) :
  ((((W.setCell ⟨g,0,none⟩ a).setCell ⟨g,1,none⟩ b).setCell ⟨g,2,none⟩ (.int .u32 u)).setCell ⟨g,3,none⟩ (.bool s)).heap[g]? = some (.cells #[a,b,.int .u32 u,.bool s] 139 (0,0)):=by
 obtain⟨l⟩:=cs;obtain⟨x0,x1,x2,x3,rfl⟩:∃x0 x1 x2 x3,l=[x0,x1,x2,x3]:=by
  match l,hs with
  | [x0,x1,x2,x3],_=>exact⟨x0,x1,x2,x3,rfl⟩
 exact Qdc (Qdc (Qdc (Qdc h 0 a) 1 b) 2 (.int .u32 u)) 3 (.bool s)
theorem Qto{l:List Rec}{ps:List Int}(h:ps.Pairwise (· < ·)):(Qrb l ps).Nodup:=by
 induction l generalizing ps with
 | nil=>simp[Qrb]
 | cons r l ih =>
  cases ps with
  | nil=>simp[Qrb]
  | cons p ps =>
   obtain⟨h1,h2⟩:=List.pairwise_cons.1 h;show(_ :: Qrb l ps).Nodup;refine List.nodup_cons.2 ⟨fun hm=>?_,ih h2⟩;have:∀(l:List Rec) (ps:List Int) (x:Ent),x∈Qrb l ps→x.f1∈ps:=by
    intro l
    induction l with
    | nil=>intro ps x hx;simp[Qrb]at hx
    | cons r l ih =>
     intro ps x hx
     cases ps with
     | nil=>simp[Qrb]at hx
     | cons p ps =>
      rcases List.mem_cons.1 (show x∈_ :: Qrb l ps from hx)with rfl|hx
      ·exact List.mem_cons_self ..
      ·exact List.mem_cons_of_mem _ (ih ps x hx)
   have h3:=h1 _ (this _ _ _ hm);exact absurd h3 (Int.lt_irrefl _)
theorem Qtp(e s n er:Int)(Ab:Option Addr)(cb:Nat)(b hd:List Int)(w:World)(hp:Qbh.f e s n=some (hd,er))(her:er≠0) :
  Calls Tryz.prog 67 #[.agg #[.int .u8 e,.int .u32 s],.int .u32 n,.slice Ab b.length cb] w (Qtl none er w):=by
 have hu76:=Tryz.underlying139;have hu27:=Tryz.underlying40;have HP:=QA hp;have hne:(er != 0)=true:=bne_iff_ne.2 her;have hb0:Below w.heap.size w ((w.alloc (.cells #[.int .u8 e,.int .u32 s] 40)).alloc (.cells #[.slice none 0 0,.slice none 0 0,.int .u32 0,.bool false] 139)):=Qci (Qci (Below.refl _ _) _) _;have kc:=Qdp (Qdt w (.cells #[.int .u8 e,.int .u32 s] 40)) (.cells #[.slice none 0 0,.slice none 0 0,.int .u32 0,.bool false] 139);have kr:=Qdt (w.alloc (.cells #[.int .u8 e,.int .u32 s] 40)) (.cells #[.slice none 0 0,.slice none 0 0,.int .u32 0,.bool false] 139);rw[World.size_alloc]at kr;obtain⟨c0,c1⟩:=box2 kc;have KR:=QA kr;have a:=QA hb0;clear hp kc kr hb0
 go_enter Tryz.func67,Tryz.ntmps67
 go_wp2
 go_step3
 go_wp2_with (go_at_call 90;refine(Qbh.calls e s n hd er _ HP.out).mono ?_;rintro ee w1 ⟨v1,rfl,hR1,hb1⟩;obtain⟨A1,d1,rfl⟩:=Kd.R_slice hR1;have c:=QA hb1;have kr1:=Qds KR.out hb1;obtain⟨q0,q1,q2,q3⟩:=Qsp kr1;obtain⟨g0,g1,g2,g3⟩:=Qtm kr1;clear hb1 hR1)
 rw[Exit.noGoto_ret];refine bodyPost_ret (Qdu rfl _ _ (w.heap.size+1) 139 #[.slice none 0 0,.slice none 0 0,.int .u32 0,.bool false] (0,0) _ rfl (Qtn _ _ _ _ kr1 rfl) hu76 rfl qq_5) rfl ?_;have hs:w.heap.size≤w.heap.size+1:=Nat.le_succ _;exact⟨rfl,Qir (Qir (Qir (Qir (a.out.trans (Qis c.out a.out.size)) hs) hs) hs) hs⟩
theorem Qtq(e s n sz:Int)(Ab:Option Addr)(cb:Nat)(b hd:List Int)(w:World)(hcs:Kd.C (Kd.int .u8) w Ab b.length b)(hcb:b.length≤cb)(hby:CodecP.Bytes b∧CodecP.Bytes hd∧b.length≤100000000000)(hp:Qbh.f e s n=some (hd,0))(hsz:Qaq.f e s=some sz)(hne:(b.length:Int)≠sz) :
  Calls Tryz.prog 67 #[.agg #[.int .u8 e,.int .u32 s],.int .u32 n,.slice Ab b.length cb] w (Qtl none 4 w):=by
 have hu76:=Tryz.underlying139;have hu27:=Tryz.underlying40;have HP:=QA hp;have HSZ:=QA hsz;have HBY:=QA hby;have HCB:=QA hcb;have hb0:Below w.heap.size w ((w.alloc (.cells #[.int .u8 e,.int .u32 s] 40)).alloc (.cells #[.slice none 0 0,.slice none 0 0,.int .u32 0,.bool false] 139)):=Qci (Qci (Below.refl _ _) _) _;have kc:=Qdp (Qdt w (.cells #[.int .u8 e,.int .u32 s] 40)) (.cells #[.slice none 0 0,.slice none 0 0,.int .u32 0,.bool false] 139);have kr:=Qdt (w.alloc (.cells #[.int .u8 e,.int .u32 s] 40)) (.cells #[.slice none 0 0,.slice none 0 0,.int .u32 0,.bool false] 139);rw[World.size_alloc]at kr;obtain⟨c0,c1⟩:=box2 kc;have KC:=QA kc;have KR:=QA kr;have a:=QA hb0;have HC:=QA (Kd.C_below hcs hb0);clear hp hsz hby kc kr hb0 hcs hcb;have hnb:((b.length:Int) != sz)=true:=bne_iff_ne.2 hne
 go_enter Tryz.func67,Tryz.ntmps67
 go_wp2
 go_step3
 go_wp2_with (first
  |(go_at_call 57;refine(Qaq.calls _ _ _ _ HSZ.out).mono ?_;rintro ee w2 ⟨rfl,hb2⟩;have d:=QA hb2;have KR2:=QA (Qds KR1.out hb2);have g:=QA (Kd.C_below (Kd.C_below HC.out c.out) hb2);have HCH2:=QA (Kd.C_below HCH.out.2 hb2);clear hb2;obtain⟨q0,q1,q2,q3⟩:=Qsp KR2.out;obtain⟨g0,g1,g2,g3⟩:=Qtm KR2.out)
  |(go_at_call 90;refine(Qbh.calls e s n hd 0 _ HP.out).mono ?_;rintro ee w1 ⟨v1,rfl,hR1,hb1⟩;obtain⟨A1,d1,hv1⟩:=Kd.R_slice hR1;subst hv1;have c:=QA hb1;have kr1:=Qds KR.out hb1;have KR1:=QA kr1;have KC1:=QA (Qds KC.out hb1);clear c0 c1;obtain⟨c0,c1⟩:=box2 KC1.out;have HCH:=QA (Kd.R_reads' hR1).2;clear hb1 hR1 kr1))
 rw[Exit.noGoto_ret];refine bodyPost_ret (Qdu rfl _ _ (w.heap.size+1) 139 #[.slice none 0 0,.slice none 0 0,.int .u32 0,.bool false] (0,0) _ rfl (Qtn _ _ _ _ KR2.out rfl) hu76 rfl qq_5) rfl ?_;have hs:w.heap.size≤w.heap.size+1:=Nat.le_succ _;exact⟨rfl,Qir (Qir (Qir (Qir ((a.out.trans (Qis c.out a.out.size)).trans (Qis d.out (Nat.le_trans a.out.size c.out.size))) hs) hs) hs) hs⟩
theorem Qtr(e s n sz:Int)(Ab:Option Addr)(cb:Nat)(b hd:List Int)(w:World)(hcs:Kd.C (Kd.int .u8) w Ab b.length b)(hcb:b.length≤cb)(hby:CodecP.Bytes b∧CodecP.Bytes hd∧b.length≤100000000000)(hp:Qbh.f e s n=some (hd,0))(hsz:Qaq.f e s=some sz)(heq:(b.length:Int)=sz)(hq:decide (b.take hd.length=hd)=false) :
  Calls Tryz.prog 67 #[.agg #[.int .u8 e,.int .u32 s],.int .u32 n,.slice Ab b.length cb] w (Qtl none 4 w):=by
 have hu76:=Tryz.underlying139;have hu27:=Tryz.underlying40;have HP:=QA hp;have HSZ:=QA hsz;have HBY:=QA hby;have HCB:=QA hcb;have hb0:Below w.heap.size w ((w.alloc (.cells #[.int .u8 e,.int .u32 s] 40)).alloc (.cells #[.slice none 0 0,.slice none 0 0,.int .u32 0,.bool false] 139)):=Qci (Qci (Below.refl _ _) _) _;have kc:=Qdp (Qdt w (.cells #[.int .u8 e,.int .u32 s] 40)) (.cells #[.slice none 0 0,.slice none 0 0,.int .u32 0,.bool false] 139);have kr:=Qdt (w.alloc (.cells #[.int .u8 e,.int .u32 s] 40)) (.cells #[.slice none 0 0,.slice none 0 0,.int .u32 0,.bool false] 139);rw[World.size_alloc]at kr;obtain⟨c0,c1⟩:=box2 kc;have KC:=QA kc;have KR:=QA kr;have a:=QA hb0;have HC:=QA (Kd.C_below hcs hb0);clear hp hsz hby kc kr hb0 hcs hcb;have hnb:((b.length:Int) != sz)=false:=bne_eq_false_iff_eq.2 heq;have HQ:=QA hq;clear hq heq
 go_enter Tryz.func67,Tryz.ntmps67
 go_wp2
 go_step3
 go_wp2_with (first
  |(go_at_call 121;refine(Qtj Ab A1 cb d1 b hd _ g.out HCB.out HCH2.out HCH.out.1 HBY.out.1 HBY.out.2.1 (by have:=HBY.out.2.2;omega)).mono ?_;rw[HQ.out];rintro ee w3 ⟨rfl,hb3⟩;have h:=QA hb3;have KR3:=QA (Qds KR2.out hb3);clear hb3;obtain⟨q0,q1,q2,q3⟩:=Qsp KR3.out;obtain⟨g0,g1,g2,g3⟩:=Qtm KR3.out)
  |(go_at_call 57;refine(Qaq.calls _ _ _ _ HSZ.out).mono ?_;rintro ee w2 ⟨rfl,hb2⟩;have d:=QA hb2;have KR2:=QA (Qds KR1.out hb2);have g:=QA (Kd.C_below (Kd.C_below HC.out c.out) hb2);have HCH2:=QA (Kd.C_below HCH.out.2 hb2);clear hb2)
  |(go_at_call 90;refine(Qbh.calls e s n hd 0 _ HP.out).mono ?_;rintro ee w1 ⟨v1,rfl,hR1,hb1⟩;obtain⟨A1,d1,hv1⟩:=Kd.R_slice hR1;subst hv1;have c:=QA hb1;have kr1:=Qds KR.out hb1;have KR1:=QA kr1;have KC1:=QA (Qds KC.out hb1);clear c0 c1;obtain⟨c0,c1⟩:=box2 KC1.out;have HCH:=QA (Kd.R_reads' hR1).2;clear hb1 hR1 kr1))
 rw[Exit.noGoto_ret];refine bodyPost_ret (Qdu rfl _ _ (w.heap.size+1) 139 #[.slice none 0 0,.slice none 0 0,.int .u32 0,.bool false] (0,0) _ rfl (Qtn _ _ _ _ KR3.out rfl) hu76 rfl qq_5) rfl ?_;have hs:w.heap.size≤w.heap.size+1:=Nat.le_succ _;exact⟨rfl,Qir (Qir (Qir (Qir (((a.out.trans (Qis c.out a.out.size)).trans (Qis d.out (Nat.le_trans a.out.size c.out.size))).trans (Qis h.out (Nat.le_trans (Nat.le_trans a.out.size c.out.size) d.out.size))) hs) hs) hs) hs⟩
theorem Qts{α:Type}{d:Kd α}{q base:Nat}{ok:Nat→Prop}{v:Value}{xs:List α}{W:World}{g:Nat}{cs:Array Value}(h:d.R q W base ok v xs)(hg:W.heap[g]? = some (.cells cs 139 (0,0)))(ht:∀q',q'∈q :: d.E→q'≠139)(a b c e:Value) :
  d.R q ((((W.setCell ⟨g,0,none⟩ a).setCell ⟨g,1,none⟩ b).setCell ⟨g,2,none⟩ c).setCell ⟨g,3,none⟩ e) base ok v xs :=
 Kd.R_set (Kd.R_set (Kd.R_set (Kd.R_set h hg ht 0 a) (Qdc hg 0 a) ht 1 b) (Qdc (Qdc hg 0 a) 1 b) ht 2 c) (Qdc (Qdc (Qdc hg 0 a) 1 b) 2 c) ht 3 e
theorem cutd(kk:IntKind)(A:Option Addr)(c:Nat)(l:List Int)(hlc:l.length≤c)(m:Nat)(hm:m≤l.length)(j:Int)(hj:j=(m:Int)):∃A' c',(∀W:World,(Instr.slice 47 (.slice A l.length c) (some (.int kk j)) none none).run Tryz.prog W=.ok (.slice A' (l.drop m).length c') W)∧(l.drop m).length≤c' ∧
  ∀W,Kd.C (Kd.int .u8) W A l.length l→Kd.C (Kd.int .u8) W A' (l.drop m).length (l.drop m):=by
 obtain⟨i0,hii,_,hsz1,_⟩:=info_parts Qid;have h:=Qef (P:=Tryz.prog) 47 5 kk Tryz.underlying47 hii 1 hsz1 A l.length c j (by omega) (by omega);rw[show j.toNat=m by omega]at h;refine⟨_,c-m,fun W=>by rw[List.length_drop];exact h W,by rw[List.length_drop];omega,fun W hC=>?_⟩;exact Kd.C_drop (m:=m) hC hm hlc
theorem cutt(kk:IntKind)(A:Option Addr)(c:Nat)(l:List Int)(hlc:l.length≤c)(m:Nat)(hm:m≤l.length)(j:Int)(hj:j=(m:Int)):(∀W:World,(Instr.slice 47 (.slice A l.length c) none (some (.int kk j)) none).run Tryz.prog W=.ok (.slice A (l.take m).length c) W)∧(l.take m).length≤c ∧
  ∀W,Kd.C (Kd.int .u8) W A l.length l→Kd.C (Kd.int .u8) W A (l.take m).length (l.take m):=by
 obtain⟨i0,hii,_,hsz1,_⟩:=info_parts Qid;have h:=Qee (P:=Tryz.prog) 47 5 kk Tryz.underlying47 hii A l.length c j (by omega) (by omega) hlc;rw[show j.toNat=m by omega]at h;have e:(l.take m).length=m:=by rw[List.length_take];omega
 refine⟨fun W=>by rw[e];exact h W,by omega,fun W hC=>?_⟩;exact Kd.C_take (m:=m) hC hm
theorem Qtt (e s n sz:Int) (Ab:Option Addr) (cb:Nat) (b hd:List Int) (w:World) (hcs:Kd.C (Kd.int .u8) w Ab b.length b) (hcb:b.length≤cb) (hby:CodecP.Bytes b∧CodecP.Bytes hd∧b.length≤100000000000) (hp:Qbh.f e s n=some (hd,0)) (hsz:Qaq.f e s=some sz) (k f0:Nat) (heq:(b.length:Int)=sz) (hq:decide (b.take hd.length=hd)=true) (hl4:b.length≤1000000000) (res:Option (List Rec × List Int × Nat × Bool)) (hsc:Qtk k b f0 [] [] hd.length=some res) :
  Calls Tryz.prog 67 #[.agg #[.int .u8 e,.int .u32 s],.int .u32 n,.slice Ab b.length cb] w (Qtl res 4 w):=by
 have hhd:hd.length≤b.length:=by
  have h:=of_decide_eq_true hq;have:=congrArg List.length h;rw[List.length_take]at this;omega
 obtain⟨J,hJ⟩:∃J:Int,J=(hd.length:Int):=⟨_,rfl⟩;obtain⟨A0,ac,hcutH,hlh,hCH⟩:=cutd .i64 Ab cb b hcb hd.length hhd (hd.length:Int) rfl;have HLH:=QA hlh;have HCH0:=QA (hCH w hcs);have HCB0:=QA hcs;have hu76:=Tryz.underlying139;have hu27:=Tryz.underlying40;have HP:=QA hp;have HSZ:=QA hsz;have HBY:=QA hby;have HCB:=QA hcb;have hb0:Below w.heap.size w ((w.alloc (.cells #[.int .u8 e,.int .u32 s] 40)).alloc (.cells #[.slice none 0 0,.slice none 0 0,.int .u32 0,.bool false] 139)):=Qci (Qci (Below.refl _ _) _) _;have kc:=Qdp (Qdt w (.cells #[.int .u8 e,.int .u32 s] 40)) (.cells #[.slice none 0 0,.slice none 0 0,.int .u32 0,.bool false] 139);have kr:=Qdt (w.alloc (.cells #[.int .u8 e,.int .u32 s] 40)) (.cells #[.slice none 0 0,.slice none 0 0,.int .u32 0,.bool false] 139);rw[World.size_alloc]at kr;obtain⟨c0,c1⟩:=box2 kc;have KC:=QA kc;have KR:=QA kr;have B:=QA hb0;have HC:=QA (Kd.C_below hcs hb0);clear hp hsz hby kc kr hb0 hcs hcb;have hnb:((b.length:Int) != sz)=false:=bne_eq_false_iff_eq.2 heq;have HQ:=QA hq;have HSC:=QA hsc;have HHD:=QA hhd;have HJ:=QA hJ;have hw32:IntKind.u32.wrap (hd.length:Int)=J:=(IntWalk.u32_in _ (by omega)).trans hJ.symm;clear hq heq hsc hlh hCH hJ hhd
 go_enter Tryz.func67,Tryz.ntmps67
 go_wp2
 go_step3
 go_wp2_with (first
  |(go_at_call 121;refine(Qtj Ab A1 cb d1 b hd _ Z.out HCB.out HCH2.out HCH.out.1 HBY.out.1 HBY.out.2.1 (by have:=HBY.out.2.2;omega)).mono ?_;rw[HQ.out];rintro ee w3 ⟨rfl,hb3⟩;have aa:=QA hb3;have KR3:=QA (Qds KR2.out hb3);clear hb3;clear c0 c1)
  |(go_at_call 57;refine(Qaq.calls _ _ _ _ HSZ.out).mono ?_;rintro ee w2 ⟨rfl,hb2⟩;have T:=QA hb2;have KR2:=QA (Qds KR1.out hb2);have Z:=QA (Kd.C_below (Kd.C_below HC.out D.out) hb2);have HCH2:=QA (Kd.C_below HCH.out.2 hb2);clear hb2)
  |(go_at_call 90;refine(Qbh.calls e s n hd 0 _ HP.out).mono ?_;rintro ee w1 ⟨v1,rfl,hR1,hb1⟩;obtain⟨A1,d1,hv1⟩:=Kd.R_slice hR1;subst hv1;have D:=QA hb1;have kr1:=Qds KR.out hb1;have KR1:=QA kr1;have KC1:=QA (Qds KC.out hb1);clear c0 c1;obtain⟨c0,c1⟩:=box2 KC1.out;have HCH:=QA (Kd.R_reads' hR1).2;clear hb1 hR1 kr1))
 go_step3
 obtain⟨W4,hW4⟩:∃W4,W4=w3.alloc (.cells #[.slice none 0 0,.slice none 0 0,.int .u32 J,.bool false] 139):=⟨_,rfl⟩;have hb34:Below w3.heap.size w3 W4:=by rw[hW4];exact Qci (Below.refl _ _) _
 have KV4:Aside0 (W4.heap[w3.heap.size]? = some (.cells #[.slice none 0 0,.slice none 0 0,.int .u32 J,.bool false] 139 (0,0))):=⟨by rw[hW4];exact Qdt w3 _⟩;have hbw3:Below w.heap.size w w3:=((B.out.trans (Qis D.out B.out.size)).trans (Qis T.out (Nat.le_trans B.out.size D.out.size))).trans (Qis aa.out (Nat.le_trans (Nat.le_trans B.out.size D.out.size) T.out.size));have X:=QA (hbw3.trans (Qis hb34 hbw3.size));have KR4:=QA (Qds KR3.out hb34);have HVB:=QA (Qde KR3.out);rw[← hW4];clear hW4 hb34 hbw3;obtain⟨vb,hvb⟩:∃vb,vb=w3.heap.size:=⟨_,rfl⟩;rw[← hvb]at KV4 HVB ⊢;clear hvb;go_wp2
 go_loopw [11] (fun L wr=>∃(l:List Rec) (ps:List Int) (u f:Nat) (U:Int) (Av Ar Aa:Option Addr) (cv cr ca:Nat),L=.slice Av (b.drop u).length cv∧Aside0 (U=(u:Int))∧Aside0 ((b.drop u).length≤cv)∧u≤b.length∧Aside0 (Kd.C (Kd.int .u8) w Av (b.drop u).length (b.drop u))∧Aside0 (Qtk k b f l ps u=some res) ∧
   Aside0 (wr.heap[vb]? = some (.cells #[.slice Ar l.length cr,.slice Aa ps.length ca,.int .u32 U,.bool false] 139 (0,0)))∧Aside0 (Kd.R k36 36 wr w.heap.size (fun _=>True) (.slice Ar l.length cr) l)∧Aside0 (Kd.R (Kd.int .u32) 38 wr w.heap.size (fun _=>True) (.slice Aa ps.length ca) ps) ∧
   Aside0 (wr.heap[w.heap.size+1]? = some (.cells #[.slice none 0 0,.slice none 0 0,.int .u32 0,.bool false] 139 (0,0)))∧Aside0 (Below w.heap.size w wr)∧Aside0 (∀r∈l,r.f2.size≤140737488355328)∧Aside0 (ps.Pairwise (· < ·)∧∀p∈ps,p<(u:Int))∧Aside0 (ps.length=l.length∧l.length≤u))
  (fun L _=>lenV L)
 case atStart=>exact⟨[],[],hd.length,f0,J,_,none,none,_,0,0,by rw[List.length_drop],HJ,HLH,HHD.out,HCH0,HSC,KV4,⟨Kd.R_nil _ _ _ _ _⟩,⟨Kd.R_nil _ _ _ _ _⟩,KR4,X,⟨by simp⟩,⟨by simp⟩,⟨by simp⟩⟩
 case round =>
  clear X KR4 KV4 HSC HCH0 HLH;obtain⟨l,ps,u,f,U,Av,Ar,Aa,cv,cr,ca,rfl,HU,HLC,hub,HCV,HSC,KV,E,HRA,KR,HB,HKZ,HPW,HLN⟩:=hrel;obtain⟨rst,hrst⟩:∃rst,rst=b.drop u:=⟨_,rfl⟩;rw[← hrst]at HLC HCV ⊢;have HRST:=QA hrst;clear hrst
  cases f with
  | zero=>exact absurd HSC.out (by simp[Qtk])
  | succ f =>
   have hsc:=HSC.out;unfold Qtk at hsc;rw[← HRST.out]at hsc;obtain⟨ix,hix⟩:∃ix,ix=ixOf rst 0:=⟨_,rfl⟩;rw[← hix]at hsc;have hixr:=Qjo rst 0;rw[← hix]at hixr;have IXC:=QA (fun W (h:Kd.C (Kd.int .u8) W Av rst.length rst)=>Qae.calls Av cv rst 0 ix W h HLC.out (by rw[hix];rfl));obtain⟨v0,v1,v2,v3⟩:=Qsp KV.out;have HIX:=QA hixr;clear hix HSC hixr
   by_cases hneg:ix<0
   ·rw[if_pos hneg]at hsc;have hng:decide (ix<0)=true:=decide_eq_true hneg;have HSC:=QA hsc;clear hsc hneg;obtain⟨Au,cu,hcutU,hlu,hCU⟩:=cutd .u32 Ab cb b HCB.out u hub U HU.out;rw[← HRST.out]at hcutU hlu hCU;have HLU:=QA hlu;have HCU:=QA (hCU w HCB0.out);obtain⟨fq,hfq⟩:∃fq,fq=Qsr rst:=⟨_,rfl⟩;have ERS:=QA (fun W (h:Kd.C (Kd.int .u8) W Au rst.length rst)=>Qsu Au cu rst W h (by have q:rst.length≤b.length:=(by rw[HRST.out,List.length_drop];omega);omega));rw[← hfq]at ERS;have HFQ:=QA hfq;clear hlu hCU hfq
    cases fq with
    | true =>
     have hres:some (l,ps,u,false)=res:=by
      have h:=HSC.out;rw[if_pos HFQ.out.symm]at h;exact Option.some.inj h
     subst hres
     go_wp2_with (first
      |(go_at_call 125;refine(ERS.out _ (Kd.C_below HCU.out (HB.out.trans (Qis d.out HB.out.size)))).mono ?_;rintro ee w6 ⟨rfl,rfl⟩;obtain⟨k0,k1,k2,k3⟩:=Qsp KR5.out;obtain⟨g0,g1,g2,g3⟩:=Qtm KR5.out)
      |(go_at_call 122;refine(IXC.out _ (Kd.C_below HCV.out HB.out)).mono ?_;rintro ee w5 ⟨rfl,hd5⟩;have d:=QA hd5.below;obtain⟨y0,y1,y2,y3⟩:=Qsp (Qds KV.out d.out);have KR5:=QA (Qds KR.out d.out);clear hd5))
     rw[Exit.noGoto_ret];refine bodyPost_ret (Qdu rfl _ _ (w.heap.size+1) 139 #[.slice Ar l.length cr,.slice Aa ps.length ca,.int .u32 U,.bool false] (0,0) _ rfl (Qtn _ _ _ _ KR5.out rfl) hu76 rfl qq_5) rfl ?_;have hs:w.heap.size≤w.heap.size+1:=Nat.le_succ _;have HRR6:=Qts (Kd.R_below E.out d.out) KR5.out (by decide) (.slice Ar l.length cr) (.slice Aa ps.length ca) (.int .u32 U) (.bool false);have HRA6:=Qts (Kd.R_below HRA.out d.out) KR5.out (by decide) (.slice Ar l.length cr) (.slice Aa ps.length ca) (.int .u32 U) (.bool false);refine⟨⟨Ar,cr,Aa,ca,by rw[← HU.out];rfl,HRR6,HRA6⟩,?_⟩;exact Qir (Qir (Qir (Qir (HB.out.trans (Qis d.out HB.out.size)) hs) hs) hs) hs
    | false =>
     have hres:none=res:=by
      have h:=HSC.out;rw[if_neg (by rw[← HFQ.out];decide)]at h;exact Option.some.inj h
     subst hres
     go_wp2_with (first
      |(go_at_call 125;refine(ERS.out _ (Kd.C_below HCU.out (HB.out.trans (Qis d.out HB.out.size)))).mono ?_;rintro ee w6 ⟨rfl,rfl⟩;obtain⟨k0,k1,k2,k3⟩:=Qsp KR5.out;obtain⟨g0,g1,g2,g3⟩:=Qtm KR5.out)
      |(go_at_call 122;refine(IXC.out _ (Kd.C_below HCV.out HB.out)).mono ?_;rintro ee w5 ⟨rfl,hd5⟩;have d:=QA hd5.below;obtain⟨y0,y1,y2,y3⟩:=Qsp (Qds KV.out d.out);have KR5:=QA (Qds KR.out d.out);clear hd5))
     rw[Exit.noGoto_ret];refine bodyPost_ret (Qdu rfl _ _ (w.heap.size+1) 139 #[.slice none 0 0,.slice none 0 0,.int .u32 0,.bool false] (0,0) _ rfl (Qtn _ _ _ _ KR5.out rfl) hu76 rfl qq_5) rfl ?_;have hs:w.heap.size≤w.heap.size+1:=Nat.le_succ _;exact⟨rfl,Qir (Qir (Qir (Qir (HB.out.trans (Qis d.out HB.out.size)) hs) hs) hs) hs⟩
   ·rw [if_neg hneg]at hsc;have hng:decide (ix<0)=false:=decide_eq_false hneg;have hrl:rst.length=b.length-u:=by rw[HRST.out,List.length_drop]
    obtain⟨m,hm⟩:∃m,m=ix.toNat:=⟨_,rfl⟩;rw[← hm]at hsc;have hixm:ix=(m:Int):=by omega
    have hml:m<rst.length:=by have:=HIX.out.2;omega
    obtain⟨hcutN,hln,hCN⟩:=cutt .i64 Av cv rst HLC.out m (by omega) ix hixm;obtain⟨ck,hck⟩:∃ck,ck=rst.take m:=⟨_,rfl⟩;rw[← hck]at hcutN hln hCN hsc;obtain⟨⟨r1,r2,r3,r4,r5⟩,hgr,hsc⟩:=Option.bind_eq_some_iff.mp hsc;dsimp only at hsc;have GR:=QA (fun W (h:Kd.C (Kd.int .u8) W Av ck.length ck)=>Qbf.calls k Av cv ck r1 r2 r3 r4 r5 W h hln hgr);have HCN:=QA (hCN w HCV.out);have HIXM:=QA hixm;have HML:=QA hml;have HLN2:=QA hln;have HRL:=QA hrl;have HCK:=QA hck;clear hm hixm hml hgr hln hCN hrl hck hneg
    by_cases her:r5=0
    ·rw[if_pos her]at hsc;subst her;have hkz:r3.size≤140737488355328:=by
      apply Decidable.byContradiction;intro h;rw[if_neg h]at hsc
      cases hsc
     rw[if_pos hkz]at hsc;have HSC:=QA hsc;have HKZ1:=QA hkz;clear hsc hkz;have hwx:IntKind.i64.wrap (ix+1)=ix+1:=IntWalk.i64_in _ (by have:=HIXM.out;have:=HML.out;have:=HRL.out;omega);have hwy:IntKind.u32.wrap (ix+1)=ix+1:=IntWalk.u32_in _ (by have:=HIXM.out;have:=HML.out;have:=HRL.out;omega);obtain⟨U2,hU2⟩:∃U2:Int,U2=U+(ix+1):=⟨_,rfl⟩;have hwz:IntKind.u32.wrap (U+(ix+1))=U2:=(IntWalk.u32_in _ (by have:=HU.out;have:=HIXM.out;have:=HML.out;have:=HRL.out;omega)).trans hU2.symm;have HU2:Aside0 (U2=((u+m+1:Nat):Int)):=⟨by have:=HU.out;have:=HIXM.out;omega⟩;clear hU2;obtain⟨An,cn,hcutM,hlm,hCM⟩:=cutd .u32 Ab cb b HCB.out (u+m+1) (by have:=HML.out;have:=HRL.out;omega) U2 HU2.out;have HLM:=QA hlm;have HCM:=QA (hCM w HCB0.out);clear hlm hCM
     go_upto_region 17 with(first
      |(go_at_call 123;refine(GR.out _ (Kd.C_below HCN.out d.out)).mono ?_;rintro ee w6 ⟨rfl,hb6⟩;have j:=QA (d.out.trans (Qis hb6 d.out.size));have KV6:=QA (Qds KV5.out hb6);have KR6:=QA (Qds KR5.out hb6);have HRR6:=QA (Kd.R_below HRR5.out hb6);have HRA6:=QA (Kd.R_below HRA5.out hb6);clear hb6)
      |(go_at_call 122;refine(IXC.out _ (Kd.C_below HCV.out HB.out)).mono ?_;rintro ee w5 ⟨rfl,hd5⟩;have d:=QA (HB.out.trans (Qis hd5.below HB.out.size));have KR5:=QA (Qds KR.out hd5.below);have KV5:=QA (Qds KV.out hd5.below);have HRR5:=QA (Kd.R_below E.out hd5.below);have HRA5:=QA (Kd.R_below HRA.out hd5.below);clear hd5))
     obtain⟨W7,hW7⟩:∃W7,W7=w6.alloc (.cells #[.bool r1,.int .u64 r2,.string r3,.string r4] 36):=⟨_,rfl⟩;have hb7:Below w6.heap.size w6 W7:=by rw[hW7];exact Qci (Below.refl _ _) _
     have K39:Aside0 (W7.heap[w6.heap.size]? = some (.cells #[.bool r1,.int .u64 r2,.string r3,.string r4] 36 (0,0))):=⟨by rw[hW7];exact Qdt w6 _⟩;rw[← hW7];clear hW7;have g:=QA (j.out.trans (Qis hb7 j.out.size));have KV7:=QA (Qds KV6.out hb7);have KR7:=QA (Qds KR6.out hb7);have HRR7:=QA (Kd.R_below HRR6.out hb7);have HRA7:=QA (Kd.R_below HRA6.out hb7);obtain⟨x0,x1,x2,x3⟩:=Qsp KV7.out;clear hb7 v0 v1 v2 v3;obtain⟨t0,t1,t2,t3⟩:=box4 K39.out;obtain⟨l2,hl2⟩:∃l2,l2=l++[(⟨r1,r2,r3,r4⟩:Rec)]:=⟨_,rfl⟩;obtain⟨ps2,hps2⟩:∃ps2,ps2=ps++[U]:=⟨_,rfl⟩;have HL2:=QA (And.intro hl2 hps2);clear hl2 hps2
     go_upto_region 18 with(at_builtin;refine Kd.R_append k36 (w0:=w) w.heap.size rfl (.tmp 80) (.tmp 82) 22 36 (.agg #[.bool false,.int .u64 0,.string (⟨#[]⟩:ByteArray),.string (⟨#[]⟩:ByteArray)]) 48 rfl Tryz.underlying22 Qif rfl (by decide) (by omega) (.slice Ar l.length cr) l (⟨r1,r2,r3,r4⟩:Rec) [.bool r1,.int .u64 r2,.string r3,.string r4] (fun _=>True) (fun _=>False) rfl ?ax ?aP (fun _ hk=>hk.elim) ?aF ?aO ?aB ?aS ?aL ?_;(case ax=>rfl);(case aP=>exact Qii _ _ _ (⟨r1,r2,r3,r4⟩:Rec));(case aF=>exact fun _ _=>trivial);(case aO=>exact HRR7.out);(case aB=>exact g.out);(case aS=>exact g.out.size);(case aL=>have:=HLN.out.2;omega);intro v8 w8 G hb8 I hat8;rw[← HL2.out.1]at G;obtain⟨A8,c8,hv8⟩:=Kd.R_slice G;subst hv8;have HRR8:=QA G;have HRA8:=QA (Kd.R_over' HRA7.out (Kd.R_typed HRR7.out) (by decide) I);have KV8:=QA (Qdh KV7.out I (Kd.R_ne HRR7.out KV7.out (by decide)));have KR8:=QA (Qdh KR7.out I (Kd.R_ne HRR7.out KR7.out (by decide)));have o:=QA hb8;obtain⟨z0,z1,z2,z3⟩:=Qsp KV8.out;obtain⟨e0,e1,e2,e3⟩:=Qtm KV8.out;clear G hb8 I hat8)
     obtain⟨W9,hW9⟩:∃W9,W9=w8.setCell ⟨vb,0,none⟩ (.slice A8 l2.length c8):=⟨_,rfl⟩;have hs2:w.heap.size≤vb:=by have:=HVB.out;omega
     have hner:w.heap.size+1≠vb:=by have:=HVB.out;omega
     have KV9:Aside0 (W9.heap[vb]? = some (.cells #[.slice A8 l2.length c8,.slice Aa ps.length ca,.int .u32 U,.bool false] 139 (0,0))):=⟨by rw[hW9];exact Qdc KV8.out 0 _⟩;have KR9:Aside0 (W9.heap[w.heap.size+1]? = some (.cells #[.slice none 0 0,.slice none 0 0,.int .u32 0,.bool false] 139 (0,0))):=⟨by rw[hW9];exact Qdd KR8.out (p:=⟨vb,0,none⟩) hner _⟩;have HRR9:Aside0 (Kd.R k36 36 W9 w.heap.size (fun _=>True) (.slice A8 l2.length c8) l2):=⟨by rw[hW9];exact Kd.R_set HRR8.out KV8.out (by decide) 0 _⟩;have HRA9:Aside0 (Kd.R (Kd.int .u32) 38 W9 w.heap.size (fun _=>True) (.slice Aa ps.length ca) ps):=⟨by rw[hW9];exact Kd.R_set HRA8.out KV8.out (by decide) 0 _⟩;have M:Aside0 (Below w.heap.size w W9):=⟨by rw[hW9];exact Qir o.out hs2⟩;rw[← hW9];clear hW9 x0 x1 x2 x3 t0 t1 t2 t3 z0 z1 z2 z3 e0 e1 e2 e3 KV8 KR8 HRR8 HRA8 o KV7 KR7 HRR7 HRA7 g;obtain⟨x0,x1,x2,x3⟩:=Qsp KV9.out
     go_upto_region 19 with(at_builtin;refine Kd.R_append (Kd.int .u32) (w0:=w) w.heap.size rfl (.tmp 86) (.tmp 89) 100 38 (.int .u32 0) 4 rfl Tryz.underlying100 Qig rfl (by decide) (by omega) (.slice Aa ps.length ca) ps U [.int .u32 U] (fun _=>True) (fun _=>False) rfl ?ax ?aP (fun _ hk=>hk.elim) ?aF ?aO ?aB ?aS ?aL ?_;(case ax=>rfl);(case aP=>rfl);(case aF=>exact fun _ _=>trivial);(case aO=>exact HRA9.out);(case aB=>exact M.out);(case aS=>exact M.out.size);(case aL=>have:=HLN.out.1;have:=HLN.out.2;omega);intro ad ab z hb10 A hat10;rw[← HL2.out.2]at z;obtain⟨t,c10,hv10⟩:=Kd.R_slice z;subst hv10;have HRA10:=QA z;have HRR10:=QA (Kd.R_over' HRR9.out (Kd.R_typed HRA9.out) (by decide) A);have KV10:=QA (Qdh KV9.out A (Kd.R_ne HRA9.out KV9.out (by decide)));have KR10:=QA (Qdh KR9.out A (Kd.R_ne HRA9.out KR9.out (by decide)));have O:=QA hb10;obtain⟨z0,z1,z2,z3⟩:=Qsp KV10.out;obtain⟨e0,e1,e2,e3⟩:=Qtm KV10.out;clear z hb10 A hat10)
     obtain⟨W11,hW11⟩:∃W11,W11=ab.setCell ⟨vb,1,none⟩ (.slice t ps2.length c10):=⟨_,rfl⟩;have KV11:Aside0 (W11.heap[vb]? = some (.cells #[.slice A8 l2.length c8,.slice t ps2.length c10,.int .u32 U,.bool false] 139 (0,0))):=⟨by rw[hW11];exact Qdc KV10.out 1 _⟩;have KR11:Aside0 (W11.heap[w.heap.size+1]? = some (.cells #[.slice none 0 0,.slice none 0 0,.int .u32 0,.bool false] 139 (0,0))):=⟨by rw[hW11];exact Qdd KR10.out (p:=⟨vb,1,none⟩) hner _⟩;have HRR11:Aside0 (Kd.R k36 36 W11 w.heap.size (fun _=>True) (.slice A8 l2.length c8) l2):=⟨by rw[hW11];exact Kd.R_set HRR10.out KV10.out (by decide) 1 _⟩;have HRA11:Aside0 (Kd.R (Kd.int .u32) 38 W11 w.heap.size (fun _=>True) (.slice t ps2.length c10) ps2):=⟨by rw[hW11];exact Kd.R_set HRA10.out KV10.out (by decide) 1 _⟩;have P:Aside0 (Below w.heap.size w W11):=⟨by rw[hW11];exact Qir O.out hs2⟩;rw[← hW11];clear hW11 x0 x1 x2 x3 z0 z1 z2 z3 e0 e1 e2 e3 KV10 KR10 HRR10 HRA10 O KV9 KR9 HRR9 HRA9 M;obtain⟨x0,x1,x2,x3⟩:=Qsp KV11.out;obtain⟨e0,e1,e2,e3⟩:=Qtm KV11.out
     go_upto_region 8 with fail
     obtain⟨W12,hW12⟩:∃W12,W12=W11.setCell ⟨vb,2,none⟩ (.int .u32 U2):=⟨_,rfl⟩;have KV12:Aside0 (W12.heap[vb]? = some (.cells #[.slice A8 l2.length c8,.slice t ps2.length c10,.int .u32 U2,.bool false] 139 (0,0))):=⟨by rw[hW12];exact Qdc KV11.out 2 _⟩;have KR12:Aside0 (W12.heap[w.heap.size+1]? = some (.cells #[.slice none 0 0,.slice none 0 0,.int .u32 0,.bool false] 139 (0,0))):=⟨by rw[hW12];exact Qdd KR11.out (p:=⟨vb,2,none⟩) hner _⟩;have HRR12:Aside0 (Kd.R k36 36 W12 w.heap.size (fun _=>True) (.slice A8 l2.length c8) l2):=⟨by rw[hW12];exact Kd.R_set HRR11.out KV11.out (by decide) 2 _⟩;have HRA12:Aside0 (Kd.R (Kd.int .u32) 38 W12 w.heap.size (fun _=>True) (.slice t ps2.length c10) ps2):=⟨by rw[hW12];exact Kd.R_set HRA11.out KV11.out (by decide) 2 _⟩;have Y:Aside0 (Below w.heap.size w W12):=⟨by rw[hW12];exact Qir P.out hs2⟩;rw[← hW12];clear hW12 x0 x1 x2 x3 e0 e1 e2 e3 KV11 KR11 HRR11 HRA11 P;obtain⟨x0,x1,x2,x3⟩:=Qsp KV12.out;have hdl:(b.drop (u+m+1)).length<rst.length:=by rw[List.length_drop,HRL.out];have:=HML.out;have:=HRL.out;omega
     obtain⟨rs3,hrs3⟩:∃rs3,rs3=b.drop (u+m+1):=⟨_,rfl⟩;rw[← hrs3]at hcutM HLM HCM hdl;have HRS3:=QA hrs3;have HDL:=QA hdl;clear hrs3 hdl
     go_wp2_with fail
     go_roundw
     case rel =>
      refine⟨l2,ps2,u+m+1,f,U2,An,A8,t,cn,c8,c10,by rw[← HRS3.out],HU2,⟨by rw[← HRS3.out];exact HLM.out⟩,by have:=HML.out;have:=HRL.out;omega,⟨by rw[← HRS3.out];exact HCM.out⟩,⟨?_⟩,KV12,HRR12,HRA12,KR12,Y,⟨?_⟩,⟨?_,?_⟩,⟨?_,?_⟩⟩
      ·rw[HL2.out.1,HL2.out.2,HU.out];exact HSC.out
      ·intro r hr;rw[HL2.out.1]at hr
       rcases List.mem_append.1 hr with hr|hr
       ·exact HKZ.out r hr
       ·rw[List.mem_singleton.1 hr];exact HKZ1.out
      ·rw[HL2.out.2];refine List.pairwise_append.2 ⟨HPW.out.1,List.pairwise_singleton _ _,fun x hx y hy=>?_⟩;rw[List.mem_singleton.1 hy,HU.out];exact HPW.out.2 x hx
      ·intro p hp;rw[HL2.out.2]at hp
       rcases List.mem_append.1 hp with hp|hp
       ·have:=HPW.out.2 p hp;omega
       ·rw[List.mem_singleton.1 hp,HU.out];omega
      ·rw[HL2.out.1,HL2.out.2,List.length_append,List.length_append,HLN.out.1];rfl
      ·rw[HL2.out.1,List.length_append];have:=HLN.out.2;simp only[List.length_singleton];omega
     case measure=>have:=HDL.out;simp[lenV];omega
    ·rw [if_neg her]at hsc;have hne5:(r5 != 0)=true:=bne_iff_ne.2 her;clear her;obtain⟨⟨out,e0⟩,hO,hsc⟩:=Option.bind_eq_some_iff.mp hsc;dsimp only at hsc
     by_cases hgd:e0=0→CodecP.Bytes out∧out.length≤100000000000
     ·rw [if_pos hgd]at hsc;obtain⟨bq,hbq⟩:∃bq,bq=Qso (u:Int) l ps (getF e0 out):=⟨_,rfl⟩;obtain⟨fq,hfq⟩:∃fq,fq=Qsr (b.drop (u+m+1)):=⟨_,rfl⟩;rw[← hbq,← hfq]at hsc;have CL:=QA (fun W h1 h2 h3=>Qsq k Ar Aa Av cr ca cv l ps ck out U e0 false W h1 h2 HLN.out.1 (by have:=HLN.out.2;omega) HKZ.out (Qto HPW.out.1) h3 HLN2.out hO hgd);rw[HU.out,← hbq,← HU.out]at CL;obtain⟨An,cn,hcutM,hlm,hCM⟩:=cutd .i64 Av cv rst HLC.out (m+1) (by have:=HML.out;omega) (ix+1) (by have:=HIXM.out;omega);have hwx:IntKind.i64.wrap (ix+1)=ix+1:=IntWalk.i64_in _ (by have:=HIXM.out;have:=HML.out;have:=HRL.out;omega);have hdd:rst.drop (m+1)=b.drop (u+m+1):=by rw[HRST.out,List.drop_drop,Nat.add_assoc]
      rw[hdd]at hcutM hlm hCM;obtain⟨rs2,hrs2⟩:∃rs2,rs2=b.drop (u+m+1):=⟨_,rfl⟩;have hl2:rs2.length≤140737488355328:=by rw[hrs2,List.length_drop];omega
      rw[← hrs2]at hcutM hlm hCM hfq;have ERS:=QA (fun W (h:Kd.C (Kd.int .u8) W An rs2.length rs2)=>Qsu An cn rs2 W h hl2);rw[← hfq]at ERS;have HCM:=QA (hCM w HCV.out);have HSC:=QA (Option.some.inj hsc);clear hO hgd hsc hbq hfq hdd hlm hCM hl2 hrs2
      cases bq with
      | false =>
       have hres:none=res:=by
        have h:=HSC.out;rw[if_neg (by simp)]at h;exact h
       subst hres
       go_upto_region 13 with(first
        |(go_at_call 123;refine(GR.out _ (Kd.C_below HCN.out d.out)).mono ?_;rintro ee w6 ⟨rfl,hb6⟩;have j:=QA (d.out.trans (Qis hb6 d.out.size));have KV6:=QA (Qds KV5.out hb6);have KR6:=QA (Qds KR5.out hb6);have HRR6:=QA (Kd.R_below HRR5.out hb6);have HRA6:=QA (Kd.R_below HRA5.out hb6);clear hb6)
        |(go_at_call 122;refine(IXC.out _ (Kd.C_below HCV.out HB.out)).mono ?_;rintro ee w5 ⟨rfl,hd5⟩;have d:=QA (HB.out.trans (Qis hd5.below HB.out.size));have KR5:=QA (Qds KR.out hd5.below);have KV5:=QA (Qds KV.out hd5.below);have HRR5:=QA (Kd.R_below E.out hd5.below);have HRA5:=QA (Kd.R_below HRA.out hd5.below);clear hd5))
       obtain⟨W7,hW7⟩:∃W7,W7=w6.alloc (.cells #[.bool r1,.int .u64 r2,.string r3,.string r4] 36):=⟨_,rfl⟩;have hb7:Below w6.heap.size w6 W7:=by rw[hW7];exact Qci (Below.refl _ _) _
       rw[← hW7];clear hW7;have hb7d:Below w6.heap.size w6 W7.drew:=Qcj hb7;have g:=QA (j.out.trans (Qis hb7d j.out.size));have KV7:=QA (Qds KV6.out hb7d);have KR7:=QA (Qds KR6.out hb7d);have HRR7:=QA (Kd.R_below HRR6.out hb7d);have HRA7:=QA (Kd.R_below HRA6.out hb7d);obtain⟨x0,x1,x2,x3⟩:=Qsp KV7.out;clear hb7 hb7d v0 v1 v2 v3;refine Qfq (n:=14) (S:=fun w'=>w'.cell? ⟨vb,0,none⟩=some (.slice Ar l.length cr)∧w'.cell? ⟨vb,1,none⟩=some (.slice Aa ps.length ca)∧w'.cell? ⟨vb,2,none⟩=some (.int .u32 U)∧w'.cell? ⟨vb,3,none⟩=some (.bool false)) (ds:=[]) (bm 14 0) qq_5 rfl rfl ⟨x0,x1,x2,x3⟩ (fun c=>?_);refine pz_ (i:=1) (N:=some 63) (bm 14 2) qq_5 ?_;refine pz_ (i:=2) (N:=some 64) (bm 14 6) qq_5 ?_;refine pz_ (i:=3) (N:=some 65) (bm 14 14) qq_5 ?_;refine tz_ (i:=0) (N:=some 62) (bm 14 15) qq_5 c ?_;refine one_ (i:=4) (N:=some 66) (bm 14 31) rfl rfl qq_5 (by decide) (fun K hK=>?_);refine Qfy Tryz.func124 qq_5 rfl #[.agg #[.slice Ar l.length cr,.slice Aa ps.length ca,.int .u32 U,.bool false],.slice Av ck.length cv] (by rfl) rfl rfl (by simp only[List.map_toArray,List.map_cons,List.map_nil];rfl) ?_;with_reducible refine(CL.out _ (Kd.R_reads' HRR7.out).2.2 (Kd.R_reads' HRA7.out).2.2 (Kd.C_below HCN.out g.out)).mono ?_
       rintro ee w8 ⟨rfl,hb8⟩;refine⟨_,rfl,?_⟩;have o:=QA (g.out.trans (Qis hb8 g.out.size));have KV8:=QA (Qds KV7.out hb8);have KR8:=QA (Qds KR7.out hb8);have HRR8:=QA (Kd.R_below HRR7.out hb8);have HRA8:=QA (Kd.R_below HRA7.out hb8);obtain⟨k0,k1,k2,k3⟩:=Qsp KR8.out;obtain⟨g0,g1,g2,g3⟩:=Qtm KR8.out;refine hK.out _ _ ⟨(Qcm hb8 c.1),(Qcm hb8 c.2.1),(Qcm hb8 c.2.2.1),(Qcm hb8 c.2.2.2)⟩ (fun c=>?_);clear hK K;refine nzp_ 66 ?_;refine pz_ (i:=5) (N:=some 67) (bm 14 63) qq_5 ?_;refine pz_ (i:=6) (N:=some 68) (bm 14 127) qq_5 ?_;refine Qfs (i:=7) (N:=some 69) (v:=undef) (a':=?_) (bm 14 255) rfl rfl qq_5 (fun _ _ _ h=>h) (Or.inr ⟨by rfl,rfl⟩) ?_ ?_;rotate_left
       ·simp only[Act.put,List.setIfInBounds_toArray,List.set_cons_zero,List.set_cons_succ,Qga,Qgb];rfl
       refine Qfs (i:=8) (N:=some 70) (v:=undef) (a':=?_) (bm 14 511) rfl rfl qq_5 (fun _ _ _ h=>h) (Or.inr ⟨by rfl,rfl⟩) ?_ ?_;rotate_left
       ·simp only[Act.put,List.setIfInBounds_toArray,List.set_cons_zero,List.set_cons_succ,Qga,Qgb];rfl
       refine Qfs (i:=9) (N:=some 71) (v:=undef) (a':=?_) (bm 14 1023) rfl rfl qq_5 (fun _ _ _ h=>h) (Or.inr ⟨by rfl,rfl⟩) ?_ ?_;rotate_left
       ·simp only[Act.put,List.setIfInBounds_toArray,List.set_cons_zero,List.set_cons_succ,Qga,Qgb];rfl
       refine Qfs (i:=10) (N:=some 72) (v:=undef) (a':=?_) (bm 14 2047) rfl rfl qq_5 (fun _ _ _ h=>h) (Or.inr ⟨by rfl,rfl⟩) ?_ ?_;rotate_left
       ·simp only[Act.put,List.setIfInBounds_toArray,List.set_cons_zero,List.set_cons_succ,Qga,Qgb];rfl
       refine Qfs (i:=11) (N:=some 73) (v:=undef) (a':=?_) (bm 14 4095) rfl rfl qq_5 (fun _ _ _ h=>h) (Or.inr ⟨by rfl,rfl⟩) ?_ ?_;rotate_left
       ·simp only[Act.put,List.setIfInBounds_toArray,List.set_cons_zero,List.set_cons_succ,Qga,Qgb];rfl
       refine Qfs (i:=12) (N:=some 74) (v:=undef) (a':=?_) (bm 14 8191) rfl rfl qq_5 (fun _ _ _ h=>h) (Or.inr ⟨by rfl,rfl⟩) ?_ ?_;rotate_left
       ·simp only[Act.put,List.setIfInBounds_toArray,List.set_cons_zero,List.set_cons_succ,Qga,Qgb];rfl
       refine pz_ (i:=13) (N:=some 75) (bm 14 16383) qq_5 ?_;refine Qfu qq_5 ?_
       go_wp2_with fail
       rw[Exit.noGoto_ret];refine bodyPost_ret (Qdu rfl _ _ (w.heap.size+1) 139 #[.slice none 0 0,.slice none 0 0,.int .u32 0,.bool false] (0,0) _ rfl (Qtn _ _ _ _ KR8.out rfl) hu76 rfl qq_5) rfl ?_;have hs:w.heap.size≤w.heap.size+1:=Nat.le_succ _;exact⟨rfl,Qir (Qir (Qir (Qir o.out hs) hs) hs) hs⟩
      | true =>
       go_upto_region 13 with(first
        |(go_at_call 123;refine(GR.out _ (Kd.C_below HCN.out d.out)).mono ?_;rintro ee w6 ⟨rfl,hb6⟩;have j:=QA (d.out.trans (Qis hb6 d.out.size));have KV6:=QA (Qds KV5.out hb6);have KR6:=QA (Qds KR5.out hb6);have HRR6:=QA (Kd.R_below HRR5.out hb6);have HRA6:=QA (Kd.R_below HRA5.out hb6);clear hb6)
        |(go_at_call 122;refine(IXC.out _ (Kd.C_below HCV.out HB.out)).mono ?_;rintro ee w5 ⟨rfl,hd5⟩;have d:=QA (HB.out.trans (Qis hd5.below HB.out.size));have KR5:=QA (Qds KR.out hd5.below);have KV5:=QA (Qds KV.out hd5.below);have HRR5:=QA (Kd.R_below E.out hd5.below);have HRA5:=QA (Kd.R_below HRA.out hd5.below);clear hd5))
       obtain⟨W7,hW7⟩:∃W7,W7=w6.alloc (.cells #[.bool r1,.int .u64 r2,.string r3,.string r4] 36):=⟨_,rfl⟩;have hb7:Below w6.heap.size w6 W7:=by rw[hW7];exact Qci (Below.refl _ _) _
       rw[← hW7];clear hW7;have hb7d:Below w6.heap.size w6 W7.drew:=Qcj hb7;have g:=QA (j.out.trans (Qis hb7d j.out.size));have KV7:=QA (Qds KV6.out hb7d);have KR7:=QA (Qds KR6.out hb7d);have HRR7:=QA (Kd.R_below HRR6.out hb7d);have HRA7:=QA (Kd.R_below HRA6.out hb7d);obtain⟨x0,x1,x2,x3⟩:=Qsp KV7.out;clear hb7 hb7d v0 v1 v2 v3;refine Qfq (n:=14) (S:=fun w'=>w'.cell? ⟨vb,0,none⟩=some (.slice Ar l.length cr)∧w'.cell? ⟨vb,1,none⟩=some (.slice Aa ps.length ca)∧w'.cell? ⟨vb,2,none⟩=some (.int .u32 U)∧w'.cell? ⟨vb,3,none⟩=some (.bool false)) (ds:=[]) (bm 14 0) qq_5 rfl rfl ⟨x0,x1,x2,x3⟩ (fun c=>?_);refine pz_ (i:=1) (N:=some 63) (bm 14 2) qq_5 ?_;refine pz_ (i:=2) (N:=some 64) (bm 14 6) qq_5 ?_;refine pz_ (i:=3) (N:=some 65) (bm 14 14) qq_5 ?_;refine tz_ (i:=0) (N:=some 62) (bm 14 15) qq_5 c ?_;refine one_ (i:=4) (N:=some 66) (bm 14 31) rfl rfl qq_5 (by decide) (fun K hK=>?_);refine Qfy Tryz.func124 qq_5 rfl #[.agg #[.slice Ar l.length cr,.slice Aa ps.length ca,.int .u32 U,.bool false],.slice Av ck.length cv] (by rfl) rfl rfl (by simp only[List.map_toArray,List.map_cons,List.map_nil];rfl) ?_;with_reducible refine(CL.out _ (Kd.R_reads' HRR7.out).2.2 (Kd.R_reads' HRA7.out).2.2 (Kd.C_below HCN.out g.out)).mono ?_
       rintro ee w8 ⟨rfl,hb8⟩;refine⟨_,rfl,?_⟩;have o:=QA (g.out.trans (Qis hb8 g.out.size));have KV8:=QA (Qds KV7.out hb8);have KR8:=QA (Qds KR7.out hb8);have HRR8:=QA (Kd.R_below HRR7.out hb8);have HRA8:=QA (Kd.R_below HRA7.out hb8);obtain⟨k0,k1,k2,k3⟩:=Qsp KR8.out;obtain⟨g0,g1,g2,g3⟩:=Qtm KR8.out;refine hK.out _ _ ⟨(Qcm hb8 c.1),(Qcm hb8 c.2.1),(Qcm hb8 c.2.2.1),(Qcm hb8 c.2.2.2)⟩ (fun c=>?_);clear hK K;refine nzp_ 66 ?_;refine pz_ (i:=5) (N:=some 67) (bm 14 63) qq_5 ?_;refine pz_ (i:=6) (N:=some 68) (bm 14 127) qq_5 ?_;refine pz_ (i:=7) (N:=some 69) (bm 14 255) qq_5 ?_;refine pz_ (i:=8) (N:=some 70) (bm 14 511) qq_5 ?_;refine pz_ (i:=9) (N:=some 71) (bm 14 1023) qq_5 ?_;refine pz_ (i:=10) (N:=some 72) (bm 14 2047) qq_5 ?_;refine one_ (i:=11) (N:=some 73) (bm 14 4095) rfl rfl qq_5 (by decide) (fun K hK=>?_);refine Qfy Tryz.func125 qq_5 rfl #[.slice An rs2.length cn] (by rfl) rfl rfl (by simp only[List.map_toArray,List.map_cons,List.map_nil];rfl) ?_;with_reducible refine(ERS.out _ (Kd.C_below HCM.out o.out)).mono ?_
       rintro ee w9 ⟨rfl,rfl⟩;refine⟨_,rfl,?_⟩;refine hK.out _ _ ⟨c.1,c.2.1,c.2.2.1,c.2.2.2⟩ (fun c=>?_);clear hK K;refine nzp_ 73 ?_;refine pz_ (i:=12) (N:=some 74) (bm 14 8191) qq_5 ?_;refine pz_ (i:=13) (N:=some 75) (bm 14 16383) qq_5 ?_;refine Qfu qq_5 ?_
       cases fq with
       | false =>
        have hres:none=res:=by
         have h:=HSC.out;rw[if_neg (by simp)]at h;exact h
        subst hres
        go_wp2_with fail
        rw[Exit.noGoto_ret];refine bodyPost_ret (Qdu rfl _ _ (w.heap.size+1) 139 #[.slice none 0 0,.slice none 0 0,.int .u32 0,.bool false] (0,0) _ rfl (Qtn _ _ _ _ KR8.out rfl) hu76 rfl qq_5) rfl ?_;have hs:w.heap.size≤w.heap.size+1:=Nat.le_succ _;exact⟨rfl,Qir (Qir (Qir (Qir o.out hs) hs) hs) hs⟩
       | true =>
        have hres:some (l,ps,u,true)=res:=by
         have h:=HSC.out;rw[if_pos (by simp)]at h;exact h
        subst hres;obtain⟨y0,y1,y2,y3⟩:=Qsp KV8.out;obtain⟨f0,f1,f2,f3⟩:=Qtm KV8.out;have KV9:=QA (Qdc KV8.out 3 (.bool true));have KR9:=QA (Qdd KR8.out (p:=⟨vb,3,none⟩) (show w.heap.size+1≠vb by have:=HVB.out;omega) (.bool true));obtain⟨m0,m1,m2,m3⟩:=Qsp (a:=.slice Ar l.length cr) (b:=.slice Aa ps.length ca) (u:=U) (s:=true) KV9.out;obtain⟨n0,n1,n2,n3⟩:=Qtm KR9.out;obtain⟨o0,o1,o2,o3⟩:=Qsp KR9.out
        go_wp2_with fail
        try rw[Exit.noGoto_ret]
        refine bodyPost_ret (Qdu rfl _ _ (w.heap.size+1) 139 #[.slice Ar l.length cr,.slice Aa ps.length ca,.int .u32 U,.bool true] (0,0) _ rfl (Qtn _ _ _ _ KR9.out rfl) hu76 rfl qq_5) rfl ?_;have hs:w.heap.size≤w.heap.size+1:=Nat.le_succ _;have hs2:w.heap.size≤vb:=by have:=HVB.out;omega
        have HRR9:=Qts (Kd.R_set HRR8.out KV8.out (by decide) 3 (.bool true)) KR9.out (by decide) (.slice Ar l.length cr) (.slice Aa ps.length ca) (.int .u32 U) (.bool true);have HRA9:=Qts (Kd.R_set HRA8.out KV8.out (by decide) 3 (.bool true)) KR9.out (by decide) (.slice Ar l.length cr) (.slice Aa ps.length ca) (.int .u32 U) (.bool true);refine⟨⟨Ar,cr,Aa,ca,by rw[← HU.out];rfl,HRR9,HRA9⟩,?_⟩;exact Qir (Qir (Qir (Qir (Qir o.out hs2) hs) hs) hs) hs
     ·rw[if_neg hgd]at hsc;cases hsc
def Qtu(k:Nat)(e s n:Int)(b:List Int)(res:Option (List Rec × List Int × Nat × Bool))(er:Int):Prop :=
 ∃ hd e0,Qbh.f e s n=some (hd,e0)∧((e0≠0∧res=none∧er=e0) ∨
  (e0=0∧er=4∧∃sz,Qaq.f e s=some sz∧CodecP.Bytes b∧CodecP.Bytes hd∧b.length≤1000000000 ∧
   (((b.length:Int)≠sz∧res=none)∨((b.length:Int)=sz∧b.take hd.length≠hd∧res=none)∨((b.length:Int)=sz∧b.take hd.length=hd∧∃f0,Qtk k b f0 [] [] hd.length=some res))))
theorem Qtv(k:Nat)(e s n er:Int)(Ab:Option Addr)(cb:Nat)(b:List Int)(res:Option (List Rec × List Int × Nat × Bool))(w:World)(hcs:Kd.C (Kd.int .u8) w Ab b.length b)(hcb:b.length≤cb)(h:Qtu k e s n b res er) :
  Calls Tryz.prog 67 #[.agg #[.int .u8 e,.int .u32 s],.int .u32 n,.slice Ab b.length cb] w (Qtl res er w):=by
 obtain⟨hd,e0,hp,⟨h0,rfl,rfl⟩ |⟨rfl,rfl,sz,hsz,hb,hh,hl,⟨h1,rfl⟩ |⟨h1,h2,rfl⟩ |⟨h1,h2,f0,h3⟩⟩⟩:=h
 ·exact Qtp e s n _ Ab cb b hd w hp h0
 ·exact Qtq e s n sz Ab cb b hd w hcs hcb ⟨hb,hh,by omega⟩ hp hsz h1
 ·exact Qtr e s n sz Ab cb b hd w hcs hcb ⟨hb,hh,by omega⟩ hp hsz h1 (decide_eq_false h2)
 ·exact Qtt e s n sz Ab cb b hd w hcs hcb ⟨hb,hh,by omega⟩ hp hsz k f0 h1 (decide_eq_true h2) hl res h3
def Qtw:Option (List Rec × List Int × Nat × Bool)→Int→(List Rec) × (List Int) × Int × Bool × Int
 | some (l,ps,u,sl),_=>(l,ps,(u:Int),sl,0)
 | none,er=>([],[],0,false,er)
noncomputable def Qca.f(k:Nat)(a0_0 a0_1 a1:Int)(l2:List Int):Option ((List Rec) × (List Int) × Int × Bool × Int) :=
 (Qbh.f a0_0 a0_1 a1).bind fun p =>
  if p.2≠0 then some (Qtw none p.2)else
  (Qaq.f a0_0 a0_1).bind fun sz =>
   @ite _ (CodecP.Bytes l2∧CodecP.Bytes p.1∧l2.length≤1000000000) (Classical.propDecidable _)
    (if(l2.length:Int)≠sz then some (Qtw none 4)else if l2.take p.1.length≠p.1 then some (Qtw none 4)else(Qtk k l2 k [] [] p.1.length).bind fun res=>some (Qtw res 4)) none
theorem Qtx{k:Nat}{e s n:Int}{b:List Int}{r:(List Rec) × (List Int) × Int × Bool × Int}(h:Qca.f k e s n b=some r):∃res er,Qtu k e s n b res er∧r=Qtw res er:=by
 unfold Qca.f at h;obtain⟨⟨hd,e0⟩,hp,h⟩:=Option.bind_eq_some_iff.mp h;dsimp only at h
 by_cases h0:e0≠0
 ·rw[if_pos h0]at h;exact⟨none,e0,⟨hd,e0,hp,.inl ⟨h0,rfl,rfl⟩⟩,(Option.some.inj h).symm⟩
 ·rw [if_neg h0]at h;obtain⟨sz,hsz,h⟩:=Option.bind_eq_some_iff.mp h
  by_cases hg:CodecP.Bytes b∧CodecP.Bytes hd∧b.length≤1000000000
  ·rw[if_pos hg]at h;obtain⟨g1,g2,g3⟩:=hg;have h00:e0=0:=by omega
   by_cases h1:(b.length:Int)≠sz
   ·rw[if_pos h1]at h;exact⟨none,4,⟨hd,e0,hp,.inr ⟨h00,rfl,sz,hsz,g1,g2,g3,.inl ⟨h1,rfl⟩⟩⟩,(Option.some.inj h).symm⟩
   ·rw[if_neg h1]at h;have h11:(b.length:Int)=sz:=by omega
    by_cases h2:b.take hd.length≠hd
    ·rw[if_pos h2]at h;exact⟨none,4,⟨hd,e0,hp,.inr ⟨h00,rfl,sz,hsz,g1,g2,g3,.inr (.inl ⟨h11,h2,rfl⟩)⟩⟩,(Option.some.inj h).symm⟩
    ·rw[if_neg h2]at h;obtain⟨res,hs,h⟩:=Option.bind_eq_some_iff.mp h;exact⟨res,4,⟨hd,e0,hp,.inr ⟨h00,rfl,sz,hsz,g1,g2,g3,.inr (.inr ⟨h11,Decidable.not_not.mp h2,k,hs⟩)⟩⟩,(Option.some.inj h).symm⟩
  ·rw[if_neg hg]at h
   cases h
theorem Qca.calls(k:Nat)(a0_0 a0_1:Int)(a1:Int)(A2:Option Addr)(c2:Nat)(l2:List Int)(r1:List Rec)(r2:List Int)(r3:Int)(r4:Bool)(r5:Int)(w:World)(hr2:Kd.C (Kd.int .u8) w A2 l2.length l2)(hc2:l2.length≤c2)(h:Qca.f k a0_0 a0_1 a1 l2=some (r1,r2,r3,r4,r5)) :
  Calls Tryz.prog 67 #[.agg #[.int .u8 a0_0,.int .u32 a0_1],.int .u32 a1,.slice A2 l2.length c2] w fun e w'=>∃v0_ v1_:Value,e=.returned (.tuple #[.agg #[v0_,v1_,.int .u32 r3,.bool r4],.int .i64 r5])∧Kd.R k36 36 w' w.heap.size (fun _=>True) v0_ r1∧Kd.R (Kd.int .u32) 38 w' w.heap.size (fun _=>True) v1_ r2∧Below w.heap.size w w':=by
 obtain⟨res,er,hP,hv⟩:=Qtx h;refine(Qtv k a0_0 a0_1 a1 er A2 c2 l2 res w hr2 hc2 hP).mono ?_;rintro e w' ⟨h1,h2⟩
 cases res with
 | none =>
  simp only[Qtw,Prod.mk.injEq]at hv;obtain⟨rfl,rfl,rfl,rfl,rfl⟩:=hv;exact⟨_,_,h1,Kd.R_nil _ _ _ _ _,Kd.R_nil _ _ _ _ _,h2⟩
 | some q =>
  obtain⟨l,ps,u,sl⟩:=q;obtain⟨Ar,cr,Aa,ca,he,hR,hA⟩:=h1;simp only[Qtw,Prod.mk.injEq]at hv;obtain⟨rfl,rfl,rfl,rfl,rfl⟩:=hv;exact⟨_,_,he,hR,hA,h2⟩
end Go.Proofs.YtepkfjmjidjedaaGreat.C
end
