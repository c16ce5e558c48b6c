/- Merged texts. -/
import Derived.Test.YteaocbonofboeaaGreatMD02
import Derived.WalkMore
import Derived.Test.YteaocbonofboeaaGreatMD18
import Derived.Test.YteaocbonofboeaaGreatMD03
import Derived.Test.YteaocbonofboeaaGreatMD17
import Derived.Test.YteaocbonofboeaaGreatMD10
import Derived.Test.YteaocbonofboeaaGreatMD06
import Derived.Test.YteaocbonofboeaaGreatMD23
import Derived.Test.YteaocbonofboeaaGreatMD15
import Derived.Test.YteaocbonofboeaaGreatMD09
import Derived.Test.YteaocbonofboeaaGreatMD22
import Derived.Test.YteaocbonofboeaaGreatMD19
import Derived.Test.YteaocbonofboeaaGreatMD20
import Derived.Test.YteaocbonofboeaaGreatMD07
set_option linter.unusedVariables false
set_option linter.unusedSimpArgs false
set_option maxHeartbeats 8000000
set_option maxRecDepth 100000
section
namespace Go.Proofs.YteaocbonofboeaaGreat.C
open Go.RowKit Go.Proofs.YteaocbonofboeaaGreatW.PrintWords Go.Proofs.YteaocbonofboeaaGreatW.PrintLast Go.Proofs.YteaocbonofboeaaGreatW.PrintMore
noncomputable def Qsk(k:Nat)(b:List Int):Nat→List Rec→List Int→Nat→Option (Option (List Rec × List Int × Nat × Bool))
 | 0,_,_,_=>none
 | f + 1,l,ps,u =>
  if ixOf (b.drop u) 0<0 then some (if Qrr (b.drop u)=true then some (l,ps,u,false)else none)
  else(Qbd.f k ((b.drop u).take (ixOf (b.drop u) 0).toNat)).bind fun r =>
   if r.2.2.2.2=0 then
    (if r.2.2.1.size≤140737488355328 then Qsk k b f (l++[(⟨r.1,r.2.1,r.2.2.1,r.2.2.2.1⟩:Rec)]) (ps++[(u:Int)]) (u+(ixOf (b.drop u) 0).toNat+1)else none)
   else(Qbe.f k ((b.drop u).take (ixOf (b.drop u) 0).toNat)).bind fun o =>
    @ite _ (o.2=0→CodecP.Bytes o.1∧o.1.length≤100000000000) (Classical.propDecidable _)
     (some (if Qro u l ps (getF o.2 o.1)=true∧Qrr (b.drop (u+(ixOf (b.drop u) 0).toNat+1))=true then some (l,ps,u,true)else none)) none
def Qsl(res:Option (List Rec × List Int × Nat × Bool))(er:Int)(w:World)(e:Ending)(w':World):Prop :=
 (match res with
  | some (l,ps,u,sl)=>∃Ar cr Aa ca,e=.returned (.tuple #[.agg #[.slice Ar l.length cr,.slice Aa ps.length ca,.int .u32 u,.bool sl],.int .i64 0])∧Kd.R k37 37 w' w.heap.size (fun _=>True) (.slice Ar l.length cr) l∧Kd.R (Kd.int .u32) 26 w' w.heap.size (fun _=>True) (.slice Aa ps.length ca) ps
  | none=>e=.returned (.tuple #[.agg #[.slice none 0 0,.slice none 0 0,.int .u32 0,.bool false],.int .i64 er]))∧Below w.heap.size w w'
theorem Qsm{W:World}{g:Nat}{a b:Value}{u:Int}{s:Bool}(h:W.heap[g]? = some (.cells #[a,b,.int .u32 u,.bool s] 45 (0,0))) :
  W.frozen? ⟨g,0,none⟩=false∧W.frozen? ⟨g,1,none⟩=false∧W.frozen? ⟨g,2,none⟩=false∧W.frozen? ⟨g,3,none⟩=false :=
 ⟨Qdc h 0,Qdc h 1,Qdc h 2,Qdc h 3⟩
theorem Qsn{W:World}{g:Nat}{cs:Array Value}(a b:Value)(u:Int)(s:Bool)(h:W.heap[g]? = some (.cells cs 45 (0,0)))(hs:cs.size=4) :
  ((((W.setCell ⟨g,0,none⟩ a).setCell ⟨g,1,none⟩ b).setCell ⟨g,2,none⟩ (.int .u32 u)).setCell ⟨g,3,none⟩ (.bool s)).heap[g]? = some (.cells #[a,b,.int .u32 u,.bool s] 45 (0,0)):=by
 obtain⟨l⟩:=cs;obtain⟨x0,x1,x2,x3,rfl⟩:∃x0 x1 x2 x3,l=[x0,x1,x2,x3]:=by
  match l,hs with
  | [x0,x1,x2,x3],_=>exact⟨x0,x1,x2,x3,rfl⟩
 exact Qcy (Qcy (Qcy (Qcy h 0 a) 1 b) 2 (.int .u32 u)) 3 (.bool s)
theorem Qso{l:List Rec}{ps:List Int}(h:ps.Pairwise (· < ·)):(Qqb l ps).Nodup:=by
 induction l generalizing ps with
 | nil=>simp[Qqb]
 | cons r l ih =>
  cases ps with
  | nil=>simp[Qqb]
  | cons p ps =>
   obtain⟨h1,h2⟩:=List.pairwise_cons.1 h;show(_ :: Qqb l ps).Nodup;refine List.nodup_cons.2 ⟨fun hm=>?_,ih h2⟩;have:∀(l:List Rec) (ps:List Int) (x:Ent),x∈Qqb l ps→x.f1∈ps:=by
    intro l
    induction l with
    | nil=>intro ps x hx;simp[Qqb]at hx
    | cons r l ih =>
     intro ps x hx
     cases ps with
     | nil=>simp[Qqb]at hx
     | cons p ps =>
      rcases List.mem_cons.1 (show x∈_ :: Qqb l ps from hx)with rfl|hx
      ·exact List.mem_cons_self ..
      ·exact List.mem_cons_of_mem _ (ih ps x hx)
   have h3:=h1 _ (this _ _ _ hm);exact absurd h3 (Int.lt_irrefl _)
theorem Qsp(e s n er:Int)(Ab:Option Addr)(cb:Nat)(b hd:List Int)(w:World)(hp:Qbf.f e s n=some (hd,er))(her:er≠0) :
  Calls Tryz.prog 21 #[.agg #[.int .u8 e,.int .u32 s],.int .u32 n,.slice Ab b.length cb] w (Qsl none er w):=by
 have hu76:=Tryz.underlying45;have hu27:=Tryz.underlying28;have HP:=QA hp;have hne:(er != 0)=true:=bne_iff_ne.2 her;have hb0:Below w.heap.size w ((w.alloc (.cells #[.int .u8 e,.int .u32 s] 28)).alloc (.cells #[.slice none 0 0,.slice none 0 0,.int .u32 0,.bool false] 45)):=Qce (Qce (Below.refl _ _) _) _;have kc:=Qdl (Qdp w (.cells #[.int .u8 e,.int .u32 s] 28)) (.cells #[.slice none 0 0,.slice none 0 0,.int .u32 0,.bool false] 45);have kr:=Qdp (w.alloc (.cells #[.int .u8 e,.int .u32 s] 28)) (.cells #[.slice none 0 0,.slice none 0 0,.int .u32 0,.bool false] 45);rw[World.size_alloc]at kr;obtain⟨c0,c1⟩:=box2 kc;have KR:=QA kr;have a:=QA hb0;clear hp kc kr hb0
 go_enter Tryz.func21,Tryz.ntmps21
 go_wp2
 go_step3
 go_wp2_with (go_at_call 57;refine(Qbf.calls e s n hd er _ HP.out).mono ?_;rintro ee w1 ⟨v1,rfl,hR1,hb1⟩;obtain⟨A1,d1,rfl⟩:=Kd.R_slice hR1;have c:=QA hb1;have kr1:=Qdo KR.out hb1;obtain⟨q0,q1,q2,q3⟩:=Qrp kr1;obtain⟨g0,g1,g2,g3⟩:=Qsm kr1;clear hb1 hR1)
 rw[Exit.noGoto_ret];refine bodyPost_ret (Qdq rfl _ _ (w.heap.size+1) 45 #[.slice none 0 0,.slice none 0 0,.int .u32 0,.bool false] (0,0) _ rfl (Qsn _ _ _ _ kr1 rfl) hu76 rfl qq_4) rfl ?_;have hs:w.heap.size≤w.heap.size+1:=Nat.le_succ _;exact⟨rfl,Qir (Qir (Qir (Qir (a.out.trans (Qis c.out a.out.size)) hs) hs) hs) hs⟩
theorem Qsq(e s n sz:Int)(Ab:Option Addr)(cb:Nat)(b hd:List Int)(w:World)(hcs:Kd.C (Kd.int .u8) w Ab b.length b)(hcb:b.length≤cb)(hby:CodecP.Bytes b∧CodecP.Bytes hd∧b.length≤100000000000)(hp:Qbf.f e s n=some (hd,0))(hsz:Qaq.f e s=some sz)(hne:(b.length:Int)≠sz) :
  Calls Tryz.prog 21 #[.agg #[.int .u8 e,.int .u32 s],.int .u32 n,.slice Ab b.length cb] w (Qsl none 4 w):=by
 have hu76:=Tryz.underlying45;have hu27:=Tryz.underlying28;have HP:=QA hp;have HSZ:=QA hsz;have HBY:=QA hby;have HCB:=QA hcb;have hb0:Below w.heap.size w ((w.alloc (.cells #[.int .u8 e,.int .u32 s] 28)).alloc (.cells #[.slice none 0 0,.slice none 0 0,.int .u32 0,.bool false] 45)):=Qce (Qce (Below.refl _ _) _) _;have kc:=Qdl (Qdp w (.cells #[.int .u8 e,.int .u32 s] 28)) (.cells #[.slice none 0 0,.slice none 0 0,.int .u32 0,.bool false] 45);have kr:=Qdp (w.alloc (.cells #[.int .u8 e,.int .u32 s] 28)) (.cells #[.slice none 0 0,.slice none 0 0,.int .u32 0,.bool false] 45);rw[World.size_alloc]at kr;obtain⟨c0,c1⟩:=box2 kc;have KC:=QA kc;have KR:=QA kr;have a:=QA hb0;have HC:=QA (Kd.C_below hcs hb0);clear hp hsz hby kc kr hb0 hcs hcb;have hnb:((b.length:Int) != sz)=true:=bne_iff_ne.2 hne
 go_enter Tryz.func21,Tryz.ntmps21
 go_wp2
 go_step3
 go_wp2_with (first
  |(go_at_call 66;refine(Qaq.calls _ _ _ _ HSZ.out).mono ?_;rintro ee w2 ⟨rfl,hb2⟩;have d:=QA hb2;have KR2:=QA (Qdo KR1.out hb2);have g:=QA (Kd.C_below (Kd.C_below HC.out c.out) hb2);have HCH2:=QA (Kd.C_below HCH.out.2 hb2);clear hb2;obtain⟨q0,q1,q2,q3⟩:=Qrp KR2.out;obtain⟨g0,g1,g2,g3⟩:=Qsm KR2.out)
  |(go_at_call 57;refine(Qbf.calls e s n hd 0 _ HP.out).mono ?_;rintro ee w1 ⟨v1,rfl,hR1,hb1⟩;obtain⟨A1,d1,hv1⟩:=Kd.R_slice hR1;subst hv1;have c:=QA hb1;have kr1:=Qdo KR.out hb1;have KR1:=QA kr1;have KC1:=QA (Qdo KC.out hb1);clear c0 c1;obtain⟨c0,c1⟩:=box2 KC1.out;have HCH:=QA (Kd.R_reads' hR1).2;clear hb1 hR1 kr1))
 rw[Exit.noGoto_ret];refine bodyPost_ret (Qdq rfl _ _ (w.heap.size+1) 45 #[.slice none 0 0,.slice none 0 0,.int .u32 0,.bool false] (0,0) _ rfl (Qsn _ _ _ _ KR2.out rfl) hu76 rfl qq_4) rfl ?_;have hs:w.heap.size≤w.heap.size+1:=Nat.le_succ _;exact⟨rfl,Qir (Qir (Qir (Qir ((a.out.trans (Qis c.out a.out.size)).trans (Qis d.out (Nat.le_trans a.out.size c.out.size))) hs) hs) hs) hs⟩
theorem Qsr(e s n sz:Int)(Ab:Option Addr)(cb:Nat)(b hd:List Int)(w:World)(hcs:Kd.C (Kd.int .u8) w Ab b.length b)(hcb:b.length≤cb)(hby:CodecP.Bytes b∧CodecP.Bytes hd∧b.length≤100000000000)(hp:Qbf.f e s n=some (hd,0))(hsz:Qaq.f e s=some sz)(heq:(b.length:Int)=sz)(hq:decide (b.take hd.length=hd)=false) :
  Calls Tryz.prog 21 #[.agg #[.int .u8 e,.int .u32 s],.int .u32 n,.slice Ab b.length cb] w (Qsl none 4 w):=by
 have hu76:=Tryz.underlying45;have hu27:=Tryz.underlying28;have HP:=QA hp;have HSZ:=QA hsz;have HBY:=QA hby;have HCB:=QA hcb;have hb0:Below w.heap.size w ((w.alloc (.cells #[.int .u8 e,.int .u32 s] 28)).alloc (.cells #[.slice none 0 0,.slice none 0 0,.int .u32 0,.bool false] 45)):=Qce (Qce (Below.refl _ _) _) _;have kc:=Qdl (Qdp w (.cells #[.int .u8 e,.int .u32 s] 28)) (.cells #[.slice none 0 0,.slice none 0 0,.int .u32 0,.bool false] 45);have kr:=Qdp (w.alloc (.cells #[.int .u8 e,.int .u32 s] 28)) (.cells #[.slice none 0 0,.slice none 0 0,.int .u32 0,.bool false] 45);rw[World.size_alloc]at kr;obtain⟨c0,c1⟩:=box2 kc;have KC:=QA kc;have KR:=QA kr;have a:=QA hb0;have HC:=QA (Kd.C_below hcs hb0);clear hp hsz hby kc kr hb0 hcs hcb;have hnb:((b.length:Int) != sz)=false:=bne_eq_false_iff_eq.2 heq;have HQ:=QA hq;clear hq heq
 go_enter Tryz.func21,Tryz.ntmps21
 go_wp2
 go_step3
 go_wp2_with (first
  |(go_at_call 67;refine(Qsj Ab A1 cb d1 b hd _ g.out HCB.out HCH2.out HCH.out.1 HBY.out.1 HBY.out.2.1 (by have:=HBY.out.2.2;omega)).mono ?_;rw[HQ.out];rintro ee w3 ⟨rfl,hb3⟩;have h:=QA hb3;have KR3:=QA (Qdo KR2.out hb3);clear hb3;obtain⟨q0,q1,q2,q3⟩:=Qrp KR3.out;obtain⟨g0,g1,g2,g3⟩:=Qsm KR3.out)
  |(go_at_call 66;refine(Qaq.calls _ _ _ _ HSZ.out).mono ?_;rintro ee w2 ⟨rfl,hb2⟩;have d:=QA hb2;have KR2:=QA (Qdo KR1.out hb2);have g:=QA (Kd.C_below (Kd.C_below HC.out c.out) hb2);have HCH2:=QA (Kd.C_below HCH.out.2 hb2);clear hb2)
  |(go_at_call 57;refine(Qbf.calls e s n hd 0 _ HP.out).mono ?_;rintro ee w1 ⟨v1,rfl,hR1,hb1⟩;obtain⟨A1,d1,hv1⟩:=Kd.R_slice hR1;subst hv1;have c:=QA hb1;have kr1:=Qdo KR.out hb1;have KR1:=QA kr1;have KC1:=QA (Qdo KC.out hb1);clear c0 c1;obtain⟨c0,c1⟩:=box2 KC1.out;have HCH:=QA (Kd.R_reads' hR1).2;clear hb1 hR1 kr1))
 rw[Exit.noGoto_ret];refine bodyPost_ret (Qdq rfl _ _ (w.heap.size+1) 45 #[.slice none 0 0,.slice none 0 0,.int .u32 0,.bool false] (0,0) _ rfl (Qsn _ _ _ _ KR3.out rfl) hu76 rfl qq_4) rfl ?_;have hs:w.heap.size≤w.heap.size+1:=Nat.le_succ _;exact⟨rfl,Qir (Qir (Qir (Qir (((a.out.trans (Qis c.out a.out.size)).trans (Qis d.out (Nat.le_trans a.out.size c.out.size))).trans (Qis h.out (Nat.le_trans (Nat.le_trans a.out.size c.out.size) d.out.size))) hs) hs) hs) hs⟩
theorem Qss{α:Type}{d:Kd α}{q base:Nat}{ok:Nat→Prop}{v:Value}{xs:List α}{W:World}{g:Nat}{cs:Array Value}(h:d.R q W base ok v xs)(hg:W.heap[g]? = some (.cells cs 45 (0,0)))(ht:∀q',q'∈q :: d.E→q'≠45)(a b c e:Value) :
  d.R q ((((W.setCell ⟨g,0,none⟩ a).setCell ⟨g,1,none⟩ b).setCell ⟨g,2,none⟩ c).setCell ⟨g,3,none⟩ e) base ok v xs :=
 Kd.R_set (Kd.R_set (Kd.R_set (Kd.R_set h hg ht 0 a) (Qcy hg 0 a) ht 1 b) (Qcy (Qcy hg 0 a) 1 b) ht 2 c) (Qcy (Qcy (Qcy hg 0 a) 1 b) 2 c) ht 3 e
theorem cutd(kk:IntKind)(A:Option Addr)(c:Nat)(l:List Int)(hlc:l.length≤c)(m:Nat)(hm:m≤l.length)(j:Int)(hj:j=(m:Int)):∃A' c',(∀W:World,(Instr.slice 40 (.slice A l.length c) (some (.int kk j)) none none).run Tryz.prog W=.ok (.slice A' (l.drop m).length c') W)∧(l.drop m).length≤c' ∧
  ∀W,Kd.C (Kd.int .u8) W A l.length l→Kd.C (Kd.int .u8) W A' (l.drop m).length (l.drop m):=by
 obtain⟨i0,hii,_,hsz1,_⟩:=info_parts Qia;have h:=Qeb (P:=Tryz.prog) 40 5 kk Tryz.underlying40 hii 1 hsz1 A l.length c j (by omega) (by omega);rw[show j.toNat=m by omega]at h;refine⟨_,c-m,fun W=>by rw[List.length_drop];exact h W,by rw[List.length_drop];omega,fun W hC=>?_⟩;exact Kd.C_drop (m:=m) hC hm hlc
theorem cutt(kk:IntKind)(A:Option Addr)(c:Nat)(l:List Int)(hlc:l.length≤c)(m:Nat)(hm:m≤l.length)(j:Int)(hj:j=(m:Int)):(∀W:World,(Instr.slice 40 (.slice A l.length c) none (some (.int kk j)) none).run Tryz.prog W=.ok (.slice A (l.take m).length c) W)∧(l.take m).length≤c ∧
  ∀W,Kd.C (Kd.int .u8) W A l.length l→Kd.C (Kd.int .u8) W A (l.take m).length (l.take m):=by
 obtain⟨i0,hii,_,hsz1,_⟩:=info_parts Qia;have h:=Qea (P:=Tryz.prog) 40 5 kk Tryz.underlying40 hii A l.length c j (by omega) (by omega) hlc;rw[show j.toNat=m by omega]at h;have e:(l.take m).length=m:=by rw[List.length_take];omega
 refine⟨fun W=>by rw[e];exact h W,by omega,fun W hC=>?_⟩;exact Kd.C_take (m:=m) hC hm
theorem Qst (e s n sz:Int) (Ab:Option Addr) (cb:Nat) (b hd:List Int) (w:World) (hcs:Kd.C (Kd.int .u8) w Ab b.length b) (hcb:b.length≤cb) (hby:CodecP.Bytes b∧CodecP.Bytes hd∧b.length≤100000000000) (hp:Qbf.f e s n=some (hd,0)) (hsz:Qaq.f e s=some sz) (k f0:Nat) (heq:(b.length:Int)=sz) (hq:decide (b.take hd.length=hd)=true) (hl4:b.length≤1000000000) (res:Option (List Rec × List Int × Nat × Bool)) (hsc:Qsk k b f0 [] [] hd.length=some res) :
  Calls Tryz.prog 21 #[.agg #[.int .u8 e,.int .u32 s],.int .u32 n,.slice Ab b.length cb] w (Qsl res 4 w):=by
 have hhd:hd.length≤b.length:=by
  have h:=of_decide_eq_true hq;have:=congrArg List.length h;rw[List.length_take]at this;omega
 obtain⟨J,hJ⟩:∃J:Int,J=(hd.length:Int):=⟨_,rfl⟩;obtain⟨A0,ac,hcutH,hlh,hCH⟩:=cutd .i64 Ab cb b hcb hd.length hhd (hd.length:Int) rfl;have HLH:=QA hlh;have HCH0:=QA (hCH w hcs);have HCB0:=QA hcs;have hu76:=Tryz.underlying45;have hu27:=Tryz.underlying28;have HP:=QA hp;have HSZ:=QA hsz;have HBY:=QA hby;have HCB:=QA hcb;have hb0:Below w.heap.size w ((w.alloc (.cells #[.int .u8 e,.int .u32 s] 28)).alloc (.cells #[.slice none 0 0,.slice none 0 0,.int .u32 0,.bool false] 45)):=Qce (Qce (Below.refl _ _) _) _;have kc:=Qdl (Qdp w (.cells #[.int .u8 e,.int .u32 s] 28)) (.cells #[.slice none 0 0,.slice none 0 0,.int .u32 0,.bool false] 45);have kr:=Qdp (w.alloc (.cells #[.int .u8 e,.int .u32 s] 28)) (.cells #[.slice none 0 0,.slice none 0 0,.int .u32 0,.bool false] 45);rw[World.size_alloc]at kr;obtain⟨c0,c1⟩:=box2 kc;have KC:=QA kc;have KR:=QA kr;have B:=QA hb0;have HC:=QA (Kd.C_below hcs hb0);clear hp hsz hby kc kr hb0 hcs hcb;have hnb:((b.length:Int) != sz)=false:=bne_eq_false_iff_eq.2 heq;have HQ:=QA hq;have HSC:=QA hsc;have HHD:=QA hhd;have HJ:=QA hJ;have hw32:IntKind.u32.wrap (hd.length:Int)=J:=(IntWalk.u32_in _ (by omega)).trans hJ.symm;clear hq heq hsc hlh hCH hJ hhd
 go_enter Tryz.func21,Tryz.ntmps21
 go_wp2
 go_step3
 go_wp2_with (first
  |(go_at_call 67;refine(Qsj Ab A1 cb d1 b hd _ Z.out HCB.out HCH2.out HCH.out.1 HBY.out.1 HBY.out.2.1 (by have:=HBY.out.2.2;omega)).mono ?_;rw[HQ.out];rintro ee w3 ⟨rfl,hb3⟩;have aa:=QA hb3;have KR3:=QA (Qdo KR2.out hb3);clear hb3;clear c0 c1)
  |(go_at_call 66;refine(Qaq.calls _ _ _ _ HSZ.out).mono ?_;rintro ee w2 ⟨rfl,hb2⟩;have T:=QA hb2;have KR2:=QA (Qdo KR1.out hb2);have Z:=QA (Kd.C_below (Kd.C_below HC.out D.out) hb2);have HCH2:=QA (Kd.C_below HCH.out.2 hb2);clear hb2)
  |(go_at_call 57;refine(Qbf.calls e s n hd 0 _ HP.out).mono ?_;rintro ee w1 ⟨v1,rfl,hR1,hb1⟩;obtain⟨A1,d1,hv1⟩:=Kd.R_slice hR1;subst hv1;have D:=QA hb1;have kr1:=Qdo KR.out hb1;have KR1:=QA kr1;have KC1:=QA (Qdo KC.out hb1);clear c0 c1;obtain⟨c0,c1⟩:=box2 KC1.out;have HCH:=QA (Kd.R_reads' hR1).2;clear hb1 hR1 kr1))
 go_step3
 obtain⟨W4,hW4⟩:∃W4,W4=w3.alloc (.cells #[.slice none 0 0,.slice none 0 0,.int .u32 J,.bool false] 45):=⟨_,rfl⟩;have hb34:Below w3.heap.size w3 W4:=by rw[hW4];exact Qce (Below.refl _ _) _
 have KV4:Aside0 (W4.heap[w3.heap.size]? = some (.cells #[.slice none 0 0,.slice none 0 0,.int .u32 J,.bool false] 45 (0,0))):=⟨by rw[hW4];exact Qdp w3 _⟩;have hbw3:Below w.heap.size w w3:=((B.out.trans (Qis D.out B.out.size)).trans (Qis T.out (Nat.le_trans B.out.size D.out.size))).trans (Qis aa.out (Nat.le_trans (Nat.le_trans B.out.size D.out.size) T.out.size));have X:=QA (hbw3.trans (Qis hb34 hbw3.size));have KR4:=QA (Qdo KR3.out hb34);have HVB:=QA (Qda KR3.out);rw[← hW4];clear hW4 hb34 hbw3;obtain⟨vb,hvb⟩:∃vb,vb=w3.heap.size:=⟨_,rfl⟩;rw[← hvb]at KV4 HVB ⊢;clear hvb;go_wp2
 go_loopw [11] (fun L wr=>∃(l:List Rec) (ps:List Int) (u f:Nat) (U:Int) (Av Ar Aa:Option Addr) (cv cr ca:Nat),L=.slice Av (b.drop u).length cv∧Aside0 (U=(u:Int))∧Aside0 ((b.drop u).length≤cv)∧u≤b.length∧Aside0 (Kd.C (Kd.int .u8) w Av (b.drop u).length (b.drop u))∧Aside0 (Qsk k b f l ps u=some res) ∧
   Aside0 (wr.heap[vb]? = some (.cells #[.slice Ar l.length cr,.slice Aa ps.length ca,.int .u32 U,.bool false] 45 (0,0)))∧Aside0 (Kd.R k37 37 wr w.heap.size (fun _=>True) (.slice Ar l.length cr) l)∧Aside0 (Kd.R (Kd.int .u32) 26 wr w.heap.size (fun _=>True) (.slice Aa ps.length ca) ps) ∧
   Aside0 (wr.heap[w.heap.size+1]? = some (.cells #[.slice none 0 0,.slice none 0 0,.int .u32 0,.bool false] 45 (0,0)))∧Aside0 (Below w.heap.size w wr)∧Aside0 (∀r∈l,r.f2.size≤140737488355328)∧Aside0 (ps.Pairwise (· < ·)∧∀p∈ps,p<(u:Int))∧Aside0 (ps.length=l.length∧l.length≤u))
  (fun L _=>lenV L)
 case atStart=>exact⟨[],[],hd.length,f0,J,_,none,none,_,0,0,by rw[List.length_drop],HJ,HLH,HHD.out,HCH0,HSC,KV4,⟨Kd.R_nil _ _ _ _ _⟩,⟨Kd.R_nil _ _ _ _ _⟩,KR4,X,⟨by simp⟩,⟨by simp⟩,⟨by simp⟩⟩
 case round =>
  clear X KR4 KV4 HSC HCH0 HLH;obtain⟨l,ps,u,f,U,Av,Ar,Aa,cv,cr,ca,rfl,HU,HLC,hub,HCV,HSC,KV,E,HRA,KR,HB,HKZ,HPW,HLN⟩:=hrel;obtain⟨rst,hrst⟩:∃rst,rst=b.drop u:=⟨_,rfl⟩;rw[← hrst]at HLC HCV ⊢;have HRST:=QA hrst;clear hrst
  cases f with
  | zero=>exact absurd HSC.out (by simp[Qsk])
  | succ f =>
   have hsc:=HSC.out;unfold Qsk at hsc;rw[← HRST.out]at hsc;obtain⟨ix,hix⟩:∃ix,ix=ixOf rst 0:=⟨_,rfl⟩;rw[← hix]at hsc;have hixr:=Qjo rst 0;rw[← hix]at hixr;have IXC:=QA (fun W (h:Kd.C (Kd.int .u8) W Av rst.length rst)=>Qae.calls Av cv rst 0 ix W h HLC.out (by rw[hix];rfl));obtain⟨v0,v1,v2,v3⟩:=Qrp KV.out;have HIX:=QA hixr;clear hix HSC hixr
   by_cases hneg:ix<0
   ·rw[if_pos hneg]at hsc;have hng:decide (ix<0)=true:=decide_eq_true hneg;have HSC:=QA hsc;clear hsc hneg;obtain⟨Au,cu,hcutU,hlu,hCU⟩:=cutd .u32 Ab cb b HCB.out u hub U HU.out;rw[← HRST.out]at hcutU hlu hCU;have HLU:=QA hlu;have HCU:=QA (hCU w HCB0.out);obtain⟨fq,hfq⟩:∃fq,fq=Qrr rst:=⟨_,rfl⟩;have ERS:=QA (fun W (h:Kd.C (Kd.int .u8) W Au rst.length rst)=>Qru Au cu rst W h (by have q:rst.length≤b.length:=(by rw[HRST.out,List.length_drop];omega);omega));rw[← hfq]at ERS;have HFQ:=QA hfq;clear hlu hCU hfq
    cases fq with
    | true =>
     have hres:some (l,ps,u,false)=res:=by
      have h:=HSC.out;rw[if_pos HFQ.out.symm]at h;exact Option.some.inj h
     subst hres
     go_wp2_with (first
      |(go_at_call 71;refine(ERS.out _ (Kd.C_below HCU.out (HB.out.trans (Qis d.out HB.out.size)))).mono ?_;rintro ee w6 ⟨rfl,rfl⟩;obtain⟨k0,k1,k2,k3⟩:=Qrp KR5.out;obtain⟨g0,g1,g2,g3⟩:=Qsm KR5.out)
      |(go_at_call 68;refine(IXC.out _ (Kd.C_below HCV.out HB.out)).mono ?_;rintro ee w5 ⟨rfl,hd5⟩;have d:=QA hd5.below;obtain⟨y0,y1,y2,y3⟩:=Qrp (Qdo KV.out d.out);have KR5:=QA (Qdo KR.out d.out);clear hd5))
     rw[Exit.noGoto_ret];refine bodyPost_ret (Qdq rfl _ _ (w.heap.size+1) 45 #[.slice Ar l.length cr,.slice Aa ps.length ca,.int .u32 U,.bool false] (0,0) _ rfl (Qsn _ _ _ _ KR5.out rfl) hu76 rfl qq_4) rfl ?_;have hs:w.heap.size≤w.heap.size+1:=Nat.le_succ _;have HRR6:=Qss (Kd.R_below E.out d.out) KR5.out (by decide) (.slice Ar l.length cr) (.slice Aa ps.length ca) (.int .u32 U) (.bool false);have HRA6:=Qss (Kd.R_below HRA.out d.out) KR5.out (by decide) (.slice Ar l.length cr) (.slice Aa ps.length ca) (.int .u32 U) (.bool false);refine⟨⟨Ar,cr,Aa,ca,by rw[← HU.out];rfl,HRR6,HRA6⟩,?_⟩;exact Qir (Qir (Qir (Qir (HB.out.trans (Qis d.out HB.out.size)) hs) hs) hs) hs
    | false =>
     have hres:none=res:=by
      have h:=HSC.out;rw[if_neg (by rw[← HFQ.out];decide)]at h;exact Option.some.inj h
     subst hres
     go_wp2_with (first
      |(go_at_call 71;refine(ERS.out _ (Kd.C_below HCU.out (HB.out.trans (Qis d.out HB.out.size)))).mono ?_;rintro ee w6 ⟨rfl,rfl⟩;obtain⟨k0,k1,k2,k3⟩:=Qrp KR5.out;obtain⟨g0,g1,g2,g3⟩:=Qsm KR5.out)
      |(go_at_call 68;refine(IXC.out _ (Kd.C_below HCV.out HB.out)).mono ?_;rintro ee w5 ⟨rfl,hd5⟩;have d:=QA hd5.below;obtain⟨y0,y1,y2,y3⟩:=Qrp (Qdo KV.out d.out);have KR5:=QA (Qdo KR.out d.out);clear hd5))
     rw[Exit.noGoto_ret];refine bodyPost_ret (Qdq rfl _ _ (w.heap.size+1) 45 #[.slice none 0 0,.slice none 0 0,.int .u32 0,.bool false] (0,0) _ rfl (Qsn _ _ _ _ KR5.out rfl) hu76 rfl qq_4) rfl ?_;have hs:w.heap.size≤w.heap.size+1:=Nat.le_succ _;exact⟨rfl,Qir (Qir (Qir (Qir (HB.out.trans (Qis d.out HB.out.size)) hs) hs) hs) hs⟩
   ·rw [if_neg hneg]at hsc;have hng:decide (ix<0)=false:=decide_eq_false hneg;have hrl:rst.length=b.length-u:=by rw[HRST.out,List.length_drop]
    obtain⟨m,hm⟩:∃m,m=ix.toNat:=⟨_,rfl⟩;rw[← hm]at hsc;have hixm:ix=(m:Int):=by omega
    have hml:m<rst.length:=by have:=HIX.out.2;omega
    obtain⟨hcutN,hln,hCN⟩:=cutt .i64 Av cv rst HLC.out m (by omega) ix hixm;obtain⟨ck,hck⟩:∃ck,ck=rst.take m:=⟨_,rfl⟩;rw[← hck]at hcutN hln hCN hsc;obtain⟨⟨r1,r2,r3,r4,r5⟩,hgr,hsc⟩:=Option.bind_eq_some_iff.mp hsc;dsimp only at hsc;have GR:=QA (fun W (h:Kd.C (Kd.int .u8) W Av ck.length ck)=>Qbd.calls k Av cv ck r1 r2 r3 r4 r5 W h hln hgr);have HCN:=QA (hCN w HCV.out);have HIXM:=QA hixm;have HML:=QA hml;have HLN2:=QA hln;have HRL:=QA hrl;have HCK:=QA hck;clear hm hixm hml hgr hln hCN hrl hck hneg
    by_cases her:r5=0
    ·rw[if_pos her]at hsc;subst her;have hkz:r3.size≤140737488355328:=by
      apply Decidable.byContradiction;intro h;rw[if_neg h]at hsc
      cases hsc
     rw[if_pos hkz]at hsc;have HSC:=QA hsc;have HKZ1:=QA hkz;clear hsc hkz;have hwx:IntKind.i64.wrap (ix+1)=ix+1:=IntWalk.i64_in _ (by have:=HIXM.out;have:=HML.out;have:=HRL.out;omega);have hwy:IntKind.u32.wrap (ix+1)=ix+1:=IntWalk.u32_in _ (by have:=HIXM.out;have:=HML.out;have:=HRL.out;omega);obtain⟨U2,hU2⟩:∃U2:Int,U2=U+(ix+1):=⟨_,rfl⟩;have hwz:IntKind.u32.wrap (U+(ix+1))=U2:=(IntWalk.u32_in _ (by have:=HU.out;have:=HIXM.out;have:=HML.out;have:=HRL.out;omega)).trans hU2.symm;have HU2:Aside0 (U2=((u+m+1:Nat):Int)):=⟨by have:=HU.out;have:=HIXM.out;omega⟩;clear hU2;obtain⟨An,cn,hcutM,hlm,hCM⟩:=cutd .u32 Ab cb b HCB.out (u+m+1) (by have:=HML.out;have:=HRL.out;omega) U2 HU2.out;have HLM:=QA hlm;have HCM:=QA (hCM w HCB0.out);clear hlm hCM
     go_upto_region 17 with(first
      |(go_at_call 69;refine(GR.out _ (Kd.C_below HCN.out d.out)).mono ?_;rintro ee w6 ⟨rfl,hb6⟩;have j:=QA (d.out.trans (Qis hb6 d.out.size));have KV6:=QA (Qdo KV5.out hb6);have KR6:=QA (Qdo KR5.out hb6);have HRR6:=QA (Kd.R_below HRR5.out hb6);have HRA6:=QA (Kd.R_below HRA5.out hb6);clear hb6)
      |(go_at_call 68;refine(IXC.out _ (Kd.C_below HCV.out HB.out)).mono ?_;rintro ee w5 ⟨rfl,hd5⟩;have d:=QA (HB.out.trans (Qis hd5.below HB.out.size));have KR5:=QA (Qdo KR.out hd5.below);have KV5:=QA (Qdo KV.out hd5.below);have HRR5:=QA (Kd.R_below E.out hd5.below);have HRA5:=QA (Kd.R_below HRA.out hd5.below);clear hd5))
     obtain⟨W7,hW7⟩:∃W7,W7=w6.alloc (.cells #[.bool r1,.int .u64 r2,.string r3,.string r4] 37):=⟨_,rfl⟩;have hb7:Below w6.heap.size w6 W7:=by rw[hW7];exact Qce (Below.refl _ _) _
     have K39:Aside0 (W7.heap[w6.heap.size]? = some (.cells #[.bool r1,.int .u64 r2,.string r3,.string r4] 37 (0,0))):=⟨by rw[hW7];exact Qdp w6 _⟩;rw[← hW7];clear hW7;have g:=QA (j.out.trans (Qis hb7 j.out.size));have KV7:=QA (Qdo KV6.out hb7);have KR7:=QA (Qdo KR6.out hb7);have HRR7:=QA (Kd.R_below HRR6.out hb7);have HRA7:=QA (Kd.R_below HRA6.out hb7);obtain⟨x0,x1,x2,x3⟩:=Qrp KV7.out;clear hb7 v0 v1 v2 v3;obtain⟨t0,t1,t2,t3⟩:=box4 K39.out;obtain⟨l2,hl2⟩:∃l2,l2=l++[(⟨r1,r2,r3,r4⟩:Rec)]:=⟨_,rfl⟩;obtain⟨ps2,hps2⟩:∃ps2,ps2=ps++[U]:=⟨_,rfl⟩;have HL2:=QA (And.intro hl2 hps2);clear hl2 hps2
     go_upto_region 18 with(at_builtin;refine Kd.R_append k37 (w0:=w) w.heap.size rfl (.tmp 80) (.tmp 82) 22 37 (.agg #[.bool false,.int .u64 0,.string (⟨#[]⟩:ByteArray),.string (⟨#[]⟩:ByteArray)]) 48 rfl Tryz.underlying22 Qid rfl (by decide) (by omega) (.slice Ar l.length cr) l (⟨r1,r2,r3,r4⟩:Rec) [.bool r1,.int .u64 r2,.string r3,.string r4] (fun _=>True) (fun _=>False) rfl ?ax ?aP (fun _ hk=>hk.elim) ?aF ?aO ?aB ?aS ?aL ?_;(case ax=>rfl);(case aP=>exact Qif _ _ _ (⟨r1,r2,r3,r4⟩:Rec));(case aF=>exact fun _ _=>trivial);(case aO=>exact HRR7.out);(case aB=>exact g.out);(case aS=>exact g.out.size);(case aL=>have:=HLN.out.2;omega);intro v8 w8 G hb8 I hat8;rw[← HL2.out.1]at G;obtain⟨A8,c8,hv8⟩:=Kd.R_slice G;subst hv8;have HRR8:=QA G;have HRA8:=QA (Kd.R_over' HRA7.out (Kd.R_typed HRR7.out) (by decide) I);have KV8:=QA (Qdd KV7.out I (Kd.R_ne HRR7.out KV7.out (by decide)));have KR8:=QA (Qdd KR7.out I (Kd.R_ne HRR7.out KR7.out (by decide)));have o:=QA hb8;obtain⟨z0,z1,z2,z3⟩:=Qrp KV8.out;obtain⟨e0,e1,e2,e3⟩:=Qsm KV8.out;clear G hb8 I hat8)
     obtain⟨W9,hW9⟩:∃W9,W9=w8.setCell ⟨vb,0,none⟩ (.slice A8 l2.length c8):=⟨_,rfl⟩;have hs2:w.heap.size≤vb:=by have:=HVB.out;omega
     have hner:w.heap.size+1≠vb:=by have:=HVB.out;omega
     have KV9:Aside0 (W9.heap[vb]? = some (.cells #[.slice A8 l2.length c8,.slice Aa ps.length ca,.int .u32 U,.bool false] 45 (0,0))):=⟨by rw[hW9];exact Qcy KV8.out 0 _⟩;have KR9:Aside0 (W9.heap[w.heap.size+1]? = some (.cells #[.slice none 0 0,.slice none 0 0,.int .u32 0,.bool false] 45 (0,0))):=⟨by rw[hW9];exact Qcz KR8.out (p:=⟨vb,0,none⟩) hner _⟩;have HRR9:Aside0 (Kd.R k37 37 W9 w.heap.size (fun _=>True) (.slice A8 l2.length c8) l2):=⟨by rw[hW9];exact Kd.R_set HRR8.out KV8.out (by decide) 0 _⟩;have HRA9:Aside0 (Kd.R (Kd.int .u32) 26 W9 w.heap.size (fun _=>True) (.slice Aa ps.length ca) ps):=⟨by rw[hW9];exact Kd.R_set HRA8.out KV8.out (by decide) 0 _⟩;have M:Aside0 (Below w.heap.size w W9):=⟨by rw[hW9];exact Qir o.out hs2⟩;rw[← hW9];clear hW9 x0 x1 x2 x3 t0 t1 t2 t3 z0 z1 z2 z3 e0 e1 e2 e3 KV8 KR8 HRR8 HRA8 o KV7 KR7 HRR7 HRA7 g;obtain⟨x0,x1,x2,x3⟩:=Qrp KV9.out
     go_upto_region 19 with(at_builtin;refine Kd.R_append (Kd.int .u32) (w0:=w) w.heap.size rfl (.tmp 86) (.tmp 89) 34 26 (.int .u32 0) 4 rfl Tryz.underlying34 Qib rfl (by decide) (by omega) (.slice Aa ps.length ca) ps U [.int .u32 U] (fun _=>True) (fun _=>False) rfl ?ax ?aP (fun _ hk=>hk.elim) ?aF ?aO ?aB ?aS ?aL ?_;(case ax=>rfl);(case aP=>rfl);(case aF=>exact fun _ _=>trivial);(case aO=>exact HRA9.out);(case aB=>exact M.out);(case aS=>exact M.out.size);(case aL=>have:=HLN.out.1;have:=HLN.out.2;omega);intro ad ab z hb10 A hat10;rw[← HL2.out.2]at z;obtain⟨t,c10,hv10⟩:=Kd.R_slice z;subst hv10;have HRA10:=QA z;have HRR10:=QA (Kd.R_over' HRR9.out (Kd.R_typed HRA9.out) (by decide) A);have KV10:=QA (Qdd KV9.out A (Kd.R_ne HRA9.out KV9.out (by decide)));have KR10:=QA (Qdd KR9.out A (Kd.R_ne HRA9.out KR9.out (by decide)));have O:=QA hb10;obtain⟨z0,z1,z2,z3⟩:=Qrp KV10.out;obtain⟨e0,e1,e2,e3⟩:=Qsm KV10.out;clear z hb10 A hat10)
     obtain⟨W11,hW11⟩:∃W11,W11=ab.setCell ⟨vb,1,none⟩ (.slice t ps2.length c10):=⟨_,rfl⟩;have KV11:Aside0 (W11.heap[vb]? = some (.cells #[.slice A8 l2.length c8,.slice t ps2.length c10,.int .u32 U,.bool false] 45 (0,0))):=⟨by rw[hW11];exact Qcy KV10.out 1 _⟩;have KR11:Aside0 (W11.heap[w.heap.size+1]? = some (.cells #[.slice none 0 0,.slice none 0 0,.int .u32 0,.bool false] 45 (0,0))):=⟨by rw[hW11];exact Qcz KR10.out (p:=⟨vb,1,none⟩) hner _⟩;have HRR11:Aside0 (Kd.R k37 37 W11 w.heap.size (fun _=>True) (.slice A8 l2.length c8) l2):=⟨by rw[hW11];exact Kd.R_set HRR10.out KV10.out (by decide) 1 _⟩;have HRA11:Aside0 (Kd.R (Kd.int .u32) 26 W11 w.heap.size (fun _=>True) (.slice t ps2.length c10) ps2):=⟨by rw[hW11];exact Kd.R_set HRA10.out KV10.out (by decide) 1 _⟩;have P:Aside0 (Below w.heap.size w W11):=⟨by rw[hW11];exact Qir O.out hs2⟩;rw[← hW11];clear hW11 x0 x1 x2 x3 z0 z1 z2 z3 e0 e1 e2 e3 KV10 KR10 HRR10 HRA10 O KV9 KR9 HRR9 HRA9 M;obtain⟨x0,x1,x2,x3⟩:=Qrp KV11.out;obtain⟨e0,e1,e2,e3⟩:=Qsm KV11.out
     go_upto_region 8 with fail
     obtain⟨W12,hW12⟩:∃W12,W12=W11.setCell ⟨vb,2,none⟩ (.int .u32 U2):=⟨_,rfl⟩;have KV12:Aside0 (W12.heap[vb]? = some (.cells #[.slice A8 l2.length c8,.slice t ps2.length c10,.int .u32 U2,.bool false] 45 (0,0))):=⟨by rw[hW12];exact Qcy KV11.out 2 _⟩;have KR12:Aside0 (W12.heap[w.heap.size+1]? = some (.cells #[.slice none 0 0,.slice none 0 0,.int .u32 0,.bool false] 45 (0,0))):=⟨by rw[hW12];exact Qcz KR11.out (p:=⟨vb,2,none⟩) hner _⟩;have HRR12:Aside0 (Kd.R k37 37 W12 w.heap.size (fun _=>True) (.slice A8 l2.length c8) l2):=⟨by rw[hW12];exact Kd.R_set HRR11.out KV11.out (by decide) 2 _⟩;have HRA12:Aside0 (Kd.R (Kd.int .u32) 26 W12 w.heap.size (fun _=>True) (.slice t ps2.length c10) ps2):=⟨by rw[hW12];exact Kd.R_set HRA11.out KV11.out (by decide) 2 _⟩;have Y:Aside0 (Below w.heap.size w W12):=⟨by rw[hW12];exact Qir P.out hs2⟩;rw[← hW12];clear hW12 x0 x1 x2 x3 e0 e1 e2 e3 KV11 KR11 HRR11 HRA11 P;obtain⟨x0,x1,x2,x3⟩:=Qrp KV12.out;have hdl:(b.drop (u+m+1)).length<rst.length:=by rw[List.length_drop,HRL.out];have:=HML.out;have:=HRL.out;omega
     obtain⟨rs3,hrs3⟩:∃rs3,rs3=b.drop (u+m+1):=⟨_,rfl⟩;rw[← hrs3]at hcutM HLM HCM hdl;have HRS3:=QA hrs3;have HDL:=QA hdl;clear hrs3 hdl
     go_wp2_with fail
     go_roundw
     case rel =>
      refine⟨l2,ps2,u+m+1,f,U2,An,A8,t,cn,c8,c10,by rw[← HRS3.out],HU2,⟨by rw[← HRS3.out];exact HLM.out⟩,by have:=HML.out;have:=HRL.out;omega,⟨by rw[← HRS3.out];exact HCM.out⟩,⟨?_⟩,KV12,HRR12,HRA12,KR12,Y,⟨?_⟩,⟨?_,?_⟩,⟨?_,?_⟩⟩
      ·rw[HL2.out.1,HL2.out.2,HU.out];exact HSC.out
      ·intro r hr;rw[HL2.out.1]at hr
       rcases List.mem_append.1 hr with hr|hr
       ·exact HKZ.out r hr
       ·rw[List.mem_singleton.1 hr];exact HKZ1.out
      ·rw[HL2.out.2];refine List.pairwise_append.2 ⟨HPW.out.1,List.pairwise_singleton _ _,fun x hx y hy=>?_⟩;rw[List.mem_singleton.1 hy,HU.out];exact HPW.out.2 x hx
      ·intro p hp;rw[HL2.out.2]at hp
       rcases List.mem_append.1 hp with hp|hp
       ·have:=HPW.out.2 p hp;omega
       ·rw[List.mem_singleton.1 hp,HU.out];omega
      ·rw[HL2.out.1,HL2.out.2,List.length_append,List.length_append,HLN.out.1];rfl
      ·rw[HL2.out.1,List.length_append];have:=HLN.out.2;simp only[List.length_singleton];omega
     case measure=>have:=HDL.out;simp[lenV];omega
    ·rw [if_neg her]at hsc;have hne5:(r5 != 0)=true:=bne_iff_ne.2 her;clear her;obtain⟨⟨out,e0⟩,hO,hsc⟩:=Option.bind_eq_some_iff.mp hsc;dsimp only at hsc
     by_cases hgd:e0=0→CodecP.Bytes out∧out.length≤100000000000
     ·rw [if_pos hgd]at hsc;obtain⟨bq,hbq⟩:∃bq,bq=Qro (u:Int) l ps (getF e0 out):=⟨_,rfl⟩;obtain⟨fq,hfq⟩:∃fq,fq=Qrr (b.drop (u+m+1)):=⟨_,rfl⟩;rw[← hbq,← hfq]at hsc;have CL:=QA (fun W h1 h2 h3=>Qrq k Ar Aa Av cr ca cv l ps ck out U e0 false W h1 h2 HLN.out.1 (by have:=HLN.out.2;omega) HKZ.out (Qso HPW.out.1) h3 HLN2.out hO hgd);rw[HU.out,← hbq,← HU.out]at CL;obtain⟨An,cn,hcutM,hlm,hCM⟩:=cutd .i64 Av cv rst HLC.out (m+1) (by have:=HML.out;omega) (ix+1) (by have:=HIXM.out;omega);have hwx:IntKind.i64.wrap (ix+1)=ix+1:=IntWalk.i64_in _ (by have:=HIXM.out;have:=HML.out;have:=HRL.out;omega);have hdd:rst.drop (m+1)=b.drop (u+m+1):=by rw[HRST.out,List.drop_drop,Nat.add_assoc]
      rw[hdd]at hcutM hlm hCM;obtain⟨rs2,hrs2⟩:∃rs2,rs2=b.drop (u+m+1):=⟨_,rfl⟩;have hl2:rs2.length≤140737488355328:=by rw[hrs2,List.length_drop];omega
      rw[← hrs2]at hcutM hlm hCM hfq;have ERS:=QA (fun W (h:Kd.C (Kd.int .u8) W An rs2.length rs2)=>Qru An cn rs2 W h hl2);rw[← hfq]at ERS;have HCM:=QA (hCM w HCV.out);have HSC:=QA (Option.some.inj hsc);clear hO hgd hsc hbq hfq hdd hlm hCM hl2 hrs2
      cases bq with
      | false =>
       have hres:none=res:=by
        have h:=HSC.out;rw[if_neg (by simp)]at h;exact h
       subst hres
       go_upto_region 13 with(first
        |(go_at_call 69;refine(GR.out _ (Kd.C_below HCN.out d.out)).mono ?_;rintro ee w6 ⟨rfl,hb6⟩;have j:=QA (d.out.trans (Qis hb6 d.out.size));have KV6:=QA (Qdo KV5.out hb6);have KR6:=QA (Qdo KR5.out hb6);have HRR6:=QA (Kd.R_below HRR5.out hb6);have HRA6:=QA (Kd.R_below HRA5.out hb6);clear hb6)
        |(go_at_call 68;refine(IXC.out _ (Kd.C_below HCV.out HB.out)).mono ?_;rintro ee w5 ⟨rfl,hd5⟩;have d:=QA (HB.out.trans (Qis hd5.below HB.out.size));have KR5:=QA (Qdo KR.out hd5.below);have KV5:=QA (Qdo KV.out hd5.below);have HRR5:=QA (Kd.R_below E.out hd5.below);have HRA5:=QA (Kd.R_below HRA.out hd5.below);clear hd5))
       obtain⟨W7,hW7⟩:∃W7,W7=w6.alloc (.cells #[.bool r1,.int .u64 r2,.string r3,.string r4] 37):=⟨_,rfl⟩;have hb7:Below w6.heap.size w6 W7:=by rw[hW7];exact Qce (Below.refl _ _) _
       rw[← hW7];clear hW7;have hb7d:Below w6.heap.size w6 W7.drew:=Qcf hb7;have g:=QA (j.out.trans (Qis hb7d j.out.size));have KV7:=QA (Qdo KV6.out hb7d);have KR7:=QA (Qdo KR6.out hb7d);have HRR7:=QA (Kd.R_below HRR6.out hb7d);have HRA7:=QA (Kd.R_below HRA6.out hb7d);obtain⟨x0,x1,x2,x3⟩:=Qrp KV7.out;clear hb7 hb7d v0 v1 v2 v3;refine Qfk (n:=14) (S:=fun w'=>w'.cell? ⟨vb,0,none⟩=some (.slice Ar l.length cr)∧w'.cell? ⟨vb,1,none⟩=some (.slice Aa ps.length ca)∧w'.cell? ⟨vb,2,none⟩=some (.int .u32 U)∧w'.cell? ⟨vb,3,none⟩=some (.bool false)) (ds:=[]) (bm 14 0) qq_4 rfl rfl ⟨x0,x1,x2,x3⟩ (fun c=>?_);refine pz_ (i:=1) (N:=some 63) (bm 14 2) qq_4 ?_;refine pz_ (i:=2) (N:=some 64) (bm 14 6) qq_4 ?_;refine pz_ (i:=3) (N:=some 65) (bm 14 14) qq_4 ?_;refine tz_ (i:=0) (N:=some 62) (bm 14 15) qq_4 c ?_;refine one_ (i:=4) (N:=some 66) (bm 14 31) rfl rfl qq_4 (by decide) (fun K hK=>?_);refine Qfs Tryz.func70 qq_4 rfl #[.agg #[.slice Ar l.length cr,.slice Aa ps.length ca,.int .u32 U,.bool false],.slice Av ck.length cv] (by rfl) rfl rfl (by simp only[List.map_toArray,List.map_cons,List.map_nil];rfl) ?_;with_reducible refine(CL.out _ (Kd.R_reads' HRR7.out).2.2 (Kd.R_reads' HRA7.out).2.2 (Kd.C_below HCN.out g.out)).mono ?_
       rintro ee w8 ⟨rfl,hb8⟩;refine⟨_,rfl,?_⟩;have o:=QA (g.out.trans (Qis hb8 g.out.size));have KV8:=QA (Qdo KV7.out hb8);have KR8:=QA (Qdo KR7.out hb8);have HRR8:=QA (Kd.R_below HRR7.out hb8);have HRA8:=QA (Kd.R_below HRA7.out hb8);obtain⟨k0,k1,k2,k3⟩:=Qrp KR8.out;obtain⟨g0,g1,g2,g3⟩:=Qsm KR8.out;refine hK.out _ _ ⟨(Qci hb8 c.1),(Qci hb8 c.2.1),(Qci hb8 c.2.2.1),(Qci hb8 c.2.2.2)⟩ (fun c=>?_);clear hK K;refine nzp_ 66 ?_;refine pz_ (i:=5) (N:=some 67) (bm 14 63) qq_4 ?_;refine pz_ (i:=6) (N:=some 68) (bm 14 127) qq_4 ?_;refine Qfm (i:=7) (N:=some 69) (v:=undef) (a':=?_) (bm 14 255) rfl rfl qq_4 (fun _ _ _ h=>h) (Or.inr ⟨by rfl,rfl⟩) ?_ ?_;rotate_left
       ·simp only[Act.put,List.setIfInBounds_toArray,List.set_cons_zero,List.set_cons_succ,Qfu,Qfv];rfl
       refine Qfm (i:=8) (N:=some 70) (v:=undef) (a':=?_) (bm 14 511) rfl rfl qq_4 (fun _ _ _ h=>h) (Or.inr ⟨by rfl,rfl⟩) ?_ ?_;rotate_left
       ·simp only[Act.put,List.setIfInBounds_toArray,List.set_cons_zero,List.set_cons_succ,Qfu,Qfv];rfl
       refine Qfm (i:=9) (N:=some 71) (v:=undef) (a':=?_) (bm 14 1023) rfl rfl qq_4 (fun _ _ _ h=>h) (Or.inr ⟨by rfl,rfl⟩) ?_ ?_;rotate_left
       ·simp only[Act.put,List.setIfInBounds_toArray,List.set_cons_zero,List.set_cons_succ,Qfu,Qfv];rfl
       refine Qfm (i:=10) (N:=some 72) (v:=undef) (a':=?_) (bm 14 2047) rfl rfl qq_4 (fun _ _ _ h=>h) (Or.inr ⟨by rfl,rfl⟩) ?_ ?_;rotate_left
       ·simp only[Act.put,List.setIfInBounds_toArray,List.set_cons_zero,List.set_cons_succ,Qfu,Qfv];rfl
       refine Qfm (i:=11) (N:=some 73) (v:=undef) (a':=?_) (bm 14 4095) rfl rfl qq_4 (fun _ _ _ h=>h) (Or.inr ⟨by rfl,rfl⟩) ?_ ?_;rotate_left
       ·simp only[Act.put,List.setIfInBounds_toArray,List.set_cons_zero,List.set_cons_succ,Qfu,Qfv];rfl
       refine Qfm (i:=12) (N:=some 74) (v:=undef) (a':=?_) (bm 14 8191) rfl rfl qq_4 (fun _ _ _ h=>h) (Or.inr ⟨by rfl,rfl⟩) ?_ ?_;rotate_left
       ·simp only[Act.put,List.setIfInBounds_toArray,List.set_cons_zero,List.set_cons_succ,Qfu,Qfv];rfl
       refine pz_ (i:=13) (N:=some 75) (bm 14 16383) qq_4 ?_;refine Qfo qq_4 ?_
       go_wp2_with fail
       rw[Exit.noGoto_ret];refine bodyPost_ret (Qdq rfl _ _ (w.heap.size+1) 45 #[.slice none 0 0,.slice none 0 0,.int .u32 0,.bool false] (0,0) _ rfl (Qsn _ _ _ _ KR8.out rfl) hu76 rfl qq_4) rfl ?_;have hs:w.heap.size≤w.heap.size+1:=Nat.le_succ _;exact⟨rfl,Qir (Qir (Qir (Qir o.out hs) hs) hs) hs⟩
      | true =>
       go_upto_region 13 with(first
        |(go_at_call 69;refine(GR.out _ (Kd.C_below HCN.out d.out)).mono ?_;rintro ee w6 ⟨rfl,hb6⟩;have j:=QA (d.out.trans (Qis hb6 d.out.size));have KV6:=QA (Qdo KV5.out hb6);have KR6:=QA (Qdo KR5.out hb6);have HRR6:=QA (Kd.R_below HRR5.out hb6);have HRA6:=QA (Kd.R_below HRA5.out hb6);clear hb6)
        |(go_at_call 68;refine(IXC.out _ (Kd.C_below HCV.out HB.out)).mono ?_;rintro ee w5 ⟨rfl,hd5⟩;have d:=QA (HB.out.trans (Qis hd5.below HB.out.size));have KR5:=QA (Qdo KR.out hd5.below);have KV5:=QA (Qdo KV.out hd5.below);have HRR5:=QA (Kd.R_below E.out hd5.below);have HRA5:=QA (Kd.R_below HRA.out hd5.below);clear hd5))
       obtain⟨W7,hW7⟩:∃W7,W7=w6.alloc (.cells #[.bool r1,.int .u64 r2,.string r3,.string r4] 37):=⟨_,rfl⟩;have hb7:Below w6.heap.size w6 W7:=by rw[hW7];exact Qce (Below.refl _ _) _
       rw[← hW7];clear hW7;have hb7d:Below w6.heap.size w6 W7.drew:=Qcf hb7;have g:=QA (j.out.trans (Qis hb7d j.out.size));have KV7:=QA (Qdo KV6.out hb7d);have KR7:=QA (Qdo KR6.out hb7d);have HRR7:=QA (Kd.R_below HRR6.out hb7d);have HRA7:=QA (Kd.R_below HRA6.out hb7d);obtain⟨x0,x1,x2,x3⟩:=Qrp KV7.out;clear hb7 hb7d v0 v1 v2 v3;refine Qfk (n:=14) (S:=fun w'=>w'.cell? ⟨vb,0,none⟩=some (.slice Ar l.length cr)∧w'.cell? ⟨vb,1,none⟩=some (.slice Aa ps.length ca)∧w'.cell? ⟨vb,2,none⟩=some (.int .u32 U)∧w'.cell? ⟨vb,3,none⟩=some (.bool false)) (ds:=[]) (bm 14 0) qq_4 rfl rfl ⟨x0,x1,x2,x3⟩ (fun c=>?_);refine pz_ (i:=1) (N:=some 63) (bm 14 2) qq_4 ?_;refine pz_ (i:=2) (N:=some 64) (bm 14 6) qq_4 ?_;refine pz_ (i:=3) (N:=some 65) (bm 14 14) qq_4 ?_;refine tz_ (i:=0) (N:=some 62) (bm 14 15) qq_4 c ?_;refine one_ (i:=4) (N:=some 66) (bm 14 31) rfl rfl qq_4 (by decide) (fun K hK=>?_);refine Qfs Tryz.func70 qq_4 rfl #[.agg #[.slice Ar l.length cr,.slice Aa ps.length ca,.int .u32 U,.bool false],.slice Av ck.length cv] (by rfl) rfl rfl (by simp only[List.map_toArray,List.map_cons,List.map_nil];rfl) ?_;with_reducible refine(CL.out _ (Kd.R_reads' HRR7.out).2.2 (Kd.R_reads' HRA7.out).2.2 (Kd.C_below HCN.out g.out)).mono ?_
       rintro ee w8 ⟨rfl,hb8⟩;refine⟨_,rfl,?_⟩;have o:=QA (g.out.trans (Qis hb8 g.out.size));have KV8:=QA (Qdo KV7.out hb8);have KR8:=QA (Qdo KR7.out hb8);have HRR8:=QA (Kd.R_below HRR7.out hb8);have HRA8:=QA (Kd.R_below HRA7.out hb8);obtain⟨k0,k1,k2,k3⟩:=Qrp KR8.out;obtain⟨g0,g1,g2,g3⟩:=Qsm KR8.out;refine hK.out _ _ ⟨(Qci hb8 c.1),(Qci hb8 c.2.1),(Qci hb8 c.2.2.1),(Qci hb8 c.2.2.2)⟩ (fun c=>?_);clear hK K;refine nzp_ 66 ?_;refine pz_ (i:=5) (N:=some 67) (bm 14 63) qq_4 ?_;refine pz_ (i:=6) (N:=some 68) (bm 14 127) qq_4 ?_;refine pz_ (i:=7) (N:=some 69) (bm 14 255) qq_4 ?_;refine pz_ (i:=8) (N:=some 70) (bm 14 511) qq_4 ?_;refine pz_ (i:=9) (N:=some 71) (bm 14 1023) qq_4 ?_;refine pz_ (i:=10) (N:=some 72) (bm 14 2047) qq_4 ?_;refine one_ (i:=11) (N:=some 73) (bm 14 4095) rfl rfl qq_4 (by decide) (fun K hK=>?_);refine Qfs Tryz.func71 qq_4 rfl #[.slice An rs2.length cn] (by rfl) rfl rfl (by simp only[List.map_toArray,List.map_cons,List.map_nil];rfl) ?_;with_reducible refine(ERS.out _ (Kd.C_below HCM.out o.out)).mono ?_
       rintro ee w9 ⟨rfl,rfl⟩;refine⟨_,rfl,?_⟩;refine hK.out _ _ ⟨c.1,c.2.1,c.2.2.1,c.2.2.2⟩ (fun c=>?_);clear hK K;refine nzp_ 73 ?_;refine pz_ (i:=12) (N:=some 74) (bm 14 8191) qq_4 ?_;refine pz_ (i:=13) (N:=some 75) (bm 14 16383) qq_4 ?_;refine Qfo qq_4 ?_
       cases fq with
       | false =>
        have hres:none=res:=by
         have h:=HSC.out;rw[if_neg (by simp)]at h;exact h
        subst hres
        go_wp2_with fail
        rw[Exit.noGoto_ret];refine bodyPost_ret (Qdq rfl _ _ (w.heap.size+1) 45 #[.slice none 0 0,.slice none 0 0,.int .u32 0,.bool false] (0,0) _ rfl (Qsn _ _ _ _ KR8.out rfl) hu76 rfl qq_4) rfl ?_;have hs:w.heap.size≤w.heap.size+1:=Nat.le_succ _;exact⟨rfl,Qir (Qir (Qir (Qir o.out hs) hs) hs) hs⟩
       | true =>
        have hres:some (l,ps,u,true)=res:=by
         have h:=HSC.out;rw[if_pos (by simp)]at h;exact h
        subst hres;obtain⟨y0,y1,y2,y3⟩:=Qrp KV8.out;obtain⟨f0,f1,f2,f3⟩:=Qsm KV8.out;have KV9:=QA (Qcy KV8.out 3 (.bool true));have KR9:=QA (Qcz KR8.out (p:=⟨vb,3,none⟩) (show w.heap.size+1≠vb by have:=HVB.out;omega) (.bool true));obtain⟨m0,m1,m2,m3⟩:=Qrp (a:=.slice Ar l.length cr) (b:=.slice Aa ps.length ca) (u:=U) (s:=true) KV9.out;obtain⟨n0,n1,n2,n3⟩:=Qsm KR9.out;obtain⟨o0,o1,o2,o3⟩:=Qrp KR9.out
        go_wp2_with fail
        try rw[Exit.noGoto_ret]
        refine bodyPost_ret (Qdq rfl _ _ (w.heap.size+1) 45 #[.slice Ar l.length cr,.slice Aa ps.length ca,.int .u32 U,.bool true] (0,0) _ rfl (Qsn _ _ _ _ KR9.out rfl) hu76 rfl qq_4) rfl ?_;have hs:w.heap.size≤w.heap.size+1:=Nat.le_succ _;have hs2:w.heap.size≤vb:=by have:=HVB.out;omega
        have HRR9:=Qss (Kd.R_set HRR8.out KV8.out (by decide) 3 (.bool true)) KR9.out (by decide) (.slice Ar l.length cr) (.slice Aa ps.length ca) (.int .u32 U) (.bool true);have HRA9:=Qss (Kd.R_set HRA8.out KV8.out (by decide) 3 (.bool true)) KR9.out (by decide) (.slice Ar l.length cr) (.slice Aa ps.length ca) (.int .u32 U) (.bool true);refine⟨⟨Ar,cr,Aa,ca,by rw[← HU.out];rfl,HRR9,HRA9⟩,?_⟩;exact Qir (Qir (Qir (Qir (Qir o.out hs2) hs) hs) hs) hs
     ·rw[if_neg hgd]at hsc;cases hsc
end Go.Proofs.YteaocbonofboeaaGreat.C
end
