/- Texts of this claim's author and of the print of its functions, merged by merge.py. -/
import Derived.Test.YtnnofopfbeklbaaGreatMH02
import Derived.WalkMore
import Derived.Test.YtnnofopfbeklbaaGreatMH21
import Derived.Test.YtnnofopfbeklbaaGreatMH08
import Derived.Test.YtnnofopfbeklbaaGreatMH28
import Derived.Test.YtnnofopfbeklbaaGreatMH20
import Derived.Test.YtnnofopfbeklbaaGreatMH11
import Derived.Test.YtnnofopfbeklbaaGreatMH30
import Derived.Test.YtnnofopfbeklbaaGreatMH26
import Derived.Test.YtnnofopfbeklbaaGreatMH13
import Derived.Test.YtnnofopfbeklbaaGreatMH31
import Derived.Test.YtnnofopfbeklbaaGreatMH22
import Derived.Test.YtnnofopfbeklbaaGreatMH19
set_option linter.unusedVariables false
set_option linter.unusedSimpArgs false
set_option maxHeartbeats 8000000
set_option maxRecDepth 100000
section
namespace Go.Proofs.YtnnofopfbeklbaaGreat.C
open Go.RowKit Go.Proofs.YtnnofopfbeklbaaGreatW.PrintWords Go.Proofs.YtnnofopfbeklbaaGreatW.PrintLast Go.Proofs.YtnnofopfbeklbaaGreatW.PrintMore
noncomputable def Qub(k:Nat)(b:List Int):Nat→List Rec→List Int→Nat→Option (Option (List Rec × List Int × Nat × Bool))
 | 0,_,_,_=>none
 | f + 1,l,ps,u =>
  if ixOf (b.drop u) 0<0 then some (if Qtd (b.drop u)=true then some (l,ps,u,false)else none)
  else(Qcg.f k ((b.drop u).take (ixOf (b.drop u) 0).toNat)).bind fun r =>
   if r.2.2.2.2=0 then
    (if r.2.2.1.size≤140737488355328 then Qub k b f (l++[(⟨r.1,r.2.1,r.2.2.1,r.2.2.2.1⟩:Rec)]) (ps++[(u:Int)]) (u+(ixOf (b.drop u) 0).toNat+1)else none)
   else(Qch.f k ((b.drop u).take (ixOf (b.drop u) 0).toNat)).bind fun o =>
    @ite _ (o.2=0→CodecP.Bytes o.1∧o.1.length≤100000000000) (Classical.propDecidable _)
     (some (if Qta u l ps (getF o.2 o.1)=true∧Qtd (b.drop (u+(ixOf (b.drop u) 0).toNat+1))=true then some (l,ps,u,true)else none)) none
def Quc(res:Option (List Rec × List Int × Nat × Bool))(er:Int)(w:World)(e:Ending)(w':World):Prop :=
 (match res with
  | some (l,ps,u,sl)=>∃Ar cr Aa ca,e=.returned (.tuple #[.agg #[.slice Ar l.length cr,.slice Aa ps.length ca,.int .u32 u,.bool sl],.int .i64 0])∧Kd.C k39 w' Ar l.length l∧Kd.C (Kd.int .u32) w' Aa ps.length ps∧l.length≤cr∧ps.length≤ca
  | none=>e=.returned (.tuple #[.agg #[.slice none 0 0,.slice none 0 0,.int .u32 0,.bool false],.int .i64 er]))∧Below w.heap.size w w'
theorem Qud{W:World}{g:Nat}{a b:Value}{u:Int}{s:Bool}(h:W.heap[g]? = some (.cells #[a,b,.int .u32 u,.bool s] 76 (0,0))) :
  W.frozen? ⟨g,0,none⟩=false∧W.frozen? ⟨g,1,none⟩=false∧W.frozen? ⟨g,2,none⟩=false∧W.frozen? ⟨g,3,none⟩=false :=
 ⟨Qdt h 0,Qdt h 1,Qdt h 2,Qdt h 3⟩
theorem Que{W:World}{g:Nat}{cs:Array Value}(a b:Value)(u:Int)(s:Bool)(h:W.heap[g]? = some (.cells cs 76 (0,0)))(hs:cs.size=4) :
  ((((W.setCell ⟨g,0,none⟩ a).setCell ⟨g,1,none⟩ b).setCell ⟨g,2,none⟩ (.int .u32 u)).setCell ⟨g,3,none⟩ (.bool s)).heap[g]? = some (.cells #[a,b,.int .u32 u,.bool s] 76 (0,0)):=by
 obtain⟨l⟩:=cs
 obtain⟨x0,x1,x2,x3,rfl⟩:∃x0 x1 x2 x3,l=[x0,x1,x2,x3]:=by
  match l,hs with
  | [x0,x1,x2,x3],_=>exact⟨x0,x1,x2,x3,rfl⟩
 exact Qdp (Qdp (Qdp (Qdp h 0 a) 1 b) 2 (.int .u32 u)) 3 (.bool s)
theorem Quf{l:List Rec}{ps:List Int}(h:ps.Pairwise (· < ·)):(Qqi l ps).Nodup:=by
 induction l generalizing ps with
 | nil=>simp[Qqi]
 | cons r l ih =>
  cases ps with
  | nil=>simp[Qqi]
  | cons p ps =>
   obtain⟨h1,h2⟩:=List.pairwise_cons.1 h
   show(_ :: Qqi l ps).Nodup
   refine List.nodup_cons.2 ⟨fun hm=>?_,ih h2⟩
   have:∀(l:List Rec) (ps:List Int) (x:Ent),x∈Qqi l ps→x.f1∈ps:=by
    intro l
    induction l with
    | nil=>intro ps x hx;simp[Qqi]at hx
    | cons r l ih =>
     intro ps x hx
     cases ps with
     | nil=>simp[Qqi]at hx
     | cons p ps =>
      rcases List.mem_cons.1 (show x∈_ :: Qqi l ps from hx)with rfl|hx
      ·exact List.mem_cons_self ..
      ·exact List.mem_cons_of_mem _ (ih ps x hx)
   have h3:=h1 _ (this _ _ _ hm)
   exact absurd h3 (Int.lt_irrefl _)
theorem Qug(e s n er:Int)(Ab:Option Addr)(cb:Nat)(b hd:List Int)(w:World)(hp:Qci.f e s n=some (hd,er))(her:er≠0) :
  Calls Tryz.prog 40 #[.agg #[.int .u8 e,.int .u32 s],.int .u32 n,.slice Ab b.length cb] w (Quc none er w):=by
 have hu76:=Tryz.underlying76
 have hu27:=Tryz.underlying27
 have HP:=QA hp
 have hne:(er != 0)=true:=bne_iff_ne.2 her
 have hb0:Below w.heap.size w ((w.alloc (.cells #[.int .u8 e,.int .u32 s] 27)).alloc (.cells #[.slice none 0 0,.slice none 0 0,.int .u32 0,.bool false] 76)):=Qcu (Qcu (Below.refl _ _) _) _
 have kc:=Qee (Qei w (.cells #[.int .u8 e,.int .u32 s] 27)) (.cells #[.slice none 0 0,.slice none 0 0,.int .u32 0,.bool false] 76)
 have kr:=Qei (w.alloc (.cells #[.int .u8 e,.int .u32 s] 27)) (.cells #[.slice none 0 0,.slice none 0 0,.int .u32 0,.bool false] 76)
 rw[World.size_alloc]at kr
 obtain⟨c0,c1⟩:=box2 kc
 have KR:=QA kr
 have HB0:=QA hb0
 clear hp kc kr hb0
 go_enter Tryz.func40,Tryz.ntmps40
 go_wp2
 go_step3
 go_wp2_with (go_at_call 53;refine(Qci.calls e s n hd er _ HP.out).mono ?_;rintro ee w1 ⟨v1,rfl,hR1,hb1⟩;obtain⟨A1,d1,rfl⟩:=Kd.R_slice hR1;have HB1:=QA hb1;have kr1:=Qeh KR.out hb1;obtain⟨q0,q1,q2,q3⟩:=Qtb kr1;obtain⟨g0,g1,g2,g3⟩:=Qud kr1;clear hb1 hR1)
 rw[Exit.noGoto_ret]
 refine bodyPost_ret (Qej rfl _ _ (w.heap.size+1) 76 #[.slice none 0 0,.slice none 0 0,.int .u32 0,.bool false] (0,0) _ rfl (Que _ _ _ _ kr1 rfl) hu76 rfl qq_6) rfl ?_
 have hs:w.heap.size≤w.heap.size+1:=Nat.le_succ _
 exact⟨rfl,Qjm (Qjm (Qjm (Qjm (HB0.out.trans (Qjn HB1.out HB0.out.size)) hs) hs) hs) hs⟩
theorem Quh(e s n sz:Int)(Ab:Option Addr)(cb:Nat)(b hd:List Int)(w:World)(hcs:Kd.C (Kd.int .u8) w Ab b.length b)(hcb:b.length≤cb)(hby:CodecP.Bytes b∧CodecP.Bytes hd∧b.length≤100000000000)(hp:Qci.f e s n=some (hd,0))(hsz:Qap.f e s=some sz)(hne:(b.length:Int)≠sz) :
  Calls Tryz.prog 40 #[.agg #[.int .u8 e,.int .u32 s],.int .u32 n,.slice Ab b.length cb] w (Quc none 4 w):=by
 have hu76:=Tryz.underlying76
 have hu27:=Tryz.underlying27
 have HP:=QA hp
 have HSZ:=QA hsz
 have HBY:=QA hby
 have HCB:=QA hcb
 have hb0:Below w.heap.size w ((w.alloc (.cells #[.int .u8 e,.int .u32 s] 27)).alloc (.cells #[.slice none 0 0,.slice none 0 0,.int .u32 0,.bool false] 76)):=Qcu (Qcu (Below.refl _ _) _) _
 have kc:=Qee (Qei w (.cells #[.int .u8 e,.int .u32 s] 27)) (.cells #[.slice none 0 0,.slice none 0 0,.int .u32 0,.bool false] 76)
 have kr:=Qei (w.alloc (.cells #[.int .u8 e,.int .u32 s] 27)) (.cells #[.slice none 0 0,.slice none 0 0,.int .u32 0,.bool false] 76)
 rw[World.size_alloc]at kr
 obtain⟨c0,c1⟩:=box2 kc
 have KC:=QA kc
 have KR:=QA kr
 have HB0:=QA hb0
 have HC:=QA (Kd.C_below hcs hb0)
 clear hp hsz hby kc kr hb0 hcs hcb
 have hnb:((b.length:Int) != sz)=true:=bne_iff_ne.2 hne
 go_enter Tryz.func40,Tryz.ntmps40
 go_wp2
 go_step3
 go_wp2_with (first
  |(go_at_call 78;refine(Qap.calls _ _ _ _ HSZ.out).mono ?_;rintro ee w2 ⟨rfl,hb2⟩;have HB2:=QA hb2;have KR2:=QA (Qeh KR1.out hb2);have HC2:=QA (Kd.C_below (Kd.C_below HC.out HB1.out) hb2);have HCH2:=QA (Kd.C_below HCH.out.2 hb2);clear hb2;obtain⟨q0,q1,q2,q3⟩:=Qtb KR2.out;obtain⟨g0,g1,g2,g3⟩:=Qud KR2.out)
  |(go_at_call 53;refine(Qci.calls e s n hd 0 _ HP.out).mono ?_;rintro ee w1 ⟨v1,rfl,hR1,hb1⟩;obtain⟨A1,d1,hv1⟩:=Kd.R_slice hR1;subst hv1;have HB1:=QA hb1;have kr1:=Qeh KR.out hb1;have KR1:=QA kr1;have KC1:=QA (Qeh KC.out hb1);clear c0 c1;obtain⟨c0,c1⟩:=box2 KC1.out;have HCH:=QA (Kd.R_reads' hR1).2;clear hb1 hR1 kr1))
 rw[Exit.noGoto_ret]
 refine bodyPost_ret (Qej rfl _ _ (w.heap.size+1) 76 #[.slice none 0 0,.slice none 0 0,.int .u32 0,.bool false] (0,0) _ rfl (Que _ _ _ _ KR2.out rfl) hu76 rfl qq_6) rfl ?_
 have hs:w.heap.size≤w.heap.size+1:=Nat.le_succ _
 exact⟨rfl,Qjm (Qjm (Qjm (Qjm ((HB0.out.trans (Qjn HB1.out HB0.out.size)).trans (Qjn HB2.out (Nat.le_trans HB0.out.size HB1.out.size))) hs) hs) hs) hs⟩
theorem Qui(e s n sz:Int)(Ab:Option Addr)(cb:Nat)(b hd:List Int)(w:World)(hcs:Kd.C (Kd.int .u8) w Ab b.length b)(hcb:b.length≤cb)(hby:CodecP.Bytes b∧CodecP.Bytes hd∧b.length≤100000000000)(hp:Qci.f e s n=some (hd,0))(hsz:Qap.f e s=some sz)(heq:(b.length:Int)=sz)(hq:decide (b.take hd.length=hd)=false) :
  Calls Tryz.prog 40 #[.agg #[.int .u8 e,.int .u32 s],.int .u32 n,.slice Ab b.length cb] w (Quc none 4 w):=by
 have hu76:=Tryz.underlying76
 have hu27:=Tryz.underlying27
 have HP:=QA hp
 have HSZ:=QA hsz
 have HBY:=QA hby
 have HCB:=QA hcb
 have hb0:Below w.heap.size w ((w.alloc (.cells #[.int .u8 e,.int .u32 s] 27)).alloc (.cells #[.slice none 0 0,.slice none 0 0,.int .u32 0,.bool false] 76)):=Qcu (Qcu (Below.refl _ _) _) _
 have kc:=Qee (Qei w (.cells #[.int .u8 e,.int .u32 s] 27)) (.cells #[.slice none 0 0,.slice none 0 0,.int .u32 0,.bool false] 76)
 have kr:=Qei (w.alloc (.cells #[.int .u8 e,.int .u32 s] 27)) (.cells #[.slice none 0 0,.slice none 0 0,.int .u32 0,.bool false] 76)
 rw[World.size_alloc]at kr
 obtain⟨c0,c1⟩:=box2 kc
 have KC:=QA kc
 have KR:=QA kr
 have HB0:=QA hb0
 have HC:=QA (Kd.C_below hcs hb0)
 clear hp hsz hby kc kr hb0 hcs hcb
 have hnb:((b.length:Int) != sz)=false:=bne_eq_false_iff_eq.2 heq
 have HQ:=QA hq
 clear hq heq
 go_enter Tryz.func40,Tryz.ntmps40
 go_wp2
 go_step3
 go_wp2_with (first
  |(go_at_call 79;refine(Qua Ab A1 cb d1 b hd _ HC2.out HCB.out HCH2.out HCH.out.1 HBY.out.1 HBY.out.2.1 (by have:=HBY.out.2.2;omega)).mono ?_;rw[HQ.out];rintro ee w3 ⟨rfl,hb3⟩;have HB3:=QA hb3;have KR3:=QA (Qeh KR2.out hb3);clear hb3;obtain⟨q0,q1,q2,q3⟩:=Qtb KR3.out;obtain⟨g0,g1,g2,g3⟩:=Qud KR3.out)
  |(go_at_call 78;refine(Qap.calls _ _ _ _ HSZ.out).mono ?_;rintro ee w2 ⟨rfl,hb2⟩;have HB2:=QA hb2;have KR2:=QA (Qeh KR1.out hb2);have HC2:=QA (Kd.C_below (Kd.C_below HC.out HB1.out) hb2);have HCH2:=QA (Kd.C_below HCH.out.2 hb2);clear hb2)
  |(go_at_call 53;refine(Qci.calls e s n hd 0 _ HP.out).mono ?_;rintro ee w1 ⟨v1,rfl,hR1,hb1⟩;obtain⟨A1,d1,hv1⟩:=Kd.R_slice hR1;subst hv1;have HB1:=QA hb1;have kr1:=Qeh KR.out hb1;have KR1:=QA kr1;have KC1:=QA (Qeh KC.out hb1);clear c0 c1;obtain⟨c0,c1⟩:=box2 KC1.out;have HCH:=QA (Kd.R_reads' hR1).2;clear hb1 hR1 kr1))
 rw[Exit.noGoto_ret]
 refine bodyPost_ret (Qej rfl _ _ (w.heap.size+1) 76 #[.slice none 0 0,.slice none 0 0,.int .u32 0,.bool false] (0,0) _ rfl (Que _ _ _ _ KR3.out rfl) hu76 rfl qq_6) rfl ?_
 have hs:w.heap.size≤w.heap.size+1:=Nat.le_succ _
 exact⟨rfl,Qjm (Qjm (Qjm (Qjm (((HB0.out.trans (Qjn HB1.out HB0.out.size)).trans (Qjn HB2.out (Nat.le_trans HB0.out.size HB1.out.size))).trans (Qjn HB3.out (Nat.le_trans (Nat.le_trans HB0.out.size HB1.out.size) HB2.out.size))) hs) hs) hs) hs⟩
theorem Quj{α:Type}{d:Kd α}{q base:Nat}{ok:Nat→Prop}{v:Value}{xs:List α}{W:World}{g:Nat}{cs:Array Value}(h:d.R q W base ok v xs)(hg:W.heap[g]? = some (.cells cs 76 (0,0)))(ht:∀q',q'∈q :: d.E→q'≠76)(a b c e:Value) :
  d.R q ((((W.setCell ⟨g,0,none⟩ a).setCell ⟨g,1,none⟩ b).setCell ⟨g,2,none⟩ c).setCell ⟨g,3,none⟩ e) base ok v xs :=
 Kd.R_set (Kd.R_set (Kd.R_set (Kd.R_set h hg ht 0 a) (Qdp hg 0 a) ht 1 b) (Qdp (Qdp hg 0 a) 1 b) ht 2 c) (Qdp (Qdp (Qdp hg 0 a) 1 b) 2 c) ht 3 e
theorem cutd(kk:IntKind)(A:Option Addr)(c:Nat)(l:List Int)(hlc:l.length≤c)(m:Nat)(hm:m≤l.length)(j:Int)(hj:j=(m:Int)):∃A' c',(∀W:World,(Instr.slice 52 (.slice A l.length c) (some (.int kk j)) none none).run Tryz.prog W=.ok (.slice A' (l.drop m).length c') W)∧(l.drop m).length≤c' ∧
  ∀W,Kd.C (Kd.int .u8) W A l.length l→Kd.C (Kd.int .u8) W A' (l.drop m).length (l.drop m):=by
 obtain⟨i0,hii,_,hsz1,_⟩:=info_parts Qiu
 have h:=Qeu (P:=Tryz.prog) 52 5 kk Tryz.underlying52 hii 1 hsz1 A l.length c j (by omega) (by omega)
 rw[show j.toNat=m by omega]at h
 refine⟨_,c-m,fun W=>by rw[List.length_drop];exact h W,by rw[List.length_drop];omega,fun W hC=>?_⟩
 exact Kd.C_drop (m:=m) hC hm hlc
theorem cutt(kk:IntKind)(A:Option Addr)(c:Nat)(l:List Int)(hlc:l.length≤c)(m:Nat)(hm:m≤l.length)(j:Int)(hj:j=(m:Int)):(∀W:World,(Instr.slice 52 (.slice A l.length c) none (some (.int kk j)) none).run Tryz.prog W=.ok (.slice A (l.take m).length c) W)∧(l.take m).length≤c ∧
  ∀W,Kd.C (Kd.int .u8) W A l.length l→Kd.C (Kd.int .u8) W A (l.take m).length (l.take m):=by
 obtain⟨i0,hii,_,hsz1,_⟩:=info_parts Qiu
 have h:=Qet (P:=Tryz.prog) 52 5 kk Tryz.underlying52 hii A l.length c j (by omega) (by omega) hlc
 rw[show j.toNat=m by omega]at h
 have e:(l.take m).length=m:=by rw[List.length_take];omega
 refine⟨fun W=>by rw[e];exact h W,by omega,fun W hC=>?_⟩
 exact Kd.C_take (m:=m) hC hm
theorem Quk (e s n sz:Int) (Ab:Option Addr) (cb:Nat) (b hd:List Int) (w:World) (hcs:Kd.C (Kd.int .u8) w Ab b.length b) (hcb:b.length≤cb) (hby:CodecP.Bytes b∧CodecP.Bytes hd∧b.length≤100000000000) (hp:Qci.f e s n=some (hd,0)) (hsz:Qap.f e s=some sz) (k f0:Nat) (heq:(b.length:Int)=sz) (hq:decide (b.take hd.length=hd)=true) (hl4:b.length≤1000000000) (res:Option (List Rec × List Int × Nat × Bool)) (hsc:Qub k b f0 [] [] hd.length=some res) :
  Calls Tryz.prog 40 #[.agg #[.int .u8 e,.int .u32 s],.int .u32 n,.slice Ab b.length cb] w (Quc res 4 w):=by
 have hhd:hd.length≤b.length:=by
  have h:=of_decide_eq_true hq
  have:=congrArg List.length h
  rw[List.length_take]at this
  omega
 obtain⟨J,hJ⟩:∃J:Int,J=(hd.length:Int):=⟨_,rfl⟩
 obtain⟨A0,c0',hcutH,hlh,hCH⟩:=cutd .i64 Ab cb b hcb hd.length hhd (hd.length:Int) rfl
 have HLH:=QA hlh
 have HCH0:=QA (hCH w hcs)
 have HCB0:=QA hcs
 have hu76:=Tryz.underlying76
 have hu27:=Tryz.underlying27
 have HP:=QA hp
 have HSZ:=QA hsz
 have HBY:=QA hby
 have HCB:=QA hcb
 have hb0:Below w.heap.size w ((w.alloc (.cells #[.int .u8 e,.int .u32 s] 27)).alloc (.cells #[.slice none 0 0,.slice none 0 0,.int .u32 0,.bool false] 76)):=Qcu (Qcu (Below.refl _ _) _) _
 have kc:=Qee (Qei w (.cells #[.int .u8 e,.int .u32 s] 27)) (.cells #[.slice none 0 0,.slice none 0 0,.int .u32 0,.bool false] 76)
 have kr:=Qei (w.alloc (.cells #[.int .u8 e,.int .u32 s] 27)) (.cells #[.slice none 0 0,.slice none 0 0,.int .u32 0,.bool false] 76)
 rw[World.size_alloc]at kr
 obtain⟨c0,c1⟩:=box2 kc
 have KC:=QA kc
 have KR:=QA kr
 have HB0:=QA hb0
 have HC:=QA (Kd.C_below hcs hb0)
 clear hp hsz hby kc kr hb0 hcs hcb
 have hnb:((b.length:Int) != sz)=false:=bne_eq_false_iff_eq.2 heq
 have HQ:=QA hq
 have HSC:=QA hsc
 have HHD:=QA hhd
 have HJ:=QA hJ
 have hw32:IntKind.u32.wrap (hd.length:Int)=J:=(IntWalk.u32_in _ (by omega)).trans hJ.symm
 clear hq heq hsc hlh hCH hJ hhd
 go_enter Tryz.func40,Tryz.ntmps40
 go_wp2
 go_step3
 go_wp2_with (first
  |(go_at_call 79;refine(Qua Ab A1 cb d1 b hd _ HC2.out HCB.out HCH2.out HCH.out.1 HBY.out.1 HBY.out.2.1 (by have:=HBY.out.2.2;omega)).mono ?_;rw[HQ.out];rintro ee w3 ⟨rfl,hb3⟩;have HB3:=QA hb3;have KR3:=QA (Qeh KR2.out hb3);clear hb3;clear c0 c1)
  |(go_at_call 78;refine(Qap.calls _ _ _ _ HSZ.out).mono ?_;rintro ee w2 ⟨rfl,hb2⟩;have HB2:=QA hb2;have KR2:=QA (Qeh KR1.out hb2);have HC2:=QA (Kd.C_below (Kd.C_below HC.out HB1.out) hb2);have HCH2:=QA (Kd.C_below HCH.out.2 hb2);clear hb2)
  |(go_at_call 53;refine(Qci.calls e s n hd 0 _ HP.out).mono ?_;rintro ee w1 ⟨v1,rfl,hR1,hb1⟩;obtain⟨A1,d1,hv1⟩:=Kd.R_slice hR1;subst hv1;have HB1:=QA hb1;have kr1:=Qeh KR.out hb1;have KR1:=QA kr1;have KC1:=QA (Qeh KC.out hb1);clear c0 c1;obtain⟨c0,c1⟩:=box2 KC1.out;have HCH:=QA (Kd.R_reads' hR1).2;clear hb1 hR1 kr1))
 go_step3
 obtain⟨W4,hW4⟩:∃W4,W4=w3.alloc (.cells #[.slice none 0 0,.slice none 0 0,.int .u32 J,.bool false] 76):=⟨_,rfl⟩
 have hb34:Below w3.heap.size w3 W4:=by rw[hW4];exact Qcu (Below.refl _ _) _
 have KV4:Aside0 (W4.heap[w3.heap.size]? = some (.cells #[.slice none 0 0,.slice none 0 0,.int .u32 J,.bool false] 76 (0,0))):=⟨by rw[hW4];exact Qei w3 _⟩
 have hbw3:Below w.heap.size w w3:=((HB0.out.trans (Qjn HB1.out HB0.out.size)).trans (Qjn HB2.out (Nat.le_trans HB0.out.size HB1.out.size))).trans (Qjn HB3.out (Nat.le_trans (Nat.le_trans HB0.out.size HB1.out.size) HB2.out.size))
 have HB4:=QA (hbw3.trans (Qjn hb34 hbw3.size))
 have KR4:=QA (Qeh KR3.out hb34)
 have HVB:=QA (Qdr KR3.out)
 rw[← hW4]
 clear hW4 hb34 hbw3
 obtain⟨vb,hvb⟩:∃vb,vb=w3.heap.size:=⟨_,rfl⟩
 rw[← hvb]at KV4 HVB ⊢
 clear hvb
 go_wp2
 go_loopw [11] (fun v11 wr=>∃(l:List Rec) (ps:List Int) (u f:Nat) (U:Int) (Av Ar Aa:Option Addr) (cv cr ca:Nat),v11=.slice Av (b.drop u).length cv∧Aside0 (U=(u:Int))∧Aside0 ((b.drop u).length≤cv)∧u≤b.length∧Aside0 (Kd.C (Kd.int .u8) w Av (b.drop u).length (b.drop u))∧Aside0 (Qub k b f l ps u=some res) ∧
   Aside0 (wr.heap[vb]? = some (.cells #[.slice Ar l.length cr,.slice Aa ps.length ca,.int .u32 U,.bool false] 76 (0,0)))∧Aside0 (Kd.R k39 39 wr w.heap.size (fun _=>True) (.slice Ar l.length cr) l)∧Aside0 (Kd.R (Kd.int .u32) 22 wr w.heap.size (fun _=>True) (.slice Aa ps.length ca) ps) ∧
   Aside0 (wr.heap[w.heap.size+1]? = some (.cells #[.slice none 0 0,.slice none 0 0,.int .u32 0,.bool false] 76 (0,0)))∧Aside0 (Below w.heap.size w wr)∧Aside0 (∀r∈l,r.f2.size≤140737488355328)∧Aside0 (ps.Pairwise (· < ·)∧∀p∈ps,p<(u:Int))∧Aside0 (ps.length=l.length∧l.length≤u))
  (fun v11 _=>lenV v11)
 case atStart=>exact⟨[],[],hd.length,f0,J,_,none,none,_,0,0,by rw[List.length_drop],HJ,HLH,HHD.out,HCH0,HSC,KV4,⟨Kd.R_nil _ _ _ _ _⟩,⟨Kd.R_nil _ _ _ _ _⟩,KR4,HB4,⟨by simp⟩,⟨by simp⟩,⟨by simp⟩⟩
 case round =>
  clear HB4 KR4 KV4 HSC HCH0 HLH
  obtain⟨l,ps,u,f,U,Av,Ar,Aa,cv,cr,ca,rfl,HU,HLC,hub,HCV,HSC,KV,HRR,HRA,KR,HB,HKZ,HPW,HLN⟩:=hrel
  obtain⟨rst,hrst⟩:∃rst,rst=b.drop u:=⟨_,rfl⟩
  rw[← hrst]at HLC HCV ⊢
  have HRST:=QA hrst
  clear hrst
  cases f with
  | zero=>exact absurd HSC.out (by simp[Qub])
  | succ f =>
   have hsc:=HSC.out
   unfold Qub at hsc
   rw[← HRST.out]at hsc
   obtain⟨ix,hix⟩:∃ix,ix=ixOf rst 0:=⟨_,rfl⟩
   rw[← hix]at hsc
   have hixr:=Qku rst 0
   rw[← hix]at hixr
   have IXC:=QA (fun W (h:Kd.C (Kd.int .u8) W Av rst.length rst)=>Qae.calls Av cv rst 0 ix W h HLC.out (by rw[hix];rfl))
   obtain⟨v0,v1,v2,v3⟩:=Qtb KV.out
   have HIX:=QA hixr
   clear hix HSC hixr
   by_cases hneg:ix<0
   ·rw[if_pos hneg]at hsc
    have hng:decide (ix<0)=true:=decide_eq_true hneg
    have HSC:=QA hsc
    clear hsc hneg
    obtain⟨Au,cu,hcutU,hlu,hCU⟩:=cutd .u32 Ab cb b HCB.out u hub U HU.out
    rw[← HRST.out]at hcutU hlu hCU
    have HLU:=QA hlu
    have HCU:=QA (hCU w HCB0.out)
    obtain⟨fq,hfq⟩:∃fq,fq=Qtd rst:=⟨_,rfl⟩
    have ERS:=QA (fun W (h:Kd.C (Kd.int .u8) W Au rst.length rst)=>Qtg Au cu rst W h (by have q:rst.length≤b.length:=(by rw[HRST.out,List.length_drop];omega);omega))
    rw[← hfq]at ERS
    have HFQ:=QA hfq
    clear hlu hCU hfq
    cases fq with
    | true =>
     have hres:some (l,ps,u,false)=res:=by
      have h:=HSC.out
      rw[if_pos HFQ.out.symm]at h
      exact Option.some.inj h
     subst hres
     go_wp2_with (first
      |(go_at_call 83;refine(ERS.out _ (Kd.C_below HCU.out (HB.out.trans (Qjn HB5.out HB.out.size)))).mono ?_;rintro ee w6 ⟨rfl,rfl⟩;obtain⟨k0,k1,k2,k3⟩:=Qtb KR5.out;obtain⟨g0,g1,g2,g3⟩:=Qud KR5.out)
      |(go_at_call 80;refine(IXC.out _ (Kd.C_below HCV.out HB.out)).mono ?_;rintro ee w5 ⟨rfl,hd5⟩;have HB5:=QA hd5.below;obtain⟨y0,y1,y2,y3⟩:=Qtb (Qeh KV.out HB5.out);have KR5:=QA (Qeh KR.out HB5.out);clear hd5))
     rw[Exit.noGoto_ret]
     refine bodyPost_ret (Qej rfl _ _ (w.heap.size+1) 76 #[.slice Ar l.length cr,.slice Aa ps.length ca,.int .u32 U,.bool false] (0,0) _ rfl (Que _ _ _ _ KR5.out rfl) hu76 rfl qq_6) rfl ?_
     have hs:w.heap.size≤w.heap.size+1:=Nat.le_succ _
     have HRR6:=Quj (Kd.R_below HRR.out HB5.out) KR5.out (by decide) (.slice Ar l.length cr) (.slice Aa ps.length ca) (.int .u32 U) (.bool false)
     have HRA6:=Quj (Kd.R_below HRA.out HB5.out) KR5.out (by decide) (.slice Ar l.length cr) (.slice Aa ps.length ca) (.int .u32 U) (.bool false)
     refine⟨⟨Ar,cr,Aa,ca,by rw[← HU.out];rfl,(Kd.R_reads' HRR6).2.2,(Kd.R_reads' HRA6).2.2,(Kd.R_reads' HRR6).2.1,(Kd.R_reads' HRA6).2.1⟩,?_⟩
     exact Qjm (Qjm (Qjm (Qjm (HB.out.trans (Qjn HB5.out HB.out.size)) hs) hs) hs) hs
    | false =>
     have hres:none=res:=by
      have h:=HSC.out
      rw[if_neg (by rw[← HFQ.out];decide)]at h
      exact Option.some.inj h
     subst hres
     go_wp2_with (first
      |(go_at_call 83;refine(ERS.out _ (Kd.C_below HCU.out (HB.out.trans (Qjn HB5.out HB.out.size)))).mono ?_;rintro ee w6 ⟨rfl,rfl⟩;obtain⟨k0,k1,k2,k3⟩:=Qtb KR5.out;obtain⟨g0,g1,g2,g3⟩:=Qud KR5.out)
      |(go_at_call 80;refine(IXC.out _ (Kd.C_below HCV.out HB.out)).mono ?_;rintro ee w5 ⟨rfl,hd5⟩;have HB5:=QA hd5.below;obtain⟨y0,y1,y2,y3⟩:=Qtb (Qeh KV.out HB5.out);have KR5:=QA (Qeh KR.out HB5.out);clear hd5))
     rw[Exit.noGoto_ret]
     refine bodyPost_ret (Qej rfl _ _ (w.heap.size+1) 76 #[.slice none 0 0,.slice none 0 0,.int .u32 0,.bool false] (0,0) _ rfl (Que _ _ _ _ KR5.out rfl) hu76 rfl qq_6) rfl ?_
     have hs:w.heap.size≤w.heap.size+1:=Nat.le_succ _
     exact⟨rfl,Qjm (Qjm (Qjm (Qjm (HB.out.trans (Qjn HB5.out HB.out.size)) hs) hs) hs) hs⟩
   ·rw [if_neg hneg]at hsc
    have hng:decide (ix<0)=false:=decide_eq_false hneg
    have hrl:rst.length=b.length-u:=by rw[HRST.out,List.length_drop]
    obtain⟨m,hm⟩:∃m,m=ix.toNat:=⟨_,rfl⟩
    rw[← hm]at hsc
    have hixm:ix=(m:Int):=by omega
    have hml:m<rst.length:=by have:=HIX.out.2;omega
    obtain⟨hcutN,hln,hCN⟩:=cutt .i64 Av cv rst HLC.out m (by omega) ix hixm
    obtain⟨ck,hck⟩:∃ck,ck=rst.take m:=⟨_,rfl⟩
    rw[← hck]at hcutN hln hCN hsc
    obtain⟨⟨r1,r2,r3,r4,r5⟩,hgr,hsc⟩:=Option.bind_eq_some_iff.mp hsc
    dsimp only at hsc
    have GR:=QA (fun W (h:Kd.C (Kd.int .u8) W Av ck.length ck)=>Qcg.calls k Av cv ck r1 r2 r3 r4 r5 W h hln hgr)
    have HCN:=QA (hCN w HCV.out)
    have HIXM:=QA hixm
    have HML:=QA hml
    have HLN2:=QA hln
    have HRL:=QA hrl
    have HCK:=QA hck
    clear hm hixm hml hgr hln hCN hrl hck hneg
    by_cases her:r5=0
    ·rw[if_pos her]at hsc
     subst her
     have hkz:r3.size≤140737488355328:=by
      apply Decidable.byContradiction
      intro h
      rw[if_neg h]at hsc
      cases hsc
     rw[if_pos hkz]at hsc
     have HSC:=QA hsc
     have HKZ1:=QA hkz
     clear hsc hkz
     have hwx:IntKind.i64.wrap (ix+1)=ix+1:=IntWalk.i64_in _ (by have:=HIXM.out;have:=HML.out;have:=HRL.out;omega)
     have hwy:IntKind.u32.wrap (ix+1)=ix+1:=IntWalk.u32_in _ (by have:=HIXM.out;have:=HML.out;have:=HRL.out;omega)
     obtain⟨U2,hU2⟩:∃U2:Int,U2=U+(ix+1):=⟨_,rfl⟩
     have hwz:IntKind.u32.wrap (U+(ix+1))=U2:=(IntWalk.u32_in _ (by have:=HU.out;have:=HIXM.out;have:=HML.out;have:=HRL.out;omega)).trans hU2.symm
     have HU2:Aside0 (U2=((u+m+1:Nat):Int)):=⟨by have:=HU.out;have:=HIXM.out;omega⟩
     clear hU2
     obtain⟨An,cn,hcutM,hlm,hCM⟩:=cutd .u32 Ab cb b HCB.out (u+m+1) (by have:=HML.out;have:=HRL.out;omega) U2 HU2.out
     have HLM:=QA hlm
     have HCM:=QA (hCM w HCB0.out)
     clear hlm hCM
     go_upto_region 17 with(first
      |(go_at_call 81;refine(GR.out _ (Kd.C_below HCN.out HB5.out)).mono ?_;rintro ee w6 ⟨rfl,hb6⟩;have HB6:=QA (HB5.out.trans (Qjn hb6 HB5.out.size));have KV6:=QA (Qeh KV5.out hb6);have KR6:=QA (Qeh KR5.out hb6);have HRR6:=QA (Kd.R_below HRR5.out hb6);have HRA6:=QA (Kd.R_below HRA5.out hb6);clear hb6)
      |(go_at_call 80;refine(IXC.out _ (Kd.C_below HCV.out HB.out)).mono ?_;rintro ee w5 ⟨rfl,hd5⟩;have HB5:=QA (HB.out.trans (Qjn hd5.below HB.out.size));have KR5:=QA (Qeh KR.out hd5.below);have KV5:=QA (Qeh KV.out hd5.below);have HRR5:=QA (Kd.R_below HRR.out hd5.below);have HRA5:=QA (Kd.R_below HRA.out hd5.below);clear hd5))
     obtain⟨W7,hW7⟩:∃W7,W7=w6.alloc (.cells #[.bool r1,.int .u64 r2,.string r3,.string r4] 39):=⟨_,rfl⟩
     have hb7:Below w6.heap.size w6 W7:=by rw[hW7];exact Qcu (Below.refl _ _) _
     have K39:Aside0 (W7.heap[w6.heap.size]? = some (.cells #[.bool r1,.int .u64 r2,.string r3,.string r4] 39 (0,0))):=⟨by rw[hW7];exact Qei w6 _⟩
     rw[← hW7]
     clear hW7
     have HB7:=QA (HB6.out.trans (Qjn hb7 HB6.out.size))
     have KV7:=QA (Qeh KV6.out hb7)
     have KR7:=QA (Qeh KR6.out hb7)
     have HRR7:=QA (Kd.R_below HRR6.out hb7)
     have HRA7:=QA (Kd.R_below HRA6.out hb7)
     obtain⟨x0,x1,x2,x3⟩:=Qtb KV7.out
     clear hb7 v0 v1 v2 v3
     obtain⟨t0,t1,t2,t3⟩:=box4 K39.out
     obtain⟨l2,hl2⟩:∃l2,l2=l++[(⟨r1,r2,r3,r4⟩:Rec)]:=⟨_,rfl⟩
     obtain⟨ps2,hps2⟩:∃ps2,ps2=ps++[U]:=⟨_,rfl⟩
     have HL2:=QA (And.intro hl2 hps2)
     clear hl2 hps2
     go_upto_region 18 with(at_builtin;refine Kd.R_append k39 (w0:=w) w.heap.size rfl (.tmp 80) (.tmp 82) 23 39 (.agg #[.bool false,.int .u64 0,.string (⟨#[]⟩:ByteArray),.string (⟨#[]⟩:ByteArray)]) 48 rfl Tryz.underlying23 Qiw rfl (by decide) (by omega) (.slice Ar l.length cr) l (⟨r1,r2,r3,r4⟩:Rec) [.bool r1,.int .u64 r2,.string r3,.string r4] (fun _=>True) (fun _=>False) rfl ?ax ?aP (fun _ hk=>hk.elim) ?aF ?aO ?aB ?aS ?aL ?_;(case ax=>rfl);(case aP=>exact Qiz _ _ _ (⟨r1,r2,r3,r4⟩:Rec));(case aF=>exact fun _ _=>trivial);(case aO=>exact HRR7.out);(case aB=>exact HB7.out);(case aS=>exact HB7.out.size);(case aL=>have:=HLN.out.2;omega);intro v8 w8 HR8 hb8 hg8 hat8;rw[← HL2.out.1]at HR8;obtain⟨A8,c8,hv8⟩:=Kd.R_slice HR8;subst hv8;have HRR8:=QA HR8;have HRA8:=QA (Kd.R_over' HRA7.out (Kd.R_typed HRR7.out) (by decide) hg8);have KV8:=QA (Qdu KV7.out hg8 (Kd.R_ne HRR7.out KV7.out (by decide)));have KR8:=QA (Qdu KR7.out hg8 (Kd.R_ne HRR7.out KR7.out (by decide)));have HB8:=QA hb8;obtain⟨z0,z1,z2,z3⟩:=Qtb KV8.out;obtain⟨e0,e1,e2,e3⟩:=Qud KV8.out;clear HR8 hb8 hg8 hat8)
     obtain⟨W9,hW9⟩:∃W9,W9=w8.setCell ⟨vb,0,none⟩ (.slice A8 l2.length c8):=⟨_,rfl⟩
     have hs2:w.heap.size≤vb:=by have:=HVB.out;omega
     have hner:w.heap.size+1≠vb:=by have:=HVB.out;omega
     have KV9:Aside0 (W9.heap[vb]? = some (.cells #[.slice A8 l2.length c8,.slice Aa ps.length ca,.int .u32 U,.bool false] 76 (0,0))):=⟨by rw[hW9];exact Qdp KV8.out 0 _⟩
     have KR9:Aside0 (W9.heap[w.heap.size+1]? = some (.cells #[.slice none 0 0,.slice none 0 0,.int .u32 0,.bool false] 76 (0,0))):=⟨by rw[hW9];exact Qdq KR8.out (p:=⟨vb,0,none⟩) hner _⟩
     have HRR9:Aside0 (Kd.R k39 39 W9 w.heap.size (fun _=>True) (.slice A8 l2.length c8) l2):=⟨by rw[hW9];exact Kd.R_set HRR8.out KV8.out (by decide) 0 _⟩
     have HRA9:Aside0 (Kd.R (Kd.int .u32) 22 W9 w.heap.size (fun _=>True) (.slice Aa ps.length ca) ps):=⟨by rw[hW9];exact Kd.R_set HRA8.out KV8.out (by decide) 0 _⟩
     have HB9:Aside0 (Below w.heap.size w W9):=⟨by rw[hW9];exact Qjm HB8.out hs2⟩
     rw[← hW9]
     clear hW9 x0 x1 x2 x3 t0 t1 t2 t3 z0 z1 z2 z3 e0 e1 e2 e3 KV8 KR8 HRR8 HRA8 HB8 KV7 KR7 HRR7 HRA7 HB7
     obtain⟨x0,x1,x2,x3⟩:=Qtb KV9.out
     go_upto_region 19 with(at_builtin;refine Kd.R_append (Kd.int .u32) (w0:=w) w.heap.size rfl (.tmp 86) (.tmp 89) 74 22 (.int .u32 0) 4 rfl Tryz.underlying74 info22 rfl (by decide) (by omega) (.slice Aa ps.length ca) ps U [.int .u32 U] (fun _=>True) (fun _=>False) rfl ?ax ?aP (fun _ hk=>hk.elim) ?aF ?aO ?aB ?aS ?aL ?_;(case ax=>rfl);(case aP=>rfl);(case aF=>exact fun _ _=>trivial);(case aO=>exact HRA9.out);(case aB=>exact HB9.out);(case aS=>exact HB9.out.size);(case aL=>have:=HLN.out.1;have:=HLN.out.2;omega);intro v10 w10 HR10 hb10 hg10 hat10;rw[← HL2.out.2]at HR10;obtain⟨A10,c10,hv10⟩:=Kd.R_slice HR10;subst hv10;have HRA10:=QA HR10;have HRR10:=QA (Kd.R_over' HRR9.out (Kd.R_typed HRA9.out) (by decide) hg10);have KV10:=QA (Qdu KV9.out hg10 (Kd.R_ne HRA9.out KV9.out (by decide)));have KR10:=QA (Qdu KR9.out hg10 (Kd.R_ne HRA9.out KR9.out (by decide)));have HB10:=QA hb10;obtain⟨z0,z1,z2,z3⟩:=Qtb KV10.out;obtain⟨e0,e1,e2,e3⟩:=Qud KV10.out;clear HR10 hb10 hg10 hat10)
     obtain⟨W11,hW11⟩:∃W11,W11=w10.setCell ⟨vb,1,none⟩ (.slice A10 ps2.length c10):=⟨_,rfl⟩
     have KV11:Aside0 (W11.heap[vb]? = some (.cells #[.slice A8 l2.length c8,.slice A10 ps2.length c10,.int .u32 U,.bool false] 76 (0,0))):=⟨by rw[hW11];exact Qdp KV10.out 1 _⟩
     have KR11:Aside0 (W11.heap[w.heap.size+1]? = some (.cells #[.slice none 0 0,.slice none 0 0,.int .u32 0,.bool false] 76 (0,0))):=⟨by rw[hW11];exact Qdq KR10.out (p:=⟨vb,1,none⟩) hner _⟩
     have HRR11:Aside0 (Kd.R k39 39 W11 w.heap.size (fun _=>True) (.slice A8 l2.length c8) l2):=⟨by rw[hW11];exact Kd.R_set HRR10.out KV10.out (by decide) 1 _⟩
     have HRA11:Aside0 (Kd.R (Kd.int .u32) 22 W11 w.heap.size (fun _=>True) (.slice A10 ps2.length c10) ps2):=⟨by rw[hW11];exact Kd.R_set HRA10.out KV10.out (by decide) 1 _⟩
     have HB11:Aside0 (Below w.heap.size w W11):=⟨by rw[hW11];exact Qjm HB10.out hs2⟩
     rw[← hW11]
     clear hW11 x0 x1 x2 x3 z0 z1 z2 z3 e0 e1 e2 e3 KV10 KR10 HRR10 HRA10 HB10 KV9 KR9 HRR9 HRA9 HB9
     obtain⟨x0,x1,x2,x3⟩:=Qtb KV11.out
     obtain⟨e0,e1,e2,e3⟩:=Qud KV11.out
     go_upto_region 8 with fail
     obtain⟨W12,hW12⟩:∃W12,W12=W11.setCell ⟨vb,2,none⟩ (.int .u32 U2):=⟨_,rfl⟩
     have KV12:Aside0 (W12.heap[vb]? = some (.cells #[.slice A8 l2.length c8,.slice A10 ps2.length c10,.int .u32 U2,.bool false] 76 (0,0))):=⟨by rw[hW12];exact Qdp KV11.out 2 _⟩
     have KR12:Aside0 (W12.heap[w.heap.size+1]? = some (.cells #[.slice none 0 0,.slice none 0 0,.int .u32 0,.bool false] 76 (0,0))):=⟨by rw[hW12];exact Qdq KR11.out (p:=⟨vb,2,none⟩) hner _⟩
     have HRR12:Aside0 (Kd.R k39 39 W12 w.heap.size (fun _=>True) (.slice A8 l2.length c8) l2):=⟨by rw[hW12];exact Kd.R_set HRR11.out KV11.out (by decide) 2 _⟩
     have HRA12:Aside0 (Kd.R (Kd.int .u32) 22 W12 w.heap.size (fun _=>True) (.slice A10 ps2.length c10) ps2):=⟨by rw[hW12];exact Kd.R_set HRA11.out KV11.out (by decide) 2 _⟩
     have HB12:Aside0 (Below w.heap.size w W12):=⟨by rw[hW12];exact Qjm HB11.out hs2⟩
     rw[← hW12]
     clear hW12 x0 x1 x2 x3 e0 e1 e2 e3 KV11 KR11 HRR11 HRA11 HB11
     obtain⟨x0,x1,x2,x3⟩:=Qtb KV12.out
     have hdl:(b.drop (u+m+1)).length<rst.length:=by rw[List.length_drop,HRL.out];have:=HML.out;have:=HRL.out;omega
     obtain⟨rs3,hrs3⟩:∃rs3,rs3=b.drop (u+m+1):=⟨_,rfl⟩
     rw[← hrs3]at hcutM HLM HCM hdl
     have HRS3:=QA hrs3
     have HDL:=QA hdl
     clear hrs3 hdl
     go_wp2_with fail
     go_roundw
     case rel =>
      refine⟨l2,ps2,u+m+1,f,U2,An,A8,A10,cn,c8,c10,by rw[← HRS3.out],HU2,⟨by rw[← HRS3.out];exact HLM.out⟩,by have:=HML.out;have:=HRL.out;omega,⟨by rw[← HRS3.out];exact HCM.out⟩,⟨?_⟩,KV12,HRR12,HRA12,KR12,HB12,⟨?_⟩,⟨?_,?_⟩,⟨?_,?_⟩⟩
      ·rw[HL2.out.1,HL2.out.2,HU.out]
       exact HSC.out
      ·intro r hr
       rw[HL2.out.1]at hr
       rcases List.mem_append.1 hr with hr|hr
       ·exact HKZ.out r hr
       ·rw[List.mem_singleton.1 hr];exact HKZ1.out
      ·rw[HL2.out.2]
       refine List.pairwise_append.2 ⟨HPW.out.1,List.pairwise_singleton _ _,fun x hx y hy=>?_⟩
       rw[List.mem_singleton.1 hy,HU.out]
       exact HPW.out.2 x hx
      ·intro p hp
       rw[HL2.out.2]at hp
       rcases List.mem_append.1 hp with hp|hp
       ·have:=HPW.out.2 p hp;omega
       ·rw[List.mem_singleton.1 hp,HU.out];omega
      ·rw[HL2.out.1,HL2.out.2,List.length_append,List.length_append,HLN.out.1];rfl
      ·rw[HL2.out.1,List.length_append];have:=HLN.out.2;simp only[List.length_singleton];omega
     case measure=>have:=HDL.out;simp[lenV];omega
    ·rw [if_neg her]at hsc
     have hne5:(r5 != 0)=true:=bne_iff_ne.2 her
     clear her
     obtain⟨⟨out,e0⟩,hO,hsc⟩:=Option.bind_eq_some_iff.mp hsc
     dsimp only at hsc
     by_cases hgd:e0=0→CodecP.Bytes out∧out.length≤100000000000
     ·rw [if_pos hgd]at hsc
      obtain⟨bq,hbq⟩:∃bq,bq=Qta (u:Int) l ps (getF e0 out):=⟨_,rfl⟩
      obtain⟨fq,hfq⟩:∃fq,fq=Qtd (b.drop (u+m+1)):=⟨_,rfl⟩
      rw[← hbq,← hfq]at hsc
      have CL:=QA (fun W h1 h2 h3=>Qtc k Ar Aa Av cr ca cv l ps ck out U e0 false W h1 h2 HLN.out.1 (by have:=HLN.out.2;omega) HKZ.out (Quf HPW.out.1) h3 HLN2.out hO hgd)
      rw[HU.out,← hbq,← HU.out]at CL
      obtain⟨An,cn,hcutM,hlm,hCM⟩:=cutd .i64 Av cv rst HLC.out (m+1) (by have:=HML.out;omega) (ix+1) (by have:=HIXM.out;omega)
      have hwx:IntKind.i64.wrap (ix+1)=ix+1:=IntWalk.i64_in _ (by have:=HIXM.out;have:=HML.out;have:=HRL.out;omega)
      have hdd:rst.drop (m+1)=b.drop (u+m+1):=by rw[HRST.out,List.drop_drop,Nat.add_assoc]
      rw[hdd]at hcutM hlm hCM
      obtain⟨rs2,hrs2⟩:∃rs2,rs2=b.drop (u+m+1):=⟨_,rfl⟩
      have hl2:rs2.length≤140737488355328:=by rw[hrs2,List.length_drop];omega
      rw[← hrs2]at hcutM hlm hCM hfq
      have ERS:=QA (fun W (h:Kd.C (Kd.int .u8) W An rs2.length rs2)=>Qtg An cn rs2 W h hl2)
      rw[← hfq]at ERS
      have HCM:=QA (hCM w HCV.out)
      have HSC:=QA (Option.some.inj hsc)
      clear hO hgd hsc hbq hfq hdd hlm hCM hl2 hrs2
      cases bq with
      | false =>
       have hres:none=res:=by
        have h:=HSC.out
        rw[if_neg (by simp)]at h
        exact h
       subst hres
       go_upto_region 13 with(first
        |(go_at_call 81;refine(GR.out _ (Kd.C_below HCN.out HB5.out)).mono ?_;rintro ee w6 ⟨rfl,hb6⟩;have HB6:=QA (HB5.out.trans (Qjn hb6 HB5.out.size));have KV6:=QA (Qeh KV5.out hb6);have KR6:=QA (Qeh KR5.out hb6);have HRR6:=QA (Kd.R_below HRR5.out hb6);have HRA6:=QA (Kd.R_below HRA5.out hb6);clear hb6)
        |(go_at_call 80;refine(IXC.out _ (Kd.C_below HCV.out HB.out)).mono ?_;rintro ee w5 ⟨rfl,hd5⟩;have HB5:=QA (HB.out.trans (Qjn hd5.below HB.out.size));have KR5:=QA (Qeh KR.out hd5.below);have KV5:=QA (Qeh KV.out hd5.below);have HRR5:=QA (Kd.R_below HRR.out hd5.below);have HRA5:=QA (Kd.R_below HRA.out hd5.below);clear hd5))
       obtain⟨W7,hW7⟩:∃W7,W7=w6.alloc (.cells #[.bool r1,.int .u64 r2,.string r3,.string r4] 39):=⟨_,rfl⟩
       have hb7:Below w6.heap.size w6 W7:=by rw[hW7];exact Qcu (Below.refl _ _) _
       rw[← hW7]
       clear hW7
       have hb7d:Below w6.heap.size w6 W7.drew:=Qcv hb7
       have HB7:=QA (HB6.out.trans (Qjn hb7d HB6.out.size))
       have KV7:=QA (Qeh KV6.out hb7d)
       have KR7:=QA (Qeh KR6.out hb7d)
       have HRR7:=QA (Kd.R_below HRR6.out hb7d)
       have HRA7:=QA (Kd.R_below HRA6.out hb7d)
       obtain⟨x0,x1,x2,x3⟩:=Qtb KV7.out
       clear hb7 hb7d v0 v1 v2 v3
       refine Qge (n:=14) (S:=fun w'=>w'.cell? ⟨vb,0,none⟩=some (.slice Ar l.length cr)∧w'.cell? ⟨vb,1,none⟩=some (.slice Aa ps.length ca)∧w'.cell? ⟨vb,2,none⟩=some (.int .u32 U)∧w'.cell? ⟨vb,3,none⟩=some (.bool false)) (ds:=[]) #[false,false,false,false,false,false,false,false,false,false,false,false,false,false] qq_6 rfl rfl ⟨x0,x1,x2,x3⟩ (fun hHeld=>?_)
       refine Qgh (i:=1) (N:=some 63) (v:=?_) (a':=?_) #[false,true,false,false,false,false,false,false,false,false,false,false,false,false] rfl rfl qq_6 (fun _ _ _ h=>h) (Or.inl ⟨by rfl,?_⟩) ?_ ?_
       rotate_left
       ·intro w'
        go_simp
        with_reducible rfl
       rotate_left
       ·simp only[Act.put,List.setIfInBounds_toArray,List.set_cons_zero,List.set_cons_succ,Qgr,Qgs]
        rfl
       refine Qgh (i:=2) (N:=some 64) (v:=?_) (a':=?_) #[false,true,true,false,false,false,false,false,false,false,false,false,false,false] rfl rfl qq_6 (fun _ _ _ h=>h) (Or.inl ⟨by rfl,?_⟩) ?_ ?_
       rotate_left
       ·intro w'
        go_simp
        with_reducible rfl
       rotate_left
       ·simp only[Act.put,List.setIfInBounds_toArray,List.set_cons_zero,List.set_cons_succ,Qgr,Qgs]
        rfl
       refine Qgh (i:=3) (N:=some 65) (v:=?_) (a':=?_) #[false,true,true,true,false,false,false,false,false,false,false,false,false,false] rfl rfl qq_6 (fun _ _ _ h=>h) (Or.inl ⟨by rfl,?_⟩) ?_ ?_
       rotate_left
       ·intro w'
        go_simp
        with_reducible rfl
       rotate_left
       ·simp only[Act.put,List.setIfInBounds_toArray,List.set_cons_zero,List.set_cons_succ,Qgr,Qgs]
        rfl
       refine Qgg (i:=0) (N:=some 62) (v:=?_) (a':=?_) #[true,true,true,true,false,false,false,false,false,false,false,false,false,false] rfl rfl qq_6 (fun _ _ _ h=>h) (Or.inl ⟨by rfl,?_⟩) hHeld ?_ ?_
       rotate_left
       ·rintro w' ⟨s0,s1,s2,s3⟩
        go_simp
        with_reducible rfl
       rotate_left
       ·simp only[Act.put,List.setIfInBounds_toArray,List.set_cons_zero,List.set_cons_succ,Qgr,Qgs]
        rfl
       refine one_ (i:=4) (N:=some 66) #[true,true,true,true,true,false,false,false,false,false,false,false,false,false] rfl rfl qq_6 (by decide) (fun K hK=>?_)
       refine Qgo Tryz.func82 qq_6 rfl #[.agg #[.slice Ar l.length cr,.slice Aa ps.length ca,.int .u32 U,.bool false],.slice Av ck.length cv] (by rfl) rfl rfl (by simp only[List.map_toArray,List.map_cons,List.map_nil];rfl) ?_
       with_reducible refine(CL.out _ (Kd.R_reads' HRR7.out).2.2 (Kd.R_reads' HRA7.out).2.2 (Kd.C_below HCN.out HB7.out)).mono ?_
       rintro ee w8 ⟨rfl,hb8⟩
       refine⟨_,rfl,?_⟩
       have HB8:=QA (HB7.out.trans (Qjn hb8 HB7.out.size))
       have KV8:=QA (Qeh KV7.out hb8)
       have KR8:=QA (Qeh KR7.out hb8)
       have HRR8:=QA (Kd.R_below HRR7.out hb8)
       have HRA8:=QA (Kd.R_below HRA7.out hb8)
       obtain⟨k0,k1,k2,k3⟩:=Qtb KR8.out
       obtain⟨g0,g1,g2,g3⟩:=Qud KR8.out
       refine hK.out _ _ ⟨(Qcy hb8 hHeld.1),(Qcy hb8 hHeld.2.1),(Qcy hb8 hHeld.2.2.1),(Qcy hb8 hHeld.2.2.2)⟩ (fun hHeld=>?_)
       clear hK K
       refine Qgm (a':=?_) ?_ ?_
       rotate_left
       ·show Act.put _ (some 66) _=_
        simp only[Act.put,List.setIfInBounds_toArray,List.set_cons_zero,List.set_cons_succ,Qgr,Qgs]
        rfl
       refine Qgh (i:=5) (N:=some 67) (v:=?_) (a':=?_) #[true,true,true,true,true,true,false,false,false,false,false,false,false,false] rfl rfl qq_6 (fun _ _ _ h=>h) (Or.inl ⟨by rfl,?_⟩) ?_ ?_
       rotate_left
       ·intro w'
        go_simp
        with_reducible rfl
       rotate_left
       ·simp only[Act.put,List.setIfInBounds_toArray,List.set_cons_zero,List.set_cons_succ,Qgr,Qgs]
        rfl
       refine Qgh (i:=6) (N:=some 68) (v:=?_) (a':=?_) #[true,true,true,true,true,true,true,false,false,false,false,false,false,false] rfl rfl qq_6 (fun _ _ _ h=>h) (Or.inl ⟨by rfl,?_⟩) ?_ ?_
       rotate_left
       ·intro w'
        go_simp
        with_reducible rfl
       rotate_left
       ·simp only[Act.put,List.setIfInBounds_toArray,List.set_cons_zero,List.set_cons_succ,Qgr,Qgs]
        rfl
       refine Qgh (i:=7) (N:=some 69) (v:=undef) (a':=?_) #[true,true,true,true,true,true,true,true,false,false,false,false,false,false] rfl rfl qq_6 (fun _ _ _ h=>h) (Or.inr ⟨by rfl,rfl⟩) ?_ ?_
       rotate_left
       ·simp only[Act.put,List.setIfInBounds_toArray,List.set_cons_zero,List.set_cons_succ,Qgr,Qgs]
        rfl
       refine Qgh (i:=8) (N:=some 70) (v:=undef) (a':=?_) #[true,true,true,true,true,true,true,true,true,false,false,false,false,false] rfl rfl qq_6 (fun _ _ _ h=>h) (Or.inr ⟨by rfl,rfl⟩) ?_ ?_
       rotate_left
       ·simp only[Act.put,List.setIfInBounds_toArray,List.set_cons_zero,List.set_cons_succ,Qgr,Qgs]
        rfl
       refine Qgh (i:=9) (N:=some 71) (v:=undef) (a':=?_) #[true,true,true,true,true,true,true,true,true,true,false,false,false,false] rfl rfl qq_6 (fun _ _ _ h=>h) (Or.inr ⟨by rfl,rfl⟩) ?_ ?_
       rotate_left
       ·simp only[Act.put,List.setIfInBounds_toArray,List.set_cons_zero,List.set_cons_succ,Qgr,Qgs]
        rfl
       refine Qgh (i:=10) (N:=some 72) (v:=undef) (a':=?_) #[true,true,true,true,true,true,true,true,true,true,true,false,false,false] rfl rfl qq_6 (fun _ _ _ h=>h) (Or.inr ⟨by rfl,rfl⟩) ?_ ?_
       rotate_left
       ·simp only[Act.put,List.setIfInBounds_toArray,List.set_cons_zero,List.set_cons_succ,Qgr,Qgs]
        rfl
       refine Qgh (i:=11) (N:=some 73) (v:=undef) (a':=?_) #[true,true,true,true,true,true,true,true,true,true,true,true,false,false] rfl rfl qq_6 (fun _ _ _ h=>h) (Or.inr ⟨by rfl,rfl⟩) ?_ ?_
       rotate_left
       ·simp only[Act.put,List.setIfInBounds_toArray,List.set_cons_zero,List.set_cons_succ,Qgr,Qgs]
        rfl
       refine Qgh (i:=12) (N:=some 74) (v:=undef) (a':=?_) #[true,true,true,true,true,true,true,true,true,true,true,true,true,false] rfl rfl qq_6 (fun _ _ _ h=>h) (Or.inr ⟨by rfl,rfl⟩) ?_ ?_
       rotate_left
       ·simp only[Act.put,List.setIfInBounds_toArray,List.set_cons_zero,List.set_cons_succ,Qgr,Qgs]
        rfl
       refine Qgh (i:=13) (N:=some 75) (v:=?_) (a':=?_) #[true,true,true,true,true,true,true,true,true,true,true,true,true,true] rfl rfl qq_6 (fun _ _ _ h=>h) (Or.inl ⟨by rfl,?_⟩) ?_ ?_
       rotate_left
       ·intro w'
        go_simp
        with_reducible rfl
       rotate_left
       ·simp only[Act.put,List.setIfInBounds_toArray,List.set_cons_zero,List.set_cons_succ,Qgr,Qgs]
        rfl
       refine Qgj qq_6 ?_
       go_wp2_with fail
       rw[Exit.noGoto_ret]
       refine bodyPost_ret (Qej rfl _ _ (w.heap.size+1) 76 #[.slice none 0 0,.slice none 0 0,.int .u32 0,.bool false] (0,0) _ rfl (Que _ _ _ _ KR8.out rfl) hu76 rfl qq_6) rfl ?_
       have hs:w.heap.size≤w.heap.size+1:=Nat.le_succ _
       exact⟨rfl,Qjm (Qjm (Qjm (Qjm HB8.out hs) hs) hs) hs⟩
      | true =>
       go_upto_region 13 with(first
        |(go_at_call 81;refine(GR.out _ (Kd.C_below HCN.out HB5.out)).mono ?_;rintro ee w6 ⟨rfl,hb6⟩;have HB6:=QA (HB5.out.trans (Qjn hb6 HB5.out.size));have KV6:=QA (Qeh KV5.out hb6);have KR6:=QA (Qeh KR5.out hb6);have HRR6:=QA (Kd.R_below HRR5.out hb6);have HRA6:=QA (Kd.R_below HRA5.out hb6);clear hb6)
        |(go_at_call 80;refine(IXC.out _ (Kd.C_below HCV.out HB.out)).mono ?_;rintro ee w5 ⟨rfl,hd5⟩;have HB5:=QA (HB.out.trans (Qjn hd5.below HB.out.size));have KR5:=QA (Qeh KR.out hd5.below);have KV5:=QA (Qeh KV.out hd5.below);have HRR5:=QA (Kd.R_below HRR.out hd5.below);have HRA5:=QA (Kd.R_below HRA.out hd5.below);clear hd5))
       obtain⟨W7,hW7⟩:∃W7,W7=w6.alloc (.cells #[.bool r1,.int .u64 r2,.string r3,.string r4] 39):=⟨_,rfl⟩
       have hb7:Below w6.heap.size w6 W7:=by rw[hW7];exact Qcu (Below.refl _ _) _
       rw[← hW7]
       clear hW7
       have hb7d:Below w6.heap.size w6 W7.drew:=Qcv hb7
       have HB7:=QA (HB6.out.trans (Qjn hb7d HB6.out.size))
       have KV7:=QA (Qeh KV6.out hb7d)
       have KR7:=QA (Qeh KR6.out hb7d)
       have HRR7:=QA (Kd.R_below HRR6.out hb7d)
       have HRA7:=QA (Kd.R_below HRA6.out hb7d)
       obtain⟨x0,x1,x2,x3⟩:=Qtb KV7.out
       clear hb7 hb7d v0 v1 v2 v3
       refine Qge (n:=14) (S:=fun w'=>w'.cell? ⟨vb,0,none⟩=some (.slice Ar l.length cr)∧w'.cell? ⟨vb,1,none⟩=some (.slice Aa ps.length ca)∧w'.cell? ⟨vb,2,none⟩=some (.int .u32 U)∧w'.cell? ⟨vb,3,none⟩=some (.bool false)) (ds:=[]) #[false,false,false,false,false,false,false,false,false,false,false,false,false,false] qq_6 rfl rfl ⟨x0,x1,x2,x3⟩ (fun hHeld=>?_)
       refine Qgh (i:=1) (N:=some 63) (v:=?_) (a':=?_) #[false,true,false,false,false,false,false,false,false,false,false,false,false,false] rfl rfl qq_6 (fun _ _ _ h=>h) (Or.inl ⟨by rfl,?_⟩) ?_ ?_
       rotate_left
       ·intro w'
        go_simp
        with_reducible rfl
       rotate_left
       ·simp only[Act.put,List.setIfInBounds_toArray,List.set_cons_zero,List.set_cons_succ,Qgr,Qgs]
        rfl
       refine Qgh (i:=2) (N:=some 64) (v:=?_) (a':=?_) #[false,true,true,false,false,false,false,false,false,false,false,false,false,false] rfl rfl qq_6 (fun _ _ _ h=>h) (Or.inl ⟨by rfl,?_⟩) ?_ ?_
       rotate_left
       ·intro w'
        go_simp
        with_reducible rfl
       rotate_left
       ·simp only[Act.put,List.setIfInBounds_toArray,List.set_cons_zero,List.set_cons_succ,Qgr,Qgs]
        rfl
       refine Qgh (i:=3) (N:=some 65) (v:=?_) (a':=?_) #[false,true,true,true,false,false,false,false,false,false,false,false,false,false] rfl rfl qq_6 (fun _ _ _ h=>h) (Or.inl ⟨by rfl,?_⟩) ?_ ?_
       rotate_left
       ·intro w'
        go_simp
        with_reducible rfl
       rotate_left
       ·simp only[Act.put,List.setIfInBounds_toArray,List.set_cons_zero,List.set_cons_succ,Qgr,Qgs]
        rfl
       refine Qgg (i:=0) (N:=some 62) (v:=?_) (a':=?_) #[true,true,true,true,false,false,false,false,false,false,false,false,false,false] rfl rfl qq_6 (fun _ _ _ h=>h) (Or.inl ⟨by rfl,?_⟩) hHeld ?_ ?_
       rotate_left
       ·rintro w' ⟨s0,s1,s2,s3⟩
        go_simp
        with_reducible rfl
       rotate_left
       ·simp only[Act.put,List.setIfInBounds_toArray,List.set_cons_zero,List.set_cons_succ,Qgr,Qgs]
        rfl
       refine one_ (i:=4) (N:=some 66) #[true,true,true,true,true,false,false,false,false,false,false,false,false,false] rfl rfl qq_6 (by decide) (fun K hK=>?_)
       refine Qgo Tryz.func82 qq_6 rfl #[.agg #[.slice Ar l.length cr,.slice Aa ps.length ca,.int .u32 U,.bool false],.slice Av ck.length cv] (by rfl) rfl rfl (by simp only[List.map_toArray,List.map_cons,List.map_nil];rfl) ?_
       with_reducible refine(CL.out _ (Kd.R_reads' HRR7.out).2.2 (Kd.R_reads' HRA7.out).2.2 (Kd.C_below HCN.out HB7.out)).mono ?_
       rintro ee w8 ⟨rfl,hb8⟩
       refine⟨_,rfl,?_⟩
       have HB8:=QA (HB7.out.trans (Qjn hb8 HB7.out.size))
       have KV8:=QA (Qeh KV7.out hb8)
       have KR8:=QA (Qeh KR7.out hb8)
       have HRR8:=QA (Kd.R_below HRR7.out hb8)
       have HRA8:=QA (Kd.R_below HRA7.out hb8)
       obtain⟨k0,k1,k2,k3⟩:=Qtb KR8.out
       obtain⟨g0,g1,g2,g3⟩:=Qud KR8.out
       refine hK.out _ _ ⟨(Qcy hb8 hHeld.1),(Qcy hb8 hHeld.2.1),(Qcy hb8 hHeld.2.2.1),(Qcy hb8 hHeld.2.2.2)⟩ (fun hHeld=>?_)
       clear hK K
       refine Qgm (a':=?_) ?_ ?_
       rotate_left
       ·show Act.put _ (some 66) _=_
        simp only[Act.put,List.setIfInBounds_toArray,List.set_cons_zero,List.set_cons_succ,Qgr,Qgs]
        rfl
       refine Qgh (i:=5) (N:=some 67) (v:=?_) (a':=?_) #[true,true,true,true,true,true,false,false,false,false,false,false,false,false] rfl rfl qq_6 (fun _ _ _ h=>h) (Or.inl ⟨by rfl,?_⟩) ?_ ?_
       rotate_left
       ·intro w'
        go_simp
        with_reducible rfl
       rotate_left
       ·simp only[Act.put,List.setIfInBounds_toArray,List.set_cons_zero,List.set_cons_succ,Qgr,Qgs]
        rfl
       refine Qgh (i:=6) (N:=some 68) (v:=?_) (a':=?_) #[true,true,true,true,true,true,true,false,false,false,false,false,false,false] rfl rfl qq_6 (fun _ _ _ h=>h) (Or.inl ⟨by rfl,?_⟩) ?_ ?_
       rotate_left
       ·intro w'
        go_simp
        with_reducible rfl
       rotate_left
       ·simp only[Act.put,List.setIfInBounds_toArray,List.set_cons_zero,List.set_cons_succ,Qgr,Qgs]
        rfl
       refine Qgh (i:=7) (N:=some 69) (v:=?_) (a':=?_) #[true,true,true,true,true,true,true,true,false,false,false,false,false,false] rfl rfl qq_6 (fun _ _ _ h=>h) (Or.inl ⟨by rfl,?_⟩) ?_ ?_
       rotate_left
       ·intro w'
        go_simp
        with_reducible rfl
       rotate_left
       ·simp only[Act.put,List.setIfInBounds_toArray,List.set_cons_zero,List.set_cons_succ,Qgr,Qgs]
        rfl
       refine Qgh (i:=8) (N:=some 70) (v:=?_) (a':=?_) #[true,true,true,true,true,true,true,true,true,false,false,false,false,false] rfl rfl qq_6 (fun _ _ _ h=>h) (Or.inl ⟨by rfl,?_⟩) ?_ ?_
       rotate_left
       ·intro w'
        go_simp
        with_reducible rfl
       rotate_left
       ·simp only[Act.put,List.setIfInBounds_toArray,List.set_cons_zero,List.set_cons_succ,Qgr,Qgs]
        rfl
       refine Qgh (i:=9) (N:=some 71) (v:=?_) (a':=?_) #[true,true,true,true,true,true,true,true,true,true,false,false,false,false] rfl rfl qq_6 (fun _ _ _ h=>h) (Or.inl ⟨by rfl,?_⟩) ?_ ?_
       rotate_left
       ·intro w'
        go_simp
        with_reducible rfl
       rotate_left
       ·simp only[Act.put,List.setIfInBounds_toArray,List.set_cons_zero,List.set_cons_succ,Qgr,Qgs]
        rfl
       refine Qgh (i:=10) (N:=some 72) (v:=?_) (a':=?_) #[true,true,true,true,true,true,true,true,true,true,true,false,false,false] rfl rfl qq_6 (fun _ _ _ h=>h) (Or.inl ⟨by rfl,?_⟩) ?_ ?_
       rotate_left
       ·intro w'
        go_simp
        with_reducible rfl
       rotate_left
       ·simp only[Act.put,List.setIfInBounds_toArray,List.set_cons_zero,List.set_cons_succ,Qgr,Qgs]
        rfl
       refine one_ (i:=11) (N:=some 73) #[true,true,true,true,true,true,true,true,true,true,true,true,false,false] rfl rfl qq_6 (by decide) (fun K hK=>?_)
       refine Qgo Tryz.func83 qq_6 rfl #[.slice An rs2.length cn] (by rfl) rfl rfl (by simp only[List.map_toArray,List.map_cons,List.map_nil];rfl) ?_
       with_reducible refine(ERS.out _ (Kd.C_below HCM.out HB8.out)).mono ?_
       rintro ee w9 ⟨rfl,rfl⟩
       refine⟨_,rfl,?_⟩
       refine hK.out _ _ ⟨hHeld.1,hHeld.2.1,hHeld.2.2.1,hHeld.2.2.2⟩ (fun hHeld=>?_)
       clear hK K
       refine Qgm (a':=?_) ?_ ?_
       rotate_left
       ·show Act.put _ (some 73) _=_
        simp only[Act.put,List.setIfInBounds_toArray,List.set_cons_zero,List.set_cons_succ,Qgr,Qgs]
        rfl
       refine Qgh (i:=12) (N:=some 74) (v:=?_) (a':=?_) #[true,true,true,true,true,true,true,true,true,true,true,true,true,false] rfl rfl qq_6 (fun _ _ _ h=>h) (Or.inl ⟨by rfl,?_⟩) ?_ ?_
       rotate_left
       ·intro w'
        go_simp
        with_reducible rfl
       rotate_left
       ·simp only[Act.put,List.setIfInBounds_toArray,List.set_cons_zero,List.set_cons_succ,Qgr,Qgs]
        rfl
       refine Qgh (i:=13) (N:=some 75) (v:=?_) (a':=?_) #[true,true,true,true,true,true,true,true,true,true,true,true,true,true] rfl rfl qq_6 (fun _ _ _ h=>h) (Or.inl ⟨by rfl,?_⟩) ?_ ?_
       rotate_left
       ·intro w'
        go_simp
        with_reducible rfl
       rotate_left
       ·simp only[Act.put,List.setIfInBounds_toArray,List.set_cons_zero,List.set_cons_succ,Qgr,Qgs]
        rfl
       refine Qgj qq_6 ?_
       cases fq with
       | false =>
        have hres:none=res:=by
         have h:=HSC.out
         rw[if_neg (by simp)]at h
         exact h
        subst hres
        go_wp2_with fail
        rw[Exit.noGoto_ret]
        refine bodyPost_ret (Qej rfl _ _ (w.heap.size+1) 76 #[.slice none 0 0,.slice none 0 0,.int .u32 0,.bool false] (0,0) _ rfl (Que _ _ _ _ KR8.out rfl) hu76 rfl qq_6) rfl ?_
        have hs:w.heap.size≤w.heap.size+1:=Nat.le_succ _
        exact⟨rfl,Qjm (Qjm (Qjm (Qjm HB8.out hs) hs) hs) hs⟩
       | true =>
        have hres:some (l,ps,u,true)=res:=by
         have h:=HSC.out
         rw[if_pos (by simp)]at h
         exact h
        subst hres
        obtain⟨y0,y1,y2,y3⟩:=Qtb KV8.out
        obtain⟨f0,f1,f2,f3⟩:=Qud KV8.out
        have KV9:=QA (Qdp KV8.out 3 (.bool true))
        have KR9:=QA (Qdq KR8.out (p:=⟨vb,3,none⟩) (show w.heap.size+1≠vb by have:=HVB.out;omega) (.bool true))
        obtain⟨m0,m1,m2,m3⟩:=Qtb (a:=.slice Ar l.length cr) (b:=.slice Aa ps.length ca) (u:=U) (s:=true) KV9.out
        obtain⟨n0,n1,n2,n3⟩:=Qud KR9.out
        obtain⟨o0,o1,o2,o3⟩:=Qtb KR9.out
        go_wp2_with fail
        try rw[Exit.noGoto_ret]
        refine bodyPost_ret (Qej rfl _ _ (w.heap.size+1) 76 #[.slice Ar l.length cr,.slice Aa ps.length ca,.int .u32 U,.bool true] (0,0) _ rfl (Que _ _ _ _ KR9.out rfl) hu76 rfl qq_6) rfl ?_
        have hs:w.heap.size≤w.heap.size+1:=Nat.le_succ _
        have hs2:w.heap.size≤vb:=by have:=HVB.out;omega
        have HRR9:=Quj (Kd.R_set HRR8.out KV8.out (by decide) 3 (.bool true)) KR9.out (by decide) (.slice Ar l.length cr) (.slice Aa ps.length ca) (.int .u32 U) (.bool true)
        have HRA9:=Quj (Kd.R_set HRA8.out KV8.out (by decide) 3 (.bool true)) KR9.out (by decide) (.slice Ar l.length cr) (.slice Aa ps.length ca) (.int .u32 U) (.bool true)
        refine⟨⟨Ar,cr,Aa,ca,by rw[← HU.out];rfl,(Kd.R_reads' HRR9).2.2,(Kd.R_reads' HRA9).2.2,(Kd.R_reads' HRR9).2.1,(Kd.R_reads' HRA9).2.1⟩,?_⟩
        exact Qjm (Qjm (Qjm (Qjm (Qjm HB8.out hs2) hs) hs) hs) hs
     ·rw[if_neg hgd]at hsc;cases hsc
end Go.Proofs.YtnnofopfbeklbaaGreat.C
end
