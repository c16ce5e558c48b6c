/- Merged texts. -/
import Derived.Test.YtepkfjmjidjedaaGreatMB02
import Derived.Test.YtepkfjmjidjedaaGreatMB10
import Derived.Test.YtepkfjmjidjedaaGreatMB14
import Derived.Test.YtepkfjmjidjedaaGreatMB08
import Derived.Test.YtepkfjmjidjedaaGreatMB06
import Derived.Test.YtepkfjmjidjedaaGreatMB11
import Derived.Test.YtepkfjmjidjedaaGreatMB09
import Derived.Test.YtepkfjmjidjedaaGreatMB13
set_option linter.unusedVariables false
set_option linter.unusedSimpArgs false
set_option maxHeartbeats 8000000
set_option maxRecDepth 100000
section
namespace Go.Proofs.YtepkfjmjidjedaaGreat.C
open Go.RowKit Go.Proofs.YtepkfjmjidjedaaGreatW.PrintWords Go.Proofs.YtepkfjmjidjedaaGreatW.PrintLast Go.Proofs.YtepkfjmjidjedaaGreatW.PrintMore
def lim:Nat:=70368744177664
def encG (e s:Int) (into:List Int):Nat→List Rec→List Int→Option Bd→Option (List Int)
 | _,[],out,none=>some out
 | _,[],out,some B=>(Qpv B).bind fun o=>if out.length+o.length≤lim then some (out++o)else none
 | i,r :: rs,out,ob =>
  if i<into.length then
   match ob with
   | none=>if i=0 then(newB e s (rd into (i:Int))).bind fun B=>(addB B r).bind fun B'=>encG e s into (i+1) rs out (some B')else none
   | some B =>
    if i=0 then none
    else if rd into (i:Int)=rd into ((i:Int)-1)then(addB B r).bind fun B'=>encG e s into (i+1) rs out (some B')
    else(Qpu B).bind fun o=>if out.length+o.length≤lim then(newB e s (rd into (i:Int))).bind fun B1=>(addB B1 r).bind fun B'=>encG e s into (i+1) rs (out++o) (some B')else none
  else none
def Qbr.f(k:Nat)(a0_0 a0_1:Int)(l1:List Rec):Option (List Int × Int) :=
 (Qbs.f k a0_0 a0_1 l1).bind fun p=>if p.2.2=0 then(if l1.length≤1099511627776 then(encG a0_0 a0_1 p.1 0 l1 [] none).bind fun o=>some (o,0)else none)else some ([],p.2.2)
def OpenAt(W:World)(b:Nat)(vo pb:Value)(ob:Option Bd)(i:Nat):Prop :=
 match ob with
 | none=>pb=.pointer none∧i=0
 | some B=>∃g b2,pb=.pointer (some ⟨g,0,none⟩)∧b≤b2∧b2≤g∧b2≤W.heap.size∧(∀k,vo.ownBlock=some k→k<b2)∧IsB W b2 g B∧i≠0
theorem Qqc{W W':World}{b b2:Nat}{v:Value}{xs:List Int}(h:R8 W b v xs)(hb:Below b2 W W')(hlt:∀k,v.ownBlock=some k→k<b2):R8 W' b v xs:=by
 refine Kd.R_mono (Kd.R_step (ok:=fun k=>v.ownBlock=some k) ?_ (fun k hk _=>hb.block k (hlt k hk))) (fun _ _=>trivial);exact Kd.R_mono (Kd.R_tight rfl h) (fun k hk=>hk.symm)
theorem Qqd{l:List Rec}{i:Nat}(h:i<l.length):l.drop i=Qic l (i:Int) :: l.drop (i+1):=by
 rw[List.drop_eq_getElem_cons h];simp[Qic,List.getElem?_eq_getElem h]
theorem enc_of(k:Nat)(e s:Int)(A1:Option Addr)(c1 n1:Nat)(l1:List Rec)(into sizes o:List Int)(w:World)(p:n1=l1.length)(hr1:Kd.C k36 w A1 n1 l1)(hc1:n1≤c1)(hl1:l1.length≤1099511627776)
  (hp:Qbs.f k e s l1=some (into,sizes,0)) (h:encG e s into 0 l1 [] none=some o) :
  Calls Tryz.prog 20 #[.agg #[.int .u8 e,.int .u32 s],.slice A1 n1 c1] w fun ee w'=>∃v,ee=.returned (.tuple #[v,.int .i64 0])∧R8 w' w.heap.size v o∧Below w.heap.size w w':=by
 have hu:=Tryz.underlying40;have hu2:=Tryz.underlying36;have HN:=QA p;have HC:=QA hr1;have HP:=QA hp;have HE:=QA h;have hl1':n1≤1099511627776:=by omega
 clear p hr1 hp h hl1;have hba:Below w.heap.size w (w.alloc (.cells #[.int .u8 e,.int .u32 s] 40)):=Qcn (Below.refl _ _) _;have hbn:=Qdz w (.cells #[.int .u8 e,.int .u32 s] 40);have HCa:=QA (Kd.C_alloc HC.out (.cells #[.int .u8 e,.int .u32 s] 40));have hplan:Calls Tryz.prog 43 #[.agg #[.int .u8 e,.int .u32 s],.slice A1 n1 c1] (w.alloc (.cells #[.int .u8 e,.int .u32 s] 40)) fun ee w'=>∃q t:Value,ee=.returned (.tuple #[q,t,.int .i64 0])∧Kd.R (Kd.int .u32) 38 w' (w.alloc (.cells #[.int .u8 e,.int .u32 s] 40)).heap.size (fun _=>True) q into∧Kd.R (Kd.int .i64) 3 w' (w.alloc (.cells #[.int .u8 e,.int .u32 s] 40)).heap.size (fun _=>True) t sizes∧Below (w.alloc (.cells #[.int .u8 e,.int .u32 s] 40)).heap.size (w.alloc (.cells #[.int .u8 e,.int .u32 s] 40)) w':=by
  have hC:=HCa.out;rw[HN.out]at hC ⊢;exact Qbs.calls k e s A1 c1 l1 into sizes 0 _ hC qq_21 HP.out
 have HPL:=QA hplan;clear hplan;obtain⟨c0,D⟩:=box2 hbn
 go_enter Tryz.func20,Tryz.ntmps20
 go_wp2_with (go_at_call 43;refine HPL.out.mono ?_;rintro ee w2 ⟨vi,vz,rfl,hRi,hRz,hb2⟩;obtain⟨Ai,ci,rfl⟩:=Kd.R_slice hRi)
 have hk2:=Qdy hbn hb2;have HBW:=QA (Qcq hba hba.size hb2);have hlt2:w.heap.size<w2.heap.size:=Qdk hk2;obtain⟨b,hbdef⟩:∃b,b=w2.heap.size:=⟨_,rfl⟩;have hCi:Kd.C (Kd.int .u32) w2 Ai into.length into:=(Kd.R_reads' hRi).2.2;have hcell:∀ {W:World} {a:Addr} {v:Value},Below b w2 W→w2.cell? a=some v→W.cell? a=some v:=fun {W a v} hb h=>(hb.cell (by rw[hbdef];exact World.block_lt_of_cell? w2 _ h)).trans h
 have HCI:=QA hCi;have HK2:=QA hk2;have HBD:=QA hbdef;have hC2:Kd.C k36 w2 A1 n1 l1:=Kd.C_below HCa.out hb2;have E:=QA hC2;obtain⟨ni,hni⟩:∃ni,ni=into.length:=⟨_,rfl⟩;rw[← hni];have HNI:=QA hni;clear hbn hb2 hk2 hRi hRz hCi c0 D hba hbdef hC2 hni
 go_loopw [9,10,27] (fun v9 G I wr=>∃(vo pb:Value) (i:Nat) (iv:Int) (out:List Int) (ob:Option Bd),vo=v9∧pb=G∧I=.int .i64 iv∧Aside0 (iv=(i:Int))∧i≤n1∧Aside0 (encG e s into i (l1.drop i) out ob=some o)∧Aside0 (R8 wr b vo out)∧Aside0 (OpenAt wr b vo pb ob i)∧Aside0 (Below b w2 wr)) (fun _ _ i _=>((n1:Int)-intOf i).toNat)
 case atStart=>exact⟨_,_,0,0,[],none,rfl,rfl,rfl,⟨rfl⟩,Nat.zero_le _,HE,⟨Kd.R_nil _ _ _ _ _⟩,⟨⟨rfl,rfl⟩⟩,⟨Below.refl _ _⟩⟩
 case round =>
  obtain⟨vo,pb,i,iv,out,ob,rfl,rfl,rfl,HI,hin,HG,HO,HOP,HB⟩:=hrel
  by_cases hlt:i<n1
  ·have h0:0≤iv:=by have:=HI.out;omega
   have h1:iv<(n1:Int):=by have:=HI.out;omega
   have hb1:decide (iv<(n1:Int))=true:=decide_eq_true h1;obtain⟨ad,rfl,x0,x1,x2,x3⟩:=Qid E.out iv h0 h1;replace x0:=hcell HB.out x0;replace x1:=hcell HB.out x1;replace x2:=hcell HB.out x2;replace x3:=hcell HB.out x3;obtain⟨r,hr⟩:∃r,r=Qic l1 iv:=⟨_,rfl⟩;rw[← hr]at x0 x1 x2 x3;have hg:encG e s into i (r :: l1.drop (i+1)) out ob=some o:=by
    have h:=HG.out;rw[Qqd qq_21,← HI.out,← hr]at h;exact h
   clear hr;have hi2:i<ni:=by
    rw[HNI.out];unfold encG at hg;split at hg
    ·assumption
    ·cases hg
   by_cases hz:i=0
   ·have hob:ob=none∧pb=.pointer none:=by
     have h:=HOP.out
     cases ob with
     | none=>exact⟨rfl,h.1⟩
     | some B=>obtain⟨_,_,_,_,_,_,_,_,hn⟩:=h;exact absurd hz hn
    obtain⟨rfl,rfl⟩:=hob;have hz0:(iv == 0)=true:=beq_iff_eq.2 (by have:=HI.out;omega);have hiv:iv=((0:Nat):Int):=by have:=HI.out;omega
    unfold encG at hg;rw[if_pos (by rw[← HNI.out];exact hi2)]at hg;dsimp only at hg;rw[if_pos hz]at hg;obtain⟨B,hB1,hg⟩:=Option.bind_eq_some_iff.mp hg;obtain⟨B',hB2',hg⟩:=Option.bind_eq_some_iff.mp hg;rw[← HI.out]at hB1;obtain⟨adi,rfl,y0⟩:=Kd.at_int HCI.out iv h0 (by have:=HNI.out;have:=HI.out;omega);have hci1:iv<(ni:Int):=by have:=HI.out;omega
    obtain⟨k0,k1⟩:=box2 HK2.out;have hb':Below wr.heap.size wr (wr.alloc (.cells #[.bool r.f0,.int .u64 r.f1,.string r.f2,.string r.f3] 36)):=Qcn (Below.refl _ _) _;have hbz:b≤wr.heap.size:=by rw[HBD.out];exact HB.out.size
    have hB3:=HB.out.trans (Qip hb' hbz);have y1:=hcell hB3 y0;have k2:=hcell hB3 k0;have k3:=hcell hB3 k1;have bk:=Qdz wr (.cells #[.bool r.f0,.int .u64 r.f1,.string r.f2,.string r.f3] 36);have HG':=QA hg;have j:=QA hB1;have l:=QA hB2';have HZ:=QA hz;have HIV:=QA hiv;clear hg hB1 hB2' hz hiv y0 k0 k1;go_wp2
    go_quiet (fail)
    obtain⟨W3,hW3⟩:∃W3,W3=(wr.alloc (.cells #[.bool r.f0,.int .u64 r.f1,.string r.f2,.string r.f3] 36)).drewN nq:=⟨_,rfl⟩;have hbq:Below (wr.alloc (.cells #[.bool r.f0,.int .u64 r.f1,.string r.f2,.string r.f3] 36)).heap.size (wr.alloc (.cells #[.bool r.f0,.int .u64 r.f1,.string r.f2,.string r.f3] 36)) W3:=by rw[hW3];exact Qcp (Below.refl _ _) _
    have hB4:Below wr.heap.size wr W3:=Qcq hb' hb'.size hbq;have bk4:=Qdy bk hbq;have z1:=Qcr hbq y1;have z2:=Qcr hbq k2;have z3:=Qcr hbq k3;rw[← hW3];clear hW3 y1 k2 k3 bk hb' hbq hB3;go_wp2
    go_region_held3 (fun w'=>w'.cell? ⟨w.heap.size,0,none⟩=some (.int .u8 e)∧w'.cell? ⟨w.heap.size,1,none⟩=some (.int .u32 s)∧w'.cell? (adi.add iv.toNat)=some (.int .u32 (YtepkfjmjidjedaaGreatW.PrintWords.rd into iv))) (first|exact⟨z2,z3,z1⟩|exact⟨t2,t3,t1⟩) (first
     |(go_at_call 45;refine(Qpw e s (YtepkfjmjidjedaaGreatW.PrintWords.rd into iv) B W3.drew j.out).mono ?_;rintro ee w4 ⟨g,rfl,hIB,hb4,u⟩;have t1:=Qcr hb4 z1;have t2:=Qcr hb4 z2;have t3:=Qcr hb4 z3))
    have bk5:=Qdy (w:=W3.drew) bk4 hb4;obtain⟨q0,q1,q2,q3⟩:=box4 bk5;have hsz4:W3.drew.heap.size≤w4.heap.size:=hb4.size;have HIB:=QA hIB;clear z1 z2 z3 t1 t2 t3 hIB bk4
    go_wp2_with (go_at_call 46;refine(Qpx W3.drew.heap.size g B B' r w4 HIB.out u hsz4 l.out).mono ?_;rintro ee w6 ⟨rfl,hIB6,hb6⟩)
    go_roundw
    case rel =>
     have hw3:wr.heap.size≤W3.drew.heap.size:=hB4.size;have hol:∀k,vo.ownBlock=some k→k<W3.drew.heap.size:=fun k hk=>Nat.lt_of_lt_of_le (Kd.R_lt HO.out k hk) hw3
     have hO3:=R8.kept HO.out hB4;have hO4:R8 w4 b vo out:=R8.kept (W:=W3.drew) hO3 hb4;have hO6:=Qqc hO4 hb6 hol;have hs6:W3.drew.heap.size≤w6.heap.size:=Nat.le_trans hsz4 hb6.size;refine⟨vo,_,i+1,iv+1,out,some B',rfl,rfl,by go_num,⟨by have:=HI.out;omega⟩,hlt,HG',⟨hO6⟩,⟨g,W3.drew.heap.size,rfl,Nat.le_trans hbz hw3,u,hs6,hol,hIB6,by omega⟩,⟨?_⟩⟩;exact HB.out.trans ((Qip hB4 hbz).trans ((Qco (Below.refl _ _)).trans ((Qip hb4 (Nat.le_trans hbz hw3)).trans (Qip hb6 (Nat.le_trans hbz hw3)))))
    case measure=>simp[intOf];omega
   ·obtain⟨B,rfl⟩:∃B,ob=some B:=by
     have h:=HOP.out
     cases ob with
     | none=>exact absurd h.2 hz
     | some B=>exact⟨B,rfl⟩
    obtain⟨g,b2,rfl,hbb2,hb2g,hb2z,hol,hIB0,_⟩:=HOP.out;have HIB0:=QA hIB0;have hz0:(iv == 0)=false:=beq_eq_false_iff_ne.2 (by have:=HI.out;omega);obtain⟨jv,hjv⟩:∃jv,jv=iv-1:=⟨_,rfl⟩;have hj0:0≤jv:=by have:=HI.out;omega
    unfold encG at hg;rw[if_pos (by rw[← HNI.out];exact hi2)]at hg;dsimp only at hg;rw[if_neg hz,← HI.out,← hjv]at hg;have HOL:=QA hol;have HZ:=QA hz;clear hIB0 hol hz HOP
    by_cases heq:YtepkfjmjidjedaaGreatW.PrintWords.rd into iv=YtepkfjmjidjedaaGreatW.PrintWords.rd into jv
    ·rw[if_pos heq]at hg;obtain⟨B',hB2',hg⟩:=Option.bind_eq_some_iff.mp hg;have HG':=QA hg;have l:=QA hB2';have hne:(YtepkfjmjidjedaaGreatW.PrintWords.rd into iv != YtepkfjmjidjedaaGreatW.PrintWords.rd into jv)=false:=by rw[heq];simp
     clear heq hg hB2';obtain⟨adi,rfl,y0⟩:=Kd.at_int HCI.out iv h0 (by have:=HNI.out;have:=HI.out;omega);obtain⟨adj,ej,yj0⟩:=Kd.at_int HCI.out jv hj0 (by have:=HNI.out;have:=HI.out;omega)
     cases ej
     have hci1:iv<(ni:Int):=by have:=HI.out;omega
     have hcj1:jv<(ni:Int):=by omega
     obtain⟨k0,k1⟩:=box2 HK2.out;have hb':Below wr.heap.size wr (wr.alloc (.cells #[.bool r.f0,.int .u64 r.f1,.string r.f2,.string r.f3] 36)):=Qcn (Below.refl _ _) _;have hbz:b≤wr.heap.size:=by rw[HBD.out];exact HB.out.size
     have hB3:=HB.out.trans (Qip hb' hbz);have y1:=hcell hB3 y0;have yj1:=hcell hB3 yj0;have k2:=hcell hB3 k0;have k3:=hcell hB3 k1;have bk:=Qdz wr (.cells #[.bool r.f0,.int .u64 r.f1,.string r.f2,.string r.f3] 36);have HJ:=QA hjv;have hwr:IntKind.i64.wrap (iv-1)=jv:=by rw[IntWalk.i64_in _ (by omega)];exact hjv.symm
     clear hjv y0 yj0 k0 k1;go_wp2
     go_quiet (fail)
     obtain⟨W3,hW3⟩:∃W3,W3=(wr.alloc (.cells #[.bool r.f0,.int .u64 r.f1,.string r.f2,.string r.f3] 36)).drewN nq:=⟨_,rfl⟩;have hbq:Below (wr.alloc (.cells #[.bool r.f0,.int .u64 r.f1,.string r.f2,.string r.f3] 36)).heap.size (wr.alloc (.cells #[.bool r.f0,.int .u64 r.f1,.string r.f2,.string r.f3] 36)) W3:=by rw[hW3];exact Qcp (Below.refl _ _) _
     have hB4:Below wr.heap.size wr W3:=Qcq hb' hb'.size hbq;have bk4:=Qdy bk hbq;have z1:=Qcr hbq y1;have z2:=Qcr hbq k2;have z3:=Qcr hbq k3;rw[← hW3];clear hW3 y1 yj1 k2 k3 bk hb' hbq hB3 hwr;obtain⟨q0,q1,q2,q3⟩:=box4 bk4;have hs3:b2≤W3.heap.size:=Nat.le_trans hb2z hB4.size;have HIB3:=QA (IsBd.kept HIB0.out hB4);clear z1 z2 z3 bk4
     go_wp2_with (go_at_call 46;refine(Qpx b2 g B B' r W3 HIB3.out hb2g hs3 l.out).mono ?_;rintro ee w6 ⟨rfl,hIB6,hb6⟩)
     go_roundw
     case rel =>
      have hO6:=Qqc (R8.kept HO.out hB4) hb6 HOL.out;refine⟨vo,_,i+1,iv+1,out,some B',rfl,rfl,by go_num,⟨by have:=HI.out;omega⟩,hlt,HG',⟨hO6⟩,⟨g,b2,rfl,hbb2,hb2g,Nat.le_trans hs3 hb6.size,HOL.out,hIB6,by omega⟩,⟨?_⟩⟩;exact HB.out.trans ((Qip hB4 hbz).trans (Qip hb6 hbb2))
     case measure=>simp[intOf];omega
    ·rw[if_neg heq]at hg;obtain⟨oo,hseal,hg⟩:=Option.bind_eq_some_iff.mp hg;have hoo:out.length+oo.length≤lim:=by
      apply Decidable.byContradiction;intro hn;rw[if_neg hn]at hg
      cases hg
     rw[if_pos hoo]at hg;obtain⟨B1,hB1,hg⟩:=Option.bind_eq_some_iff.mp hg;obtain⟨B',hB2',hg⟩:=Option.bind_eq_some_iff.mp hg;have HG':=QA hg;have j:=QA hB1;have HBA:=QA hB2';have HSL:=QA hseal;have hoo':out.length+oo.length≤70368744177664:=hoo;have hne:(YtepkfjmjidjedaaGreatW.PrintWords.rd into iv != YtepkfjmjidjedaaGreatW.PrintWords.rd into jv)=true:=by simp[heq]
     clear heq hg hB1 hB2' hseal hoo;obtain⟨adi,rfl,y0⟩:=Kd.at_int HCI.out iv h0 (by have:=HNI.out;have:=HI.out;omega);obtain⟨adj,ej,yj0⟩:=Kd.at_int HCI.out jv hj0 (by have:=HNI.out;have:=HI.out;omega)
     cases ej
     have hci1:iv<(ni:Int):=by have:=HI.out;omega
     have hcj1:jv<(ni:Int):=by omega
     obtain⟨k0,k1⟩:=box2 HK2.out;have hb':Below wr.heap.size wr (wr.alloc (.cells #[.bool r.f0,.int .u64 r.f1,.string r.f2,.string r.f3] 36)):=Qcn (Below.refl _ _) _;have hbz:b≤wr.heap.size:=by rw[HBD.out];exact HB.out.size
     have hB3:=HB.out.trans (Qip hb' hbz);have y1:=hcell hB3 y0;have yj1:=hcell hB3 yj0;have k2:=hcell hB3 k0;have k3:=hcell hB3 k1;have bk:=Qdz wr (.cells #[.bool r.f0,.int .u64 r.f1,.string r.f2,.string r.f3] 36);have HJ:=QA hjv;have hwr:IntKind.i64.wrap (iv-1)=jv:=by rw[IntWalk.i64_in _ (by omega)];exact hjv.symm
     clear hjv yj0;go_wp2
     go_quiet (fail)
     obtain⟨W3,hW3⟩:∃W3,W3=(wr.alloc (.cells #[.bool r.f0,.int .u64 r.f1,.string r.f2,.string r.f3] 36)).drewN nq:=⟨_,rfl⟩;have hbq:Below (wr.alloc (.cells #[.bool r.f0,.int .u64 r.f1,.string r.f2,.string r.f3] 36)).heap.size (wr.alloc (.cells #[.bool r.f0,.int .u64 r.f1,.string r.f2,.string r.f3] 36)) W3:=by rw[hW3];exact Qcp (Below.refl _ _) _
     have hB4:Below wr.heap.size wr W3:=Qcq hb' hb'.size hbq;have bk4:=Qdy bk hbq;have z1:=Qcr hbq y1;have z2:=Qcr hbq k2;have z3:=Qcr hbq k3;rw[← hW3];clear hW3 y1 yj1 k2 k3 bk hb' hbq hB3 hwr z1 z2 z3;have hs3:b2≤W3.heap.size:=Nat.le_trans hb2z hB4.size;have HIB3:=QA (IsBd.kept HIB0.out hB4);have J:=QA (R8.kept HO.out hB4)
     go_wp2_with (first
      |(go_at_call 44;refine(Qqa b2 g B oo W3 HIB3.out hs3 HSL.out).mono ?_;rintro ee w4 ⟨v4,rfl,hR4,hb4⟩;obtain⟨A4,n4,c4,rfl,m,hl4,hC4⟩:=R8.reads hR4;have n:=QA hC4;have d:=QA (R8.kept J.out hb4);have bk5:=Qdy bk4 hb4;clear hR4 hC4 bk4)
      |(at_builtin;go_loud (refine Kd.R_append_rows (Kd.int .u8) (Rr:=fun x cs=>cs=[.int .u8 x]) (w0:=w4) b rfl (.tmp 53) (.tmp 54) 47 5 (.int .u8 0) 1 rfl Tryz.underlying47 Qhx rfl (by decide) (by omega) vo out oo A4 n4 c4 (fun _=>True) (fun _=>False) rfl rfl d.out n.out (fun _ _ h=>h) (fun _ hk=>hk.elim) (fun _ _=>trivial) (Below.refl _ _) (Nat.le_trans hbz (Nat.le_trans hB4.size hb4.size)) ?bL ?_;(case bL=>have:=m.out;omega);intro v5 w5 hR5 hb5 y hat5)))
     have c:=QA (show Below b w2 w5 from((HB.out.trans (Qip hB4 hbz)).trans (Qip hb4 (Nat.le_trans hbz hB4.size))).trans hb5);have bk6:=Qdn bk5 y (R8.clean d.out bk5 (by decide));have z1:=hcell (W:=w5.drew) (c.out.trans (Qco (Below.refl _ _))) y0;have z2:=hcell (W:=w5.drew) (c.out.trans (Qco (Below.refl _ _))) k0;have z3:=hcell (W:=w5.drew) (c.out.trans (Qco (Below.refl _ _))) k1;have z:=QA hR5;have hb5z:b≤w5.drew.heap.size:=by rw[HBD.out];exact c.out.size
     clear hR5 hat5 hb5 hb4 y0 k0 k1 bk5
     go_region_held3 (fun w'=>w'.cell? ⟨w.heap.size,0,none⟩=some (.int .u8 e)∧w'.cell? ⟨w.heap.size,1,none⟩=some (.int .u32 s)∧w'.cell? (adi.add iv.toNat)=some (.int .u32 (YtepkfjmjidjedaaGreatW.PrintWords.rd into iv))) (first|exact⟨z2,z3,z1⟩|exact⟨t2,t3,t1⟩) (first
      |(go_at_call 45;refine(Qpw e s (YtepkfjmjidjedaaGreatW.PrintWords.rd into iv) B1 w5.drew j.out).mono ?_;rintro ee w6 ⟨g6,rfl,hIB,hb6,A⟩;have t1:=Qcr hb6 z1;have t2:=Qcr hb6 z2;have t3:=Qcr hb6 z3))
     have bk7:=Qdy (w:=w5.drew) bk6 hb6;obtain⟨q0,q1,q2,q3⟩:=box4 bk7;have hsz6:w5.drew.heap.size≤w6.heap.size:=hb6.size;have HIB:=QA hIB;clear z1 z2 z3 t1 t2 t3 hIB bk6
     go_wp2_with (go_at_call 46;refine(Qpx w5.drew.heap.size g6 B1 B' r w6 HIB.out A hsz6 HBA.out).mono ?_;rintro ee w7 ⟨rfl,hIB7,hb7⟩)
     go_roundw
     case rel =>
      have hol5:∀k,v5.ownBlock=some k→k<w5.drew.heap.size:=fun k hk=>Kd.R_lt z.out k hk
      have hO6:R8 w6 b v5 (out++oo):=R8.kept (W:=w5.drew) z.out hb6;have hO7:=Qqc hO6 hb7 hol5;refine⟨v5,_,i+1,iv+1,out++oo,some B',rfl,rfl,by go_num,⟨by have:=HI.out;omega⟩,hlt,HG',⟨hO7⟩,⟨g6,w5.drew.heap.size,rfl,hb5z,A,Nat.le_trans hsz6 hb7.size,hol5,hIB7,by omega⟩,⟨?_⟩⟩;exact c.out.trans ((Qco (Below.refl _ _)).trans ((Qip hb6 hb5z).trans (Qip hb7 hb5z)))
     case measure=>simp[intOf];omega
  ·have hin':i=n1:=by omega
   have hge:¬iv<(n1:Int):=by have:=HI.out;omega
   have hb1:decide (iv<(n1:Int))=false:=decide_eq_false hge;have hbz:b≤wr.heap.size:=by rw[HBD.out];exact HB.out.size
   have hwb:w.heap.size≤b:=by rw[HBD.out];omega
   have hg:encG e s into i [] out ob=some o:=by
    have h:=HG.out;rw[List.drop_of_length_le qq_21]at h;exact h
   cases ob with
   | none =>
    obtain⟨rfl,_⟩:=HOP.out;simp only[encG]at hg;have ho:out=o:=Option.some.inj hg;have HOO:=QA ho;clear ho hg HOP hin';go_wp2;refine bodyPost_ret (results_tmp2 rfl _ _ _) rfl ?_;refine⟨_,rfl,?_,HBW.out.trans (Qip HB.out hwb)⟩;rw[← HOO.out];exact R8.low HO.out hwb
   | some B =>
    obtain⟨g,b2,rfl,hbb2,hb2g,hb2z,hol,hIB0,_⟩:=HOP.out;simp only[encG]at hg;obtain⟨oo,hopen,hg⟩:=Option.bind_eq_some_iff.mp hg;have hoo:out.length+oo.length≤lim:=by
     apply Decidable.byContradiction;intro hn;rw[if_neg hn]at hg
     cases hg
    rw[if_pos hoo]at hg;have hoo':out.length+oo.length≤70368744177664:=hoo;have ho:out++oo=o:=Option.some.inj hg;have HOO:=QA ho;have HOPN:=QA hopen;have HIB0:=QA hIB0;clear ho hg HOP hin' hopen hIB0 hol hoo
    go_wp2_with (first
     |(go_at_call 47;refine(Qqb b2 g B oo wr HIB0.out hb2z HOPN.out).mono ?_;rintro ee w4 ⟨v4,rfl,hR4,hb4⟩;obtain⟨A4,n4,c4,rfl,m,hl4,hC4⟩:=R8.reads hR4;have n:=QA hC4;have d:=QA (R8.kept HO.out hb4);clear hR4 hC4)
     |(at_builtin;go_loud (refine Kd.R_append_rows (Kd.int .u8) (Rr:=fun x cs=>cs=[.int .u8 x]) (w0:=w4) b rfl (.tmp 71) (.tmp 73) 47 5 (.int .u8 0) 1 rfl Tryz.underlying47 Qhx rfl (by decide) (by omega) vo out oo A4 n4 c4 (fun _=>True) (fun _=>False) rfl rfl d.out n.out (fun _ _ h=>h) (fun _ hk=>hk.elim) (fun _ _=>trivial) (Below.refl _ _) (Nat.le_trans hbz hb4.size) ?bL ?_;(case bL=>have:=m.out;omega);intro v5 w5 hR5 hb5 y hat5)))
    refine bodyPost_ret (results_tmp2 rfl _ _ _) rfl ?_;refine⟨_,rfl,?_,HBW.out.trans (Qip ((HB.out.trans (Qip hb4 hbz)).trans hb5) hwb)⟩;rw[← HOO.out];exact R8.low hR5 hwb
theorem enc_not(k:Nat)(e s er:Int)(A1:Option Addr)(c1 n1:Nat)(l1:List Rec)(into sizes:List Int)(w:World)(a:n1=l1.length)(hr1:Kd.C k36 w A1 n1 l1)(hc1:n1≤c1)
  (hp:Qbs.f k e s l1=some (into,sizes,er)) (her:er≠0) :
  Calls Tryz.prog 20 #[.agg #[.int .u8 e,.int .u32 s],.slice A1 n1 c1] w fun ee w'=>∃v,ee=.returned (.tuple #[v,.int .i64 er])∧R8 w' w.heap.size v []∧Below w.heap.size w w':=by
 have hu:=Tryz.underlying40;have HN:=QA a;have HC:=QA hr1;have HP:=QA hp;have hnb:(er == 0)=false:=beq_eq_false_iff_ne.2 her;have hnc:(er != 0)=true:=bne_iff_ne.2 her;clear a hr1 hp her;have hba:Below w.heap.size w (w.alloc (.cells #[.int .u8 e,.int .u32 s] 40)):=Qcn (Below.refl _ _) _;have hbn:=Qdz w (.cells #[.int .u8 e,.int .u32 s] 40);have HCa:=QA (Kd.C_alloc HC.out (.cells #[.int .u8 e,.int .u32 s] 40));have hplan:Calls Tryz.prog 43 #[.agg #[.int .u8 e,.int .u32 s],.slice A1 n1 c1] (w.alloc (.cells #[.int .u8 e,.int .u32 s] 40)) fun ee w'=>∃b c:Value,ee=.returned (.tuple #[b,c,.int .i64 er])∧Below (w.alloc (.cells #[.int .u8 e,.int .u32 s] 40)).heap.size (w.alloc (.cells #[.int .u8 e,.int .u32 s] 40)) w':=by
  have hC:=HCa.out;rw[HN.out]at hC ⊢;exact(Qbs.calls k e s A1 c1 l1 into sizes er _ hC qq_21 HP.out).mono fun _ _ ⟨v0,v1,h1,_,_,h4⟩=>⟨v0,v1,h1,h4⟩
 have HPL:=QA hplan;clear hplan;obtain⟨c0,d⟩:=box2 hbn
 go_enter Tryz.func20,Tryz.ntmps20
 go_wp2_with (go_at_call 43;refine HPL.out.mono ?_;rintro ee w2 ⟨vi,vz,rfl,hb2⟩)
 refine bodyPost_ret (results_tmp2 rfl _ _ _) rfl ?_;exact⟨_,rfl,Kd.R_nil _ _ _ _ _,Qcq hba hba.size hb2⟩
theorem Qbr.calls(k:Nat)(a0_0:Int)(a0_1:Int)(A1:Option Addr)(c1:Nat)(l1:List S36)(r1:List Int)(r2:Int)(w:World)(hr1:Kd.C k36 w A1 l1.length l1)(hc1:l1.length≤c1)(h:Qbr.f k a0_0 a0_1 l1=some (r1,r2)) :
  Calls Tryz.prog 20 #[.agg #[.int .u8 a0_0,.int .u32 a0_1],.slice A1 l1.length c1] w fun e w'=>∃v0_:Value,e=.returned (.tuple #[v0_,.int .i64 r2])∧Kd.R (Kd.int .u8) 5 w' w.heap.size (fun _=>True) v0_ r1∧Below w.heap.size w w':=by
 unfold Qbr.f at h;obtain⟨⟨into,sizes,er⟩,hp,h⟩:=Option.bind_eq_some_iff.mp h;dsimp only at h
 by_cases her:er=0
 ·subst her;rw[if_pos rfl]at h
  by_cases hl:l1.length≤1099511627776
  ·rw[if_pos hl]at h;obtain⟨o,ho,h⟩:=Option.bind_eq_some_iff.mp h;simp only[Option.some.injEq,Prod.mk.injEq]at h;obtain⟨rfl,rfl⟩:=h;exact enc_of k a0_0 a0_1 A1 c1 l1.length l1 into sizes _ w rfl hr1 hc1 hl hp ho
  ·rw[if_neg hl]at h;cases h
 ·rw[if_neg her]at h;simp only[Option.some.injEq,Prod.mk.injEq]at h;obtain⟨rfl,rfl⟩:=h;exact enc_not k a0_0 a0_1 _ A1 c1 l1.length l1 into sizes w rfl hr1 hc1 hp her
def recA:Rec:=⟨false,0,⟨#[97]⟩,⟨#[]⟩⟩
def frA:List Int:=match Qbn.f false 0 ⟨#[97]⟩ ⟨#[]⟩with|some p=>p.1|none=>[]
def oA:List Int:=h12++frA++List.replicate (4096-(h12++frA).length) 255
theorem encA0:Qbr.f 9 12 1 []=some ([],0):=by kernel_rfl
theorem encA1:Qbr.f 40 12 1 [recA]=some (oA,0):=by kernel_rfl
theorem oA_len:oA.length=4096:=by kernel_rfl
def Qat.f:Option Bool:=some true
theorem Qat.calls(r:Bool)(w:World)(h:Qat.f=some r) :
  Calls Tryz.prog 42 #[] w fun e w'=>e=.returned (.bool r)∧Below w.heap.size w w':=by
 obtain rfl:=Option.some.inj h;have hu:=Tryz.underlying40;have hu2:=Tryz.underlying36;have bn:=Qdz w (.cells #[.int .u8 12,.int .u32 1] 40);have hb0:Below w.heap.size w (w.alloc (.cells #[.int .u8 12,.int .u32 1] 40)):=Qcn (Below.refl _ _) _;obtain⟨c0,c1⟩:=box2 bn;have hnil:∀W:World,Kd.C k36 W none ([]:List Rec).length []:=fun W=>Kd.C_nil _ W
 have HNIL:=QA hnil;have hone:∀W:World,Kd.C k36 (W.alloc (.cells #[.bool false,.int .u64 0,.string ⟨#[97]⟩,.string ⟨#[]⟩] 36)) (some ⟨W.heap.size,0,none⟩) [recA].length [recA]:=fun W=>by
  have hR:Kd.R k36 36 (W.alloc (.cells #[.bool false,.int .u64 0,.string ⟨#[97]⟩,.string ⟨#[]⟩] 36)) W.heap.size (fun _=>True) (.slice (some ⟨W.heap.size,0,none⟩) 1 1) [recA]:=by
   refine⟨fun _ _=>trivial,[.bool false,.int .u64 0,.string ⟨#[97]⟩,.string ⟨#[]⟩],World.ownsRow_lit (base:=W.heap.size) (e:=36) (size:=4) W #[.bool false,.int .u64 0,.string ⟨#[97]⟩,.string ⟨#[]⟩] 1 (Nat.le_refl _) (by decide) rfl,rfl,fun j p hj=>?_⟩;obtain⟨hj1,rfl⟩:=List.getElem?_eq_some_iff.1 hj;obtain rfl:j=0:=by simpa using hj1
   exact Qib _ _ _ recA
  exact(Kd.R_reads' hR).2.2
 have HONE:=QA hone;clear hnil hone
 go_enter Tryz.func42,Tryz.ntmps42
 go_wp2_with (first
  |(go_at_call_of 20 (Value.slice none 0 0);refine(Qbr.calls 9 12 1 none 0 [] [] 0 _ (HNIL.out _) (Nat.le_refl _) encA0).mono ?_;rintro e w1 ⟨v1,rfl,hR1,hb1⟩;obtain⟨A1,n1,g,rfl,c,hl1,hC1⟩:=R8.reads hR1;have a:n1=0:=c.out;subst a;have bk1:=Qdy bn hb1;clear c0 c1;obtain⟨c0,c1⟩:=box2 bk1)
  |(go_at_call 20;go_loud (refine(Qbr.calls 40 12 1 (some ⟨w1.heap.size,0,none⟩) 1 [recA] oA 0 _ (HONE.out w1) (Nat.le_refl _) encA1).mono ?_;rintro e w2 ⟨v2,rfl,hR2,hb2⟩;obtain⟨A2,n2,c2,rfl,d,hl2,hC2⟩:=R8.reads hR2;have b:n2=4096:=d.out.trans oA_len;subst b))
  |(go_at_call 81;refine(Qas.calls true _ rfl).mono ?_;rintro e w3 ⟨rfl,hb3⟩))
 go_ret
 have hb12:=(Qcq hb0 hb0.size hb1);have hz1:w.heap.size≤w1.heap.size:=hb12.size;have hb2':Below w1.heap.size w1 w2:=Qcq (Qcn (Below.refl _ _) _) (by rw[World.size_alloc];omega) hb2;exact⟨rfl,Qcq (Qcq hb12 hz1 hb2') (Nat.le_trans hz1 hb2'.size) hb3⟩
end Go.Proofs.YtepkfjmjidjedaaGreat.C
end
section
namespace Go.Proofs.YtepkfjmjidjedaaGreat.C
open Go.RowKit Go.Proofs.YtepkfjmjidjedaaGreatW.PrintWords Go.Proofs.YtepkfjmjidjedaaGreatW.PrintLast Go.Proofs.YtepkfjmjidjedaaGreatW.PrintMore
attribute [local go_sem] Qhj Qhk Qhl Qhm Qhn Qho Qhp Qhq
def Qbv.f(k:Nat)(a0_0:Int)(a0_1:Int)(l1:List Int):Option (List Int × Int × Int):=(Qal.f a0_0 a0_1).bind fun t237=>(if t237=0 then((Qao.f l1).bind fun bt238=>(if bt238.2.2=0 then((Qbu.f k bt238.1).bind fun t243=>((Qbr.f k a0_0 a0_1 t243).bind fun bt246=>(some (bt246.1,0,bt246.2))))else(some (([]:List Int),bt238.2.1,bt238.2.2))))else(some (([]:List Int),0,t237)))
def Qbv.T7:Bool × List (List Nat × List Nat):=(true,[([],[]),([],[]),([1],[1]),([0,2,2],[0,2]),([3],[3]),([4],[4]),([4],[4]),([5,3,0,1,2,3,4,5],[5]),([6,7,0,1,2,3,4,5,6,7],[6])])
def Qbv.B7:List Nat:=[0,0,2,7,15,31,31,63,255]
theorem Qbv.tab7:rtab .any (Qhf Tryz.f60 7)=Qbv.T7:=by kernel_rfl
theorem Qbv.bits7:Qgz Qbv.T7.2 Qbv.B7=true:=by kernel_rfl
theorem Qbv.calls(k:Nat)(b:Int)(c:Int)(A1:Option Addr)(c1:Nat)(l1:List Int)(r1:List Int)(r2:Int)(r3:Int)(w:World)(hr1:Kd.C (Kd.int .u8) w A1 l1.length l1)(hc1:l1.length≤c1)(h:Qbv.f k b c l1=some (r1,r2,r3)) :
  Calls Tryz.prog 60 #[.agg #[.int .u8 b,.int .u32 c],.slice A1 l1.length c1] w fun e w'=>∃B:Value,e=.returned (.tuple #[B,.int .i64 r2,.int .i64 r3])∧Kd.R (Kd.int .u8) 5 w' w.heap.size (fun _=>True) B r1∧Below w.heap.size w w':=by
 have hu40:=Tryz.underlying40;have D:=QA hr1;have E:=QA hc1;clear hr1 hc1;have HB:=QA (Below.refl w.heap.size w);have H:((Qal.f b c).bind fun l=>(if l=0 then((Qao.f l1).bind fun bt238=>(if bt238.2.2=0 then((Qbu.f k bt238.1).bind fun r=>((Qbr.f k b c r).bind fun bt246=>(some (bt246.1,0,bt246.2))))else(some (([]:List Int),bt238.2.1,bt238.2.2))))else(some (([]:List Int),0,l))))=some (r1,r2,r3):=h;clear h;replace H:=Option.bind_eq_some_iff.mp H;obtain⟨l,G,H⟩:=H;have A3:=QA G;clear G
 by_cases c4:l=0
 ·rw[if_pos c4]at H;have M:(l == 0)=true:=beq_iff_eq.mpr c4;have O:(l != 0)=false:=bne_eq_false_iff_eq.mpr c4;clear c4;replace H:=Option.bind_eq_some_iff.mp H;obtain⟨⟨t,u,m⟩,I,H⟩:=H;replace H:(if m=0 then((Qbu.f k t).bind fun r=>((Qbr.f k b c r).bind fun bt246=>(some (bt246.1,0,bt246.2))))else(some (([]:List Int),u,m)))=some (r1,r2,r3):=H;have A5:=QA I;clear I
  by_cases c6:m=0
  ·rw[if_pos c6]at H;have P:(m == 0)=true:=beq_iff_eq.mpr c6;have T:(m != 0)=false:=bne_eq_false_iff_eq.mpr c6;clear c6;replace H:=Option.bind_eq_some_iff.mp H;obtain⟨r,J,H⟩:=H;have A7:=QA J;clear J;replace H:=Option.bind_eq_some_iff.mp H;obtain⟨⟨y,z⟩,L,H⟩:=H;replace H:(some (y,0,z))=some (r1,r2,r3):=H;have A8:=QA L;clear L;simp only[Option.some.injEq,Prod.mk.injEq]at H;obtain⟨rfl,rfl,rfl⟩:=H
   go_enter Tryz.func60,Tryz.ntmps60
   try go_wp2_with (first |((with_reducible refine Qfe (N:=2) rfl ?_);refine qq_e 2 #[.int .u8 b,.int .u32 c] 40 ?_;intro d hg w9 hbox hb;have n_:=qn4 (Qeu qq_b hb) (hbox) (qq_s hg:w.heap.size≤d) (qq_s hg:w.heap.size≤d);clear HB;obtain⟨HB,a,v,x⟩:=n_;clear hb hbox hg;obtain⟨W,X⟩:=qc2 a.out;have ad:=Qdm a.out) |((with_reducible refine Qhr (f:=82) rfl ?_);refine Qfz (some 11) rfl rfl Tryz.func82 qq_6 rfl #[.agg #[.int .u8 b,.int .u32 c]] rfl qq_2 ?_;(with_reducible refine(Qal.calls b c l _ A3.out).mono ?_);rintro e ai ⟨rfl,hb⟩;refine⟨_,rfl,?_⟩;have n_:=qn2 (Qdy (g:=d) (o:=.cells #[.int .u8 b,.int .u32 c] 40 (0,0)) qq_0 hb) (Qeu qq_b hb);clear a HB;obtain⟨a,HB⟩:=n_;(try clear hb);(try clear hb2);(try clear hk);(try clear hi)) |((with_reducible refine Qhr (f:=113) rfl ?_);refine Qfz (some 17) rfl rfl Tryz.func113 qq_6 rfl #[.slice A1 l1.length c1] rfl qq_2 ?_;(with_reducible refine(Qao.calls _ _ l1 t u m _ ?side1 ?side2 A5.out).mono ?_);(case side1=>repeat(first|exact(Kd.C_below D.out HB.out) |(with_reducible refine Kd.C_alloc ?_ _) |(with_reducible refine Kd.C_drewN ?_ _) |(with_reducible refine Kd.C_drew ?_)));(case side2=>exact E.out);rintro e ac ⟨U,rfl,p,hb⟩;refine⟨_,rfl,?_⟩;have n_:=qn3 (Kd.R_lower p (Qet qq_b)) (Qdy (g:=d) (o:=.cells #[.int .u8 b,.int .u32 c] 40 (0,0)) qq_0 hb) (Qeu qq_b hb);clear a HB;obtain⟨j,a,HB⟩:=n_;(try clear hb);(try clear hb2);(try clear hk);(try clear hi);(try clear p)))
   have n_:=qn3 (Kd.R_drew j.out) (Qdw a.out) (Qfb HB.out);clear j a HB;obtain⟨j,a,HB⟩:=n_;obtain⟨Ao14,co14,eo14⟩:=Kd.R_slice j.out
   (first|subst eo14 |(injection eo14 with f1_ f2_ f3_;have f4_:=f1_.symm;have f5_:=f3_.symm;clear f1_ f2_ f3_;subst f4_;subst f5_))
   refine Qfp (n:=9) (S:=fun w'=>w'.cell? ⟨d,0,none⟩=some (.int .u8 b)∧w'.cell? ⟨d,1,none⟩=some (.int .u32 c)) (ds:=[]) (bm 9 0) qq_6 rfl rfl ⟨(Qdl a.out 0).trans rfl,(Qdl a.out 1).trans rfl⟩ (fun s=>?_);refine Qhd Qbv.tab7 Qbv.bits7 (fun HT_ HW_=>?_);generalize ac.drew=w13 at j a HB s ⊢;refine pz_ (i:=1) (N:=some 27) (bm 9 2) (Qgw HT_.out qq_6) ?_;refine tz_ (i:=0) (N:=some 26) (bm 9 3) (Qhc HT_.out HW_.out qq_6) s ?_;refine one_ (i:=2) (N:=some 28) (bm 9 7) rfl rfl (Qgx HT_.out qq_6) (by decide) (fun K hK=>?_);refine Qfy Tryz.func114 qq_6 rfl #[.slice Ao14 t.length co14] (by rfl) rfl rfl qq_2 ?_;with_reducible refine(Qbu.calls k _ _ t r _ ?side1 ?side2 A7.out).mono ?_
   (case side1=>repeat(first|exact(Kd.R_reads' j.out).2.2 |(with_reducible refine Kd.C_alloc ?_ _) |(with_reducible refine Kd.C_drewN ?_ _) |(with_reducible refine Kd.C_drew ?_)))
   (case side2=>exact(Kd.R_reads' j.out).2.1)
   rintro e aj ⟨ag,rfl,p,hb⟩;refine⟨_,rfl,?_⟩;have n_:=qn4 (Kd.R_below (by(with_reducible repeat(first|apply Kd.R_alloc|apply Kd.R_drewN|apply Kd.R_drew));exact j.out) hb) (Kd.R_lower p (Qet qq_b)) (Qdy (g:=d) (o:=.cells #[.int .u8 b,.int .u32 c] 40 (0,0)) qq_0 hb) (Qeu qq_b hb);clear j a HB;obtain⟨j,q,a,HB⟩:=n_
   (try clear hb)
   (try clear hb2)
   (try clear hk)
   (try clear hi)
   (try clear p)
   obtain⟨Ao16,co16,eo16⟩:=Kd.R_slice q.out
   (first|subst eo16 |(injection eo16 with f1_ f2_ f3_;have f4_:=f1_.symm;have f5_:=f3_.symm;clear f1_ f2_ f3_;subst f4_;subst f5_))
   refine hK.out _ _ ⟨(Qdl a.out 0).trans rfl,(Qdl a.out 1).trans rfl⟩ (fun s=>?_);clear hK K;refine nzp_ 28 ?_;refine one_ (i:=3) (N:=some 29) (bm 9 15) rfl rfl (Qgx HT_.out qq_6) (by decide) (fun K hK=>?_);refine Qfy Tryz.func20 qq_6 rfl #[.agg #[.int .u8 b,.int .u32 c],.slice Ao16 r.length co16] (by rfl) rfl rfl qq_2 ?_;with_reducible refine(Qbr.calls k b c _ _ r y z _ ?side1 ?side2 A8.out).mono ?_
   (case side1=>repeat(first|exact(Kd.R_reads' q.out).2.2 |(with_reducible refine Kd.C_alloc ?_ _) |(with_reducible refine Kd.C_drewN ?_ _) |(with_reducible refine Kd.C_drew ?_)))
   (case side2=>exact(Kd.R_reads' q.out).2.1)
   rintro e ak ⟨ah,rfl,p,hb⟩;refine⟨_,rfl,?_⟩;have n_:=qn5 (Kd.R_below (by(with_reducible repeat(first|apply Kd.R_alloc|apply Kd.R_drewN|apply Kd.R_drew));exact j.out) hb) (Kd.R_below (by(with_reducible repeat(first|apply Kd.R_alloc|apply Kd.R_drewN|apply Kd.R_drew));exact q.out) hb) (Kd.R_lower p (Qet qq_b)) (Qdy (g:=d) (o:=.cells #[.int .u8 b,.int .u32 c] 40 (0,0)) qq_0 hb) (Qeu qq_b hb);clear j q a HB;obtain⟨j,q,A,a,HB⟩:=n_
   (try clear hb)
   (try clear hb2)
   (try clear hk)
   (try clear hi)
   (try clear p)
   refine hK.out _ _ ⟨(Qdl a.out 0).trans rfl,(Qdl a.out 1).trans rfl⟩ (fun s=>?_);clear hK K;refine nzp_ 29 ?_;refine pz_ (i:=4) (N:=some 25) (bm 9 31) (Qgw HT_.out qq_6) ?_;refine pz_ (i:=5) (N:=some 30) (bm 9 63) (Qgw HT_.out qq_6) ?_;refine pz_ (i:=6) (N:=some 31) (bm 9 127) (Qgw HT_.out qq_6) ?_;refine pz_ (i:=7) (N:=some 4) (bm 9 255) (Qgw HT_.out qq_6) ?_;refine pz_ (i:=8) (N:=some 6) (bm 9 511) (Qgw HT_.out qq_6) ?_;refine Qfs (Qgy HT_.out qq_6) ?_
   try go_wp2
   go_ret3
   exact⟨_,by first|rfl |(simp[Qhv,Qhw]<;>rfl) |(simp[*,Qhv,Qhw]<;>rfl),by(with_reducible repeat(first|apply Kd.R_alloc|apply Kd.R_drewN|apply Kd.R_drew));exact A.out,qq_b⟩
  ·rw[if_neg c6]at H;have P:(m == 0)=false:=beq_eq_false_iff_ne.mpr c6;have T:(m != 0)=true:=bne_iff_ne.mpr c6;simp only[Option.some.injEq,Prod.mk.injEq]at H;obtain⟨rfl,rfl,rfl⟩:=H
   go_enter Tryz.func60,Tryz.ntmps60
   go_wp2_with (first |((with_reducible refine Qfe (N:=2) rfl ?_);refine qq_e 2 #[.int .u8 b,.int .u32 c] 40 ?_;intro d hg al hbox hb;have n_:=qn4 (Qeu qq_b hb) (hbox) (qq_s hg:w.heap.size≤d) (qq_s hg:w.heap.size≤d);clear HB;obtain⟨HB,a,v,x⟩:=n_;clear hb hbox hg;obtain⟨Y,Z⟩:=qc2 a.out;have ae:=Qdm a.out) |((with_reducible refine Qhr (f:=82) rfl ?_);refine Qfz (some 11) rfl rfl Tryz.func82 qq_6 rfl #[.agg #[.int .u8 b,.int .u32 c]] rfl qq_2 ?_;(with_reducible refine(Qal.calls b c l _ A3.out).mono ?_);rintro e am ⟨rfl,hb⟩;refine⟨_,rfl,?_⟩;have n_:=qn2 (Qdy (g:=d) (o:=.cells #[.int .u8 b,.int .u32 c] 40 (0,0)) qq_0 hb) (Qeu qq_b hb);clear a HB;obtain⟨a,HB⟩:=n_;(try clear hb);(try clear hb2);(try clear hk);(try clear hi)) |((with_reducible refine Qhr (f:=113) rfl ?_);refine Qfz (some 17) rfl rfl Tryz.func113 qq_6 rfl #[.slice A1 l1.length c1] rfl qq_2 ?_;(with_reducible refine(Qao.calls _ _ l1 t u m _ ?side1 ?side2 A5.out).mono ?_);(case side1=>repeat(first|exact(Kd.C_below D.out HB.out) |(with_reducible refine Kd.C_alloc ?_ _) |(with_reducible refine Kd.C_drewN ?_ _) |(with_reducible refine Kd.C_drew ?_)));(case side2=>exact E.out);rintro e an ⟨U,rfl,p,hb⟩;refine⟨_,rfl,?_⟩;have n_:=qn3 (Kd.R_lower p (Qet qq_b)) (Qdy (g:=d) (o:=.cells #[.int .u8 b,.int .u32 c] 40 (0,0)) qq_0 hb) (Qeu qq_b hb);clear a HB;obtain⟨j,a,HB⟩:=n_;(try clear hb);(try clear hb2);(try clear hk);(try clear hi);(try clear p)))
   go_ret3
   exact⟨_,by first|rfl |(simp[Qhv,Qhw]<;>rfl) |(simp[*,Qhv,Qhw]<;>rfl),by first|exact Kd.R_nil _ _ _ _ _|exact Kd.N_nil _ _ _ _ _|exact Kd.V_nil _ _ _ _ _|exact Kd.Q_nil _ _ _ _ _|exact Kd.S_nil _ _ _ _ _,qq_b⟩
 ·rw[if_neg c4]at H;have M:(l == 0)=false:=beq_eq_false_iff_ne.mpr c4;have O:(l != 0)=true:=bne_iff_ne.mpr c4;simp only[Option.some.injEq,Prod.mk.injEq]at H;obtain⟨rfl,rfl,rfl⟩:=H
  go_enter Tryz.func60,Tryz.ntmps60
  go_wp2_with (first |((with_reducible refine Qfe (N:=2) rfl ?_);refine qq_e 2 #[.int .u8 b,.int .u32 c] 40 ?_;intro d hg ao hbox hb;have n_:=qn4 (Qeu qq_b hb) (hbox) (qq_s hg:w.heap.size≤d) (qq_s hg:w.heap.size≤d);clear HB;obtain⟨HB,a,v,x⟩:=n_;clear hb hbox hg;obtain⟨aa,ab⟩:=qc2 a.out;have af:=Qdm a.out) |((with_reducible refine Qhr (f:=82) rfl ?_);refine Qfz (some 11) rfl rfl Tryz.func82 qq_6 rfl #[.agg #[.int .u8 b,.int .u32 c]] rfl qq_2 ?_;(with_reducible refine(Qal.calls b c l _ A3.out).mono ?_);rintro e ap ⟨rfl,hb⟩;refine⟨_,rfl,?_⟩;have n_:=qn2 (Qdy (g:=d) (o:=.cells #[.int .u8 b,.int .u32 c] 40 (0,0)) qq_0 hb) (Qeu qq_b hb);clear a HB;obtain⟨a,HB⟩:=n_;(try clear hb);(try clear hb2);(try clear hk);(try clear hi)))
  go_ret3
  exact⟨_,by first|rfl |(simp[Qhv,Qhw]<;>rfl) |(simp[*,Qhv,Qhw]<;>rfl),by first|exact Kd.R_nil _ _ _ _ _|exact Kd.N_nil _ _ _ _ _|exact Kd.V_nil _ _ _ _ _|exact Kd.Q_nil _ _ _ _ _|exact Kd.S_nil _ _ _ _ _,qq_b⟩
def Qav.f(k:Nat)  : Option (Bool):=(Qbv.f k 12 1 ([]:List Int)).bind fun bt250=>((Qat.f).bind fun t255=>(if t255=true then(if(bt250.1.length:Int)=0 then(if bt250.2.1=0 then(some (bt250.2.2 == 0))else(some false))else(some false))else(some false)))
theorem Qav.calls(k:Nat) (r:Bool)(w:World)(h:Qav.f k  = some r) :
  Calls Tryz.prog 32 #[] w fun e w'=>e=.returned (.bool r)∧Below w.heap.size w w':=by
 have hu40:=Tryz.underlying40;have HB:=QA (Below.refl w.heap.size w);have H:((Qbv.f k 12 1 ([]:List Int)).bind fun bt250=>((Qat.f).bind fun g=>(if g=true then(if(bt250.1.length:Int)=0 then(if bt250.2.1=0 then(some (bt250.2.2 == 0))else(some false))else(some false))else(some false))))=some r:=h;clear h;replace H:=Option.bind_eq_some_iff.mp H;obtain⟨⟨b,c,j⟩,m,H⟩:=H;replace H:((Qat.f).bind fun g=>(if g=true then(if(b.length:Int)=0 then(if c=0 then(some (j == 0))else(some false))else(some false))else(some false)))=some r:=H;have A1:=QA m;clear m;replace H:=Option.bind_eq_some_iff.mp H;obtain⟨g,n,H⟩:=H;have A2:=QA n;clear n
 by_cases c3:g=true
 ·subst c3;rw[if_pos rfl]at H
  by_cases c4:(b.length:Int)=0
  ·rw[if_pos c4]at H;have o:((b.length:Int) == 0)=true:=beq_iff_eq.mpr c4;have p:((b.length:Int) != 0)=false:=bne_eq_false_iff_eq.mpr c4;clear c4
   by_cases c5:c=0
   ·rw[if_pos c5]at H;have q:(c == 0)=true:=beq_iff_eq.mpr c5;have s:(c != 0)=false:=bne_eq_false_iff_eq.mpr c5;clear c5;obtain rfl:=Option.some.inj H
    go_enter Tryz.func32,Tryz.ntmps32
    go_wp2_with (first |((with_reducible refine Qhr (f:=60) rfl ?_);refine Qfz (some 6) rfl rfl Tryz.func60 qq_6 rfl #[.agg #[.int .u8 12,.int .u32 1],.slice none 0 0] rfl qq_2 ?_;(refine(Qbv.calls k 12 1 _ _ ([]:List Int) b c j _ ?side1 ?side2 A1.out).mono ?_);(case side1=>exact Kd.C_nil _ _);(case side2=>exact Nat.le_refl _);rintro e w6 ⟨l,rfl,d,hb⟩;refine⟨_,rfl,?_⟩;have n_:=qn2 (Kd.R_lower d (Qet qq_b)) (Qeu qq_b hb);clear HB;obtain⟨a,HB⟩:=n_;(try clear hb);(try clear hb2);(try clear hk);(try clear hi);(try clear d)) |((with_reducible refine Qhr (f:=42) rfl ?_);refine Qfz (some 10) rfl rfl Tryz.func42 qq_6 rfl #[] rfl qq_2 ?_;(with_reducible refine(Qat.calls  true _ A2.out).mono ?_);rintro e w7 ⟨rfl,hb⟩;refine⟨_,rfl,?_⟩;have n_:=qn2 (Kd.R_below qq_9 hb) (Qeu qq_b hb);clear a HB;obtain⟨a,HB⟩:=n_;(try clear hb);(try clear hb2);(try clear hk);(try clear hi);obtain⟨Ao8,co8,eo8⟩:=Kd.R_slice a.out;subst eo8))
    go_ret
    exact⟨qq_5,qq_b⟩
   ·rw[if_neg c5]at H;have q:(c == 0)=false:=beq_eq_false_iff_ne.mpr c5;have s:(c != 0)=true:=bne_iff_ne.mpr c5;obtain rfl:=Option.some.inj H
    go_enter Tryz.func32,Tryz.ntmps32
    go_wp2_with (first |((with_reducible refine Qhr (f:=60) rfl ?_);refine Qfz (some 6) rfl rfl Tryz.func60 qq_6 rfl #[.agg #[.int .u8 12,.int .u32 1],.slice none 0 0] rfl qq_2 ?_;(refine(Qbv.calls k 12 1 _ _ ([]:List Int) b c j _ ?side1 ?side2 A1.out).mono ?_);(case side1=>exact Kd.C_nil _ _);(case side2=>exact Nat.le_refl _);rintro e w9 ⟨l,rfl,d,hb⟩;refine⟨_,rfl,?_⟩;have n_:=qn2 (Kd.R_lower d (Qet qq_b)) (Qeu qq_b hb);clear HB;obtain⟨a,HB⟩:=n_;(try clear hb);(try clear hb2);(try clear hk);(try clear hi);(try clear d)) |((with_reducible refine Qhr (f:=42) rfl ?_);refine Qfz (some 10) rfl rfl Tryz.func42 qq_6 rfl #[] rfl qq_2 ?_;(with_reducible refine(Qat.calls  true _ A2.out).mono ?_);rintro e u ⟨rfl,hb⟩;refine⟨_,rfl,?_⟩;have n_:=qn2 (Kd.R_below qq_9 hb) (Qeu qq_b hb);clear a HB;obtain⟨a,HB⟩:=n_;(try clear hb);(try clear hb2);(try clear hk);(try clear hi);obtain⟨Ao11,co11,eo11⟩:=Kd.R_slice a.out;subst eo11))
    go_ret
    exact⟨qq_5,qq_b⟩
  ·rw[if_neg c4]at H;have o:((b.length:Int) == 0)=false:=beq_eq_false_iff_ne.mpr c4;have p:((b.length:Int) != 0)=true:=bne_iff_ne.mpr c4;have t:¬(b=[]):=fun h_=>c4 (by rw[h_];rfl)
   obtain rfl:=Option.some.inj H
   go_enter Tryz.func32,Tryz.ntmps32
   go_wp2_with (first |((with_reducible refine Qhr (f:=60) rfl ?_);refine Qfz (some 6) rfl rfl Tryz.func60 qq_6 rfl #[.agg #[.int .u8 12,.int .u32 1],.slice none 0 0] rfl qq_2 ?_;(refine(Qbv.calls k 12 1 _ _ ([]:List Int) b c j _ ?side1 ?side2 A1.out).mono ?_);(case side1=>exact Kd.C_nil _ _);(case side2=>exact Nat.le_refl _);rintro e v ⟨l,rfl,d,hb⟩;refine⟨_,rfl,?_⟩;have n_:=qn2 (Kd.R_lower d (Qet qq_b)) (Qeu qq_b hb);clear HB;obtain⟨a,HB⟩:=n_;(try clear hb);(try clear hb2);(try clear hk);(try clear hi);(try clear d)) |((with_reducible refine Qhr (f:=42) rfl ?_);refine Qfz (some 10) rfl rfl Tryz.func42 qq_6 rfl #[] rfl qq_2 ?_;(with_reducible refine(Qat.calls  true _ A2.out).mono ?_);rintro e x ⟨rfl,hb⟩;refine⟨_,rfl,?_⟩;have n_:=qn2 (Kd.R_below qq_9 hb) (Qeu qq_b hb);clear a HB;obtain⟨a,HB⟩:=n_;(try clear hb);(try clear hb2);(try clear hk);(try clear hi);obtain⟨Ao14,co14,eo14⟩:=Kd.R_slice a.out;subst eo14))
   go_ret
   exact⟨qq_5,qq_b⟩
 ·replace c3:=Bool.eq_false_iff.mpr c3;subst c3;rw[if_neg (show ¬(false=true)by decide)]at H;obtain rfl:=Option.some.inj H
  go_enter Tryz.func32,Tryz.ntmps32
  go_wp2_with (first |((with_reducible refine Qhr (f:=60) rfl ?_);refine Qfz (some 6) rfl rfl Tryz.func60 qq_6 rfl #[.agg #[.int .u8 12,.int .u32 1],.slice none 0 0] rfl qq_2 ?_;(refine(Qbv.calls k 12 1 _ _ ([]:List Int) b c j _ ?side1 ?side2 A1.out).mono ?_);(case side1=>exact Kd.C_nil _ _);(case side2=>exact Nat.le_refl _);rintro e y ⟨l,rfl,d,hb⟩;refine⟨_,rfl,?_⟩;have n_:=qn2 (Kd.R_lower d (Qet qq_b)) (Qeu qq_b hb);clear HB;obtain⟨a,HB⟩:=n_;(try clear hb);(try clear hb2);(try clear hk);(try clear hi);(try clear d)) |((with_reducible refine Qhr (f:=42) rfl ?_);refine Qfz (some 10) rfl rfl Tryz.func42 qq_6 rfl #[] rfl qq_2 ?_;(with_reducible refine(Qat.calls  false _ A2.out).mono ?_);rintro e z ⟨rfl,hb⟩;refine⟨_,rfl,?_⟩;have n_:=qn2 (Kd.R_below qq_9 hb) (Qeu qq_b hb);clear a HB;obtain⟨a,HB⟩:=n_;(try clear hb);(try clear hb2);(try clear hk);(try clear hi)))
  go_ret
  exact⟨qq_5,qq_b⟩
end Go.Proofs.YtepkfjmjidjedaaGreat.C
end
