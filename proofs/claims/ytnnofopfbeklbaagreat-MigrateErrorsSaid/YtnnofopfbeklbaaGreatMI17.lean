/- Texts of this claim's author and of the print of its functions, merged by merge.py. -/
import Derived.Test.YtnnofopfbeklbaaGreatMI02
import Derived.Test.YtnnofopfbeklbaaGreatMI12
import Derived.Test.YtnnofopfbeklbaaGreatMI16
import Derived.Test.YtnnofopfbeklbaaGreatMI09
import Derived.Test.YtnnofopfbeklbaaGreatMI06
import Derived.Test.YtnnofopfbeklbaaGreatMI13
import Derived.Test.YtnnofopfbeklbaaGreatMI10
import Derived.Test.YtnnofopfbeklbaaGreatMI15
set_option linter.unusedVariables false
set_option linter.unusedSimpArgs false
set_option maxHeartbeats 8000000
set_option maxRecDepth 100000
section
namespace Go.Proofs.YtnnofopfbeklbaaGreat.C
open Go.RowKit Go.Proofs.YtnnofopfbeklbaaGreatW.PrintWords Go.Proofs.YtnnofopfbeklbaaGreatW.PrintLast Go.Proofs.YtnnofopfbeklbaaGreatW.PrintMore
def lim:Nat:=70368744177664
def encG (e s:Int) (into:List Int):Nat→List Rec→List Int→Option Bd→Option (List Int)
 | _,[],out,none=>some out
 | _,[],out,some B=>(Qov B).bind fun o=>if out.length+o.length≤lim then some (out++o)else none
 | i,r :: rs,out,ob =>
  if i<into.length then
   match ob with
   | none=>if i=0 then(newB e s (rd into (i:Int))).bind fun B=>(addB B r).bind fun B'=>encG e s into (i+1) rs out (some B')else none
   | some B =>
    if i=0 then none
    else if rd into (i:Int)=rd into ((i:Int)-1)then(addB B r).bind fun B'=>encG e s into (i+1) rs out (some B')
    else(Qou B).bind fun o=>if out.length+o.length≤lim then(newB e s (rd into (i:Int))).bind fun B1=>(addB B1 r).bind fun B'=>encG e s into (i+1) rs (out++o) (some B')else none
  else none
def Qba.f(k:Nat)(a0_0 a0_1:Int)(l1:List Rec):Option (List Int × Int) :=
 (Qbb.f k a0_0 a0_1 l1).bind fun p=>if p.2.2=0 then(if l1.length≤1099511627776 then(encG a0_0 a0_1 p.1 0 l1 [] none).bind fun o=>some (o,0)else none)else some ([],p.2.2)
def OpenAt(W:World)(b:Nat)(vo pb:Value)(ob:Option Bd)(i:Nat):Prop :=
 match ob with
 | none=>pb=.pointer none∧i=0
 | some B=>∃g b2,pb=.pointer (some ⟨g,0,none⟩)∧b≤b2∧b2≤g∧b2≤W.heap.size∧(∀k,vo.ownBlock=some k→k<b2)∧IsB W b2 g B∧i≠0
theorem Qpc{W W':World}{b b2:Nat}{v:Value}{xs:List Int}(h:R8 W b v xs)(hb:Below b2 W W')(hlt:∀k,v.ownBlock=some k→k<b2):R8 W' b v xs:=by
 refine Kd.R_mono (Kd.R_step (ok:=fun k=>v.ownBlock=some k) ?_ (fun k hk _=>hb.block k (hlt k hk))) (fun _ _=>trivial)
 exact Kd.R_mono (Kd.R_tight rfl h) (fun k hk=>hk.symm)
theorem Qpd{l:List Rec}{i:Nat}(h:i<l.length):l.drop i=Qhn l (i:Int) :: l.drop (i+1):=by
 rw[List.drop_eq_getElem_cons h]
 simp[Qhn,List.getElem?_eq_getElem h]
theorem enc_of(k:Nat)(e s:Int)(A1:Option Addr)(c1 n1:Nat)(l1:List Rec)(into sizes o:List Int)(w:World)(hn1:n1=l1.length)(hr1:Kd.C k39 w A1 n1 l1)(hc1:n1≤c1)(hl1:l1.length≤1099511627776)
  (hp:Qbb.f k e s l1=some (into,sizes,0)) (h:encG e s into 0 l1 [] none=some o) :
  Calls Tryz.prog 33 #[.agg #[.int .u8 e,.int .u32 s],.slice A1 n1 c1] w fun ee w'=>∃v,ee=.returned (.tuple #[v,.int .i64 0])∧R8 w' w.heap.size v o∧Below w.heap.size w w':=by
 have hu:=Tryz.underlying27
 have hu2:=Tryz.underlying39
 have HN:=QA hn1
 have HC:=QA hr1
 have HP:=QA hp
 have HE:=QA h
 have hl1':n1≤1099511627776:=by omega
 clear hn1 hr1 hp h hl1
 have hba:Below w.heap.size w (w.alloc (.cells #[.int .u8 e,.int .u32 s] 27)):=Qbw (Below.refl _ _) _
 have hbn:=Qdh w (.cells #[.int .u8 e,.int .u32 s] 27)
 have HCa:=QA (Kd.C_alloc HC.out (.cells #[.int .u8 e,.int .u32 s] 27))
 have hplan:Calls Tryz.prog 73 #[.agg #[.int .u8 e,.int .u32 s],.slice A1 n1 c1] (w.alloc (.cells #[.int .u8 e,.int .u32 s] 27)) fun ee w'=>∃v0_ v1_:Value,ee=.returned (.tuple #[v0_,v1_,.int .i64 0])∧Kd.R (Kd.int .u32) 22 w' (w.alloc (.cells #[.int .u8 e,.int .u32 s] 27)).heap.size (fun _=>True) v0_ into∧Kd.R (Kd.int .i64) 3 w' (w.alloc (.cells #[.int .u8 e,.int .u32 s] 27)).heap.size (fun _=>True) v1_ sizes∧Below (w.alloc (.cells #[.int .u8 e,.int .u32 s] 27)).heap.size (w.alloc (.cells #[.int .u8 e,.int .u32 s] 27)) w':=by
  have hC:=HCa.out
  rw[HN.out]at hC ⊢
  exact Qbb.calls k e s A1 c1 l1 into sizes 0 _ hC qq_11 HP.out
 have HPL:=QA hplan
 clear hplan
 obtain⟨c0,c1'⟩:=box2 hbn
 go_enter Tryz.func33,Tryz.ntmps33
 go_wp2_with (go_at_call 73;refine HPL.out.mono ?_;rintro ee w2 ⟨vi,vz,rfl,hRi,hRz,hb2⟩;obtain⟨Ai,ci,rfl⟩:=Kd.R_slice hRi)
 have hk2:=Qdg hbn hb2
 have HBW:=QA (Qbz hba hba.size hb2)
 have hlt2:w.heap.size<w2.heap.size:=Qcs hk2
 obtain⟨b,hbdef⟩:∃b,b=w2.heap.size:=⟨_,rfl⟩
 have hCi:Kd.C (Kd.int .u32) w2 Ai into.length into:=(Kd.R_reads' hRi).2.2
 have hcell:∀ {W:World} {a:Addr} {v:Value},Below b w2 W→w2.cell? a=some v→W.cell? a=some v:=fun {W a v} hb h=>(hb.cell (by rw[hbdef];exact World.block_lt_of_cell? w2 _ h)).trans h
 have HCI:=QA hCi
 have HK2:=QA hk2
 have HBD:=QA hbdef
 have hC2:Kd.C k39 w2 A1 n1 l1:=Kd.C_below HCa.out hb2
 have HC2:=QA hC2
 obtain⟨ni,hni⟩:∃ni,ni=into.length:=⟨_,rfl⟩
 rw[← hni]
 have HNI:=QA hni
 clear hbn hb2 hk2 hRi hRz hCi c0 c1' hba hbdef hC2 hni
 go_loopw [9,10,27] (fun v9 v10 v27 wr=>∃(vo pb:Value) (i:Nat) (iv:Int) (out:List Int) (ob:Option Bd),vo=v9∧pb=v10∧v27=.int .i64 iv∧Aside0 (iv=(i:Int))∧i≤n1∧Aside0 (encG e s into i (l1.drop i) out ob=some o)∧Aside0 (R8 wr b vo out)∧Aside0 (OpenAt wr b vo pb ob i)∧Aside0 (Below b w2 wr)) (fun _ _ i _=>((n1:Int)-intOf i).toNat)
 case atStart=>exact⟨_,_,0,0,[],none,rfl,rfl,rfl,⟨rfl⟩,Nat.zero_le _,HE,⟨Kd.R_nil _ _ _ _ _⟩,⟨⟨rfl,rfl⟩⟩,⟨Below.refl _ _⟩⟩
 case round =>
  obtain⟨vo,pb,i,iv,out,ob,rfl,rfl,rfl,HI,hin,HG,HO,HOP,HB⟩:=hrel
  by_cases hlt:i<n1
  ·have h0:0≤iv:=by have:=HI.out;omega
   have h1:iv<(n1:Int):=by have:=HI.out;omega
   have hb1:decide (iv<(n1:Int))=true:=decide_eq_true h1
   obtain⟨ad,rfl,x0,x1,x2,x3⟩:=Qho HC2.out iv h0 h1
   replace x0:=hcell HB.out x0
   replace x1:=hcell HB.out x1
   replace x2:=hcell HB.out x2
   replace x3:=hcell HB.out x3
   obtain⟨r,hr⟩:∃r,r=Qhn l1 iv:=⟨_,rfl⟩
   rw[← hr]at x0 x1 x2 x3
   have hg:encG e s into i (r :: l1.drop (i+1)) out ob=some o:=by
    have h:=HG.out
    rw[Qpd qq_11,← HI.out,← hr]at h
    exact h
   clear hr
   have hi2:i<ni:=by
    rw[HNI.out]
    unfold encG at hg
    split at hg
    ·assumption
    ·cases hg
   by_cases hz:i=0
   ·have hob:ob=none∧pb=.pointer none:=by
     have h:=HOP.out
     cases ob with
     | none=>exact⟨rfl,h.1⟩
     | some B=>obtain⟨_,_,_,_,_,_,_,_,hn⟩:=h;exact absurd hz hn
    obtain⟨rfl,rfl⟩:=hob
    have hz0:(iv == 0)=true:=beq_iff_eq.2 (by have:=HI.out;omega)
    have hiv:iv=((0:Nat):Int):=by have:=HI.out;omega
    unfold encG at hg
    rw[if_pos (by rw[← HNI.out];exact hi2)]at hg
    dsimp only at hg
    rw[if_pos hz]at hg
    obtain⟨B,hB1,hg⟩:=Option.bind_eq_some_iff.mp hg
    obtain⟨B',hB2',hg⟩:=Option.bind_eq_some_iff.mp hg
    rw[← HI.out]at hB1
    obtain⟨adi,rfl,y0⟩:=Kd.at_int HCI.out iv h0 (by have:=HNI.out;have:=HI.out;omega)
    have hci1:iv<(ni:Int):=by have:=HI.out;omega
    obtain⟨k0,k1⟩:=box2 HK2.out
    have hb':Below wr.heap.size wr (wr.alloc (.cells #[.bool r.f0,.int .u64 r.f1,.string r.f2,.string r.f3] 39)):=Qbw (Below.refl _ _) _
    have hbz:b≤wr.heap.size:=by rw[HBD.out];exact HB.out.size
    have hB3:=HB.out.trans (Qia hb' hbz)
    have y1:=hcell hB3 y0
    have k2:=hcell hB3 k0
    have k3:=hcell hB3 k1
    have bk:=Qdh wr (.cells #[.bool r.f0,.int .u64 r.f1,.string r.f2,.string r.f3] 39)
    have HG':=QA hg
    have HB1:=QA hB1
    have HB2:=QA hB2'
    have HZ:=QA hz
    have HIV:=QA hiv
    clear hg hB1 hB2' hz hiv y0 k0 k1
    go_wp2
    go_quiet (fail)
    obtain⟨W3,hW3⟩:∃W3,W3=(wr.alloc (.cells #[.bool r.f0,.int .u64 r.f1,.string r.f2,.string r.f3] 39)).drewN nq:=⟨_,rfl⟩
    have hbq:Below (wr.alloc (.cells #[.bool r.f0,.int .u64 r.f1,.string r.f2,.string r.f3] 39)).heap.size (wr.alloc (.cells #[.bool r.f0,.int .u64 r.f1,.string r.f2,.string r.f3] 39)) W3:=by rw[hW3];exact Qby (Below.refl _ _) _
    have hB4:Below wr.heap.size wr W3:=Qbz hb' hb'.size hbq
    have bk4:=Qdg bk hbq
    have z1:=Qca hbq y1
    have z2:=Qca hbq k2
    have z3:=Qca hbq k3
    rw[← hW3]
    clear hW3 y1 k2 k3 bk hb' hbq hB3
    go_wp2
    go_region_held3 (fun w'=>w'.cell? ⟨w.heap.size,0,none⟩=some (.int .u8 e)∧w'.cell? ⟨w.heap.size,1,none⟩=some (.int .u32 s)∧w'.cell? (adi.add iv.toNat)=some (.int .u32 (YtnnofopfbeklbaaGreatW.PrintWords.rd into iv))) (first|exact⟨z2,z3,z1⟩|exact⟨t2,t3,t1⟩) (first
     |(go_at_call 18;refine(Qow e s (YtnnofopfbeklbaaGreatW.PrintWords.rd into iv) B W3.drew HB1.out).mono ?_;rintro ee w4 ⟨g,rfl,hIB,hb4,hg4⟩;have t1:=Qca hb4 z1;have t2:=Qca hb4 z2;have t3:=Qca hb4 z3))
    have bk5:=Qdg (w:=W3.drew) bk4 hb4
    obtain⟨q0,q1,q2,q3⟩:=box4 bk5
    have hsz4:W3.drew.heap.size≤w4.heap.size:=hb4.size
    have HIB:=QA hIB
    clear z1 z2 z3 t1 t2 t3 hIB bk4
    go_wp2_with (go_at_call 21;refine(Qox W3.drew.heap.size g B B' r w4 HIB.out hg4 hsz4 HB2.out).mono ?_;rintro ee w6 ⟨rfl,hIB6,hb6⟩)
    go_roundw
    case rel =>
     have hw3:wr.heap.size≤W3.drew.heap.size:=hB4.size
     have hol:∀k,vo.ownBlock=some k→k<W3.drew.heap.size:=fun k hk=>Nat.lt_of_lt_of_le (Kd.R_lt HO.out k hk) hw3
     have hO3:=R8.kept HO.out hB4
     have hO4:R8 w4 b vo out:=R8.kept (W:=W3.drew) hO3 hb4
     have hO6:=Qpc hO4 hb6 hol
     have hs6:W3.drew.heap.size≤w6.heap.size:=Nat.le_trans hsz4 hb6.size
     refine⟨vo,_,i+1,iv+1,out,some B',rfl,rfl,by go_num,⟨by have:=HI.out;omega⟩,hlt,HG',⟨hO6⟩,⟨g,W3.drew.heap.size,rfl,Nat.le_trans hbz hw3,hg4,hs6,hol,hIB6,by omega⟩,⟨?_⟩⟩
     exact HB.out.trans ((Qia hB4 hbz).trans ((Qbx (Below.refl _ _)).trans ((Qia hb4 (Nat.le_trans hbz hw3)).trans (Qia hb6 (Nat.le_trans hbz hw3)))))
    case measure=>simp[intOf];omega
   ·obtain⟨B,rfl⟩:∃B,ob=some B:=by
     have h:=HOP.out
     cases ob with
     | none=>exact absurd h.2 hz
     | some B=>exact⟨B,rfl⟩
    obtain⟨g,b2,rfl,hbb2,hb2g,hb2z,hol,hIB0,_⟩:=HOP.out
    have HIB0:=QA hIB0
    have hz0:(iv == 0)=false:=beq_eq_false_iff_ne.2 (by have:=HI.out;omega)
    obtain⟨jv,hjv⟩:∃jv,jv=iv-1:=⟨_,rfl⟩
    have hj0:0≤jv:=by have:=HI.out;omega
    unfold encG at hg
    rw[if_pos (by rw[← HNI.out];exact hi2)]at hg
    dsimp only at hg
    rw[if_neg hz,← HI.out,← hjv]at hg
    have HOL:=QA hol
    have HZ:=QA hz
    clear hIB0 hol hz HOP
    by_cases heq:YtnnofopfbeklbaaGreatW.PrintWords.rd into iv=YtnnofopfbeklbaaGreatW.PrintWords.rd into jv
    ·rw[if_pos heq]at hg
     obtain⟨B',hB2',hg⟩:=Option.bind_eq_some_iff.mp hg
     have HG':=QA hg
     have HB2:=QA hB2'
     have hne:(YtnnofopfbeklbaaGreatW.PrintWords.rd into iv != YtnnofopfbeklbaaGreatW.PrintWords.rd into jv)=false:=by rw[heq];simp
     clear heq hg hB2'
     obtain⟨adi,rfl,y0⟩:=Kd.at_int HCI.out iv h0 (by have:=HNI.out;have:=HI.out;omega)
     obtain⟨adj,ej,yj0⟩:=Kd.at_int HCI.out jv hj0 (by have:=HNI.out;have:=HI.out;omega)
     cases ej
     have hci1:iv<(ni:Int):=by have:=HI.out;omega
     have hcj1:jv<(ni:Int):=by omega
     obtain⟨k0,k1⟩:=box2 HK2.out
     have hb':Below wr.heap.size wr (wr.alloc (.cells #[.bool r.f0,.int .u64 r.f1,.string r.f2,.string r.f3] 39)):=Qbw (Below.refl _ _) _
     have hbz:b≤wr.heap.size:=by rw[HBD.out];exact HB.out.size
     have hB3:=HB.out.trans (Qia hb' hbz)
     have y1:=hcell hB3 y0
     have yj1:=hcell hB3 yj0
     have k2:=hcell hB3 k0
     have k3:=hcell hB3 k1
     have bk:=Qdh wr (.cells #[.bool r.f0,.int .u64 r.f1,.string r.f2,.string r.f3] 39)
     have HJ:=QA hjv
     have hwr:IntKind.i64.wrap (iv-1)=jv:=by rw[IntWalk.i64_in _ (by omega)];exact hjv.symm
     clear hjv y0 yj0 k0 k1
     go_wp2
     go_quiet (fail)
     obtain⟨W3,hW3⟩:∃W3,W3=(wr.alloc (.cells #[.bool r.f0,.int .u64 r.f1,.string r.f2,.string r.f3] 39)).drewN nq:=⟨_,rfl⟩
     have hbq:Below (wr.alloc (.cells #[.bool r.f0,.int .u64 r.f1,.string r.f2,.string r.f3] 39)).heap.size (wr.alloc (.cells #[.bool r.f0,.int .u64 r.f1,.string r.f2,.string r.f3] 39)) W3:=by rw[hW3];exact Qby (Below.refl _ _) _
     have hB4:Below wr.heap.size wr W3:=Qbz hb' hb'.size hbq
     have bk4:=Qdg bk hbq
     have z1:=Qca hbq y1
     have z2:=Qca hbq k2
     have z3:=Qca hbq k3
     rw[← hW3]
     clear hW3 y1 yj1 k2 k3 bk hb' hbq hB3 hwr
     obtain⟨q0,q1,q2,q3⟩:=box4 bk4
     have hs3:b2≤W3.heap.size:=Nat.le_trans hb2z hB4.size
     have HIB3:=QA (IsBd.kept HIB0.out hB4)
     clear z1 z2 z3 bk4
     go_wp2_with (go_at_call 21;refine(Qox b2 g B B' r W3 HIB3.out hb2g hs3 HB2.out).mono ?_;rintro ee w6 ⟨rfl,hIB6,hb6⟩)
     go_roundw
     case rel =>
      have hO6:=Qpc (R8.kept HO.out hB4) hb6 HOL.out
      refine⟨vo,_,i+1,iv+1,out,some B',rfl,rfl,by go_num,⟨by have:=HI.out;omega⟩,hlt,HG',⟨hO6⟩,⟨g,b2,rfl,hbb2,hb2g,Nat.le_trans hs3 hb6.size,HOL.out,hIB6,by omega⟩,⟨?_⟩⟩
      exact HB.out.trans ((Qia hB4 hbz).trans (Qia hb6 hbb2))
     case measure=>simp[intOf];omega
    ·rw[if_neg heq]at hg
     obtain⟨oo,hseal,hg⟩:=Option.bind_eq_some_iff.mp hg
     have hoo:out.length+oo.length≤lim:=by
      apply Decidable.byContradiction
      intro hn
      rw[if_neg hn]at hg
      cases hg
     rw[if_pos hoo]at hg
     obtain⟨B1,hB1,hg⟩:=Option.bind_eq_some_iff.mp hg
     obtain⟨B',hB2',hg⟩:=Option.bind_eq_some_iff.mp hg
     have HG':=QA hg
     have HB1:=QA hB1
     have HBA:=QA hB2'
     have HSL:=QA hseal
     have hoo':out.length+oo.length≤70368744177664:=hoo
     have hne:(YtnnofopfbeklbaaGreatW.PrintWords.rd into iv != YtnnofopfbeklbaaGreatW.PrintWords.rd into jv)=true:=by simp[heq]
     clear heq hg hB1 hB2' hseal hoo
     obtain⟨adi,rfl,y0⟩:=Kd.at_int HCI.out iv h0 (by have:=HNI.out;have:=HI.out;omega)
     obtain⟨adj,ej,yj0⟩:=Kd.at_int HCI.out jv hj0 (by have:=HNI.out;have:=HI.out;omega)
     cases ej
     have hci1:iv<(ni:Int):=by have:=HI.out;omega
     have hcj1:jv<(ni:Int):=by omega
     obtain⟨k0,k1⟩:=box2 HK2.out
     have hb':Below wr.heap.size wr (wr.alloc (.cells #[.bool r.f0,.int .u64 r.f1,.string r.f2,.string r.f3] 39)):=Qbw (Below.refl _ _) _
     have hbz:b≤wr.heap.size:=by rw[HBD.out];exact HB.out.size
     have hB3:=HB.out.trans (Qia hb' hbz)
     have y1:=hcell hB3 y0
     have yj1:=hcell hB3 yj0
     have k2:=hcell hB3 k0
     have k3:=hcell hB3 k1
     have bk:=Qdh wr (.cells #[.bool r.f0,.int .u64 r.f1,.string r.f2,.string r.f3] 39)
     have HJ:=QA hjv
     have hwr:IntKind.i64.wrap (iv-1)=jv:=by rw[IntWalk.i64_in _ (by omega)];exact hjv.symm
     clear hjv yj0
     go_wp2
     go_quiet (fail)
     obtain⟨W3,hW3⟩:∃W3,W3=(wr.alloc (.cells #[.bool r.f0,.int .u64 r.f1,.string r.f2,.string r.f3] 39)).drewN nq:=⟨_,rfl⟩
     have hbq:Below (wr.alloc (.cells #[.bool r.f0,.int .u64 r.f1,.string r.f2,.string r.f3] 39)).heap.size (wr.alloc (.cells #[.bool r.f0,.int .u64 r.f1,.string r.f2,.string r.f3] 39)) W3:=by rw[hW3];exact Qby (Below.refl _ _) _
     have hB4:Below wr.heap.size wr W3:=Qbz hb' hb'.size hbq
     have bk4:=Qdg bk hbq
     have z1:=Qca hbq y1
     have z2:=Qca hbq k2
     have z3:=Qca hbq k3
     rw[← hW3]
     clear hW3 y1 yj1 k2 k3 bk hb' hbq hB3 hwr z1 z2 z3
     have hs3:b2≤W3.heap.size:=Nat.le_trans hb2z hB4.size
     have HIB3:=QA (IsBd.kept HIB0.out hB4)
     have HO3:=QA (R8.kept HO.out hB4)
     go_wp2_with (first
      |(go_at_call 28;refine(Qpa b2 g B oo W3 HIB3.out hs3 HSL.out).mono ?_;rintro ee w4 ⟨v4,rfl,hR4,hb4⟩;obtain⟨A4,n4,c4,rfl,hn4,hl4,hC4⟩:=R8.reads hR4;have HC4:=QA hC4;have HO4:=QA (R8.kept HO3.out hb4);have bk5:=Qdg bk4 hb4;clear hR4 hC4 bk4)
      |(at_builtin;go_loud (refine Kd.R_append_rows (Kd.int .u8) (Rr:=fun x cs=>cs=[.int .u8 x]) (w0:=w4) b rfl (.tmp 53) (.tmp 54) 52 5 (.int .u8 0) 1 rfl Tryz.underlying52 Qhj rfl (by decide) (by omega) vo out oo A4 n4 c4 (fun _=>True) (fun _=>False) rfl rfl HO4.out HC4.out (fun _ _ h=>h) (fun _ hk=>hk.elim) (fun _ _=>trivial) (Below.refl _ _) (Nat.le_trans hbz (Nat.le_trans hB4.size hb4.size)) ?bL ?_;(case bL=>have:=hn4.out;omega);intro v5 w5 hR5 hb5 hg5 hat5)))
     have HB5:=QA (show Below b w2 w5 from((HB.out.trans (Qia hB4 hbz)).trans (Qia hb4 (Nat.le_trans hbz hB4.size))).trans hb5)
     have bk6:=Qcv bk5 hg5 (R8.clean HO4.out bk5 (by decide))
     have z1:=hcell (W:=w5.drew) (HB5.out.trans (Qbx (Below.refl _ _))) y0
     have z2:=hcell (W:=w5.drew) (HB5.out.trans (Qbx (Below.refl _ _))) k0
     have z3:=hcell (W:=w5.drew) (HB5.out.trans (Qbx (Below.refl _ _))) k1
     have HR5:=QA hR5
     have hb5z:b≤w5.drew.heap.size:=by rw[HBD.out];exact HB5.out.size
     clear hR5 hat5 hb5 hb4 y0 k0 k1 bk5
     go_region_held3 (fun w'=>w'.cell? ⟨w.heap.size,0,none⟩=some (.int .u8 e)∧w'.cell? ⟨w.heap.size,1,none⟩=some (.int .u32 s)∧w'.cell? (adi.add iv.toNat)=some (.int .u32 (YtnnofopfbeklbaaGreatW.PrintWords.rd into iv))) (first|exact⟨z2,z3,z1⟩|exact⟨t2,t3,t1⟩) (first
      |(go_at_call 18;refine(Qow e s (YtnnofopfbeklbaaGreatW.PrintWords.rd into iv) B1 w5.drew HB1.out).mono ?_;rintro ee w6 ⟨g6,rfl,hIB,hb6,hg6⟩;have t1:=Qca hb6 z1;have t2:=Qca hb6 z2;have t3:=Qca hb6 z3))
     have bk7:=Qdg (w:=w5.drew) bk6 hb6
     obtain⟨q0,q1,q2,q3⟩:=box4 bk7
     have hsz6:w5.drew.heap.size≤w6.heap.size:=hb6.size
     have HIB:=QA hIB
     clear z1 z2 z3 t1 t2 t3 hIB bk6
     go_wp2_with (go_at_call 21;refine(Qox w5.drew.heap.size g6 B1 B' r w6 HIB.out hg6 hsz6 HBA.out).mono ?_;rintro ee w7 ⟨rfl,hIB7,hb7⟩)
     go_roundw
     case rel =>
      have hol5:∀k,v5.ownBlock=some k→k<w5.drew.heap.size:=fun k hk=>Kd.R_lt HR5.out k hk
      have hO6:R8 w6 b v5 (out++oo):=R8.kept (W:=w5.drew) HR5.out hb6
      have hO7:=Qpc hO6 hb7 hol5
      refine⟨v5,_,i+1,iv+1,out++oo,some B',rfl,rfl,by go_num,⟨by have:=HI.out;omega⟩,hlt,HG',⟨hO7⟩,⟨g6,w5.drew.heap.size,rfl,hb5z,hg6,Nat.le_trans hsz6 hb7.size,hol5,hIB7,by omega⟩,⟨?_⟩⟩
      exact HB5.out.trans ((Qbx (Below.refl _ _)).trans ((Qia hb6 hb5z).trans (Qia hb7 hb5z)))
     case measure=>simp[intOf];omega
  ·have hin':i=n1:=by omega
   have hge:¬iv<(n1:Int):=by have:=HI.out;omega
   have hb1:decide (iv<(n1:Int))=false:=decide_eq_false hge
   have hbz:b≤wr.heap.size:=by rw[HBD.out];exact HB.out.size
   have hwb:w.heap.size≤b:=by rw[HBD.out];omega
   have hg:encG e s into i [] out ob=some o:=by
    have h:=HG.out
    rw[List.drop_of_length_le qq_11]at h
    exact h
   cases ob with
   | none =>
    obtain⟨rfl,_⟩:=HOP.out
    simp only[encG]at hg
    have ho:out=o:=Option.some.inj hg
    have HOO:=QA ho
    clear ho hg HOP hin'
    go_wp2
    refine bodyPost_ret (results_tmp2 rfl _ _ _) rfl ?_
    refine⟨_,rfl,?_,HBW.out.trans (Qia HB.out hwb)⟩
    rw[← HOO.out]
    exact R8.low HO.out hwb
   | some B =>
    obtain⟨g,b2,rfl,hbb2,hb2g,hb2z,hol,hIB0,_⟩:=HOP.out
    simp only[encG]at hg
    obtain⟨oo,hopen,hg⟩:=Option.bind_eq_some_iff.mp hg
    have hoo:out.length+oo.length≤lim:=by
     apply Decidable.byContradiction
     intro hn
     rw[if_neg hn]at hg
     cases hg
    rw[if_pos hoo]at hg
    have hoo':out.length+oo.length≤70368744177664:=hoo
    have ho:out++oo=o:=Option.some.inj hg
    have HOO:=QA ho
    have HOPN:=QA hopen
    have HIB0:=QA hIB0
    clear ho hg HOP hin' hopen hIB0 hol hoo
    go_wp2_with (first
     |(go_at_call 30;refine(Qpb b2 g B oo wr HIB0.out hb2z HOPN.out).mono ?_;rintro ee w4 ⟨v4,rfl,hR4,hb4⟩;obtain⟨A4,n4,c4,rfl,hn4,hl4,hC4⟩:=R8.reads hR4;have HC4:=QA hC4;have HO4:=QA (R8.kept HO.out hb4);clear hR4 hC4)
     |(at_builtin;go_loud (refine Kd.R_append_rows (Kd.int .u8) (Rr:=fun x cs=>cs=[.int .u8 x]) (w0:=w4) b rfl (.tmp 71) (.tmp 73) 52 5 (.int .u8 0) 1 rfl Tryz.underlying52 Qhj rfl (by decide) (by omega) vo out oo A4 n4 c4 (fun _=>True) (fun _=>False) rfl rfl HO4.out HC4.out (fun _ _ h=>h) (fun _ hk=>hk.elim) (fun _ _=>trivial) (Below.refl _ _) (Nat.le_trans hbz hb4.size) ?bL ?_;(case bL=>have:=hn4.out;omega);intro v5 w5 hR5 hb5 hg5 hat5)))
    refine bodyPost_ret (results_tmp2 rfl _ _ _) rfl ?_
    refine⟨_,rfl,?_,HBW.out.trans (Qia ((HB.out.trans (Qia hb4 hbz)).trans hb5) hwb)⟩
    rw[← HOO.out]
    exact R8.low hR5 hwb
theorem enc_not(k:Nat)(e s er:Int)(A1:Option Addr)(c1 n1:Nat)(l1:List Rec)(into sizes:List Int)(w:World)(hn1:n1=l1.length)(hr1:Kd.C k39 w A1 n1 l1)(hc1:n1≤c1)
  (hp:Qbb.f k e s l1=some (into,sizes,er)) (her:er≠0) :
  Calls Tryz.prog 33 #[.agg #[.int .u8 e,.int .u32 s],.slice A1 n1 c1] w fun ee w'=>∃v,ee=.returned (.tuple #[v,.int .i64 er])∧R8 w' w.heap.size v []∧Below w.heap.size w w':=by
 have hu:=Tryz.underlying27
 have HN:=QA hn1
 have HC:=QA hr1
 have HP:=QA hp
 have hnb:(er == 0)=false:=beq_eq_false_iff_ne.2 her
 have hnc:(er != 0)=true:=bne_iff_ne.2 her
 clear hn1 hr1 hp her
 have hba:Below w.heap.size w (w.alloc (.cells #[.int .u8 e,.int .u32 s] 27)):=Qbw (Below.refl _ _) _
 have hbn:=Qdh w (.cells #[.int .u8 e,.int .u32 s] 27)
 have HCa:=QA (Kd.C_alloc HC.out (.cells #[.int .u8 e,.int .u32 s] 27))
 have hplan:Calls Tryz.prog 73 #[.agg #[.int .u8 e,.int .u32 s],.slice A1 n1 c1] (w.alloc (.cells #[.int .u8 e,.int .u32 s] 27)) fun ee w'=>∃v0_ v1_:Value,ee=.returned (.tuple #[v0_,v1_,.int .i64 er])∧Below (w.alloc (.cells #[.int .u8 e,.int .u32 s] 27)).heap.size (w.alloc (.cells #[.int .u8 e,.int .u32 s] 27)) w':=by
  have hC:=HCa.out
  rw[HN.out]at hC ⊢
  exact(Qbb.calls k e s A1 c1 l1 into sizes er _ hC qq_11 HP.out).mono fun _ _ ⟨v0,v1,h1,_,_,h4⟩=>⟨v0,v1,h1,h4⟩
 have HPL:=QA hplan
 clear hplan
 obtain⟨c0,c1'⟩:=box2 hbn
 go_enter Tryz.func33,Tryz.ntmps33
 go_wp2_with (go_at_call 73;refine HPL.out.mono ?_;rintro ee w2 ⟨vi,vz,rfl,hb2⟩)
 refine bodyPost_ret (results_tmp2 rfl _ _ _) rfl ?_
 exact⟨_,rfl,Kd.R_nil _ _ _ _ _,Qbz hba hba.size hb2⟩
theorem Qba.calls(k:Nat)(a0_0:Int)(a0_1:Int)(A1:Option Addr)(c1:Nat)(l1:List S39)(r1:List Int)(r2:Int)(w:World)(hr1:Kd.C k39 w A1 l1.length l1)(hc1:l1.length≤c1)(h:Qba.f k a0_0 a0_1 l1=some (r1,r2)) :
  Calls Tryz.prog 33 #[.agg #[.int .u8 a0_0,.int .u32 a0_1],.slice A1 l1.length c1] w fun e w'=>∃v0_:Value,e=.returned (.tuple #[v0_,.int .i64 r2])∧Kd.R (Kd.int .u8) 5 w' w.heap.size (fun _=>True) v0_ r1∧Below w.heap.size w w':=by
 unfold Qba.f at h
 obtain⟨⟨into,sizes,er⟩,hp,h⟩:=Option.bind_eq_some_iff.mp h
 dsimp only at h
 by_cases her:er=0
 ·subst her
  rw[if_pos rfl]at h
  by_cases hl:l1.length≤1099511627776
  ·rw[if_pos hl]at h
   obtain⟨o,ho,h⟩:=Option.bind_eq_some_iff.mp h
   simp only[Option.some.injEq,Prod.mk.injEq]at h
   obtain⟨rfl,rfl⟩:=h
   exact enc_of k a0_0 a0_1 A1 c1 l1.length l1 into sizes _ w rfl hr1 hc1 hl hp ho
  ·rw[if_neg hl]at h;cases h
 ·rw[if_neg her]at h
  simp only[Option.some.injEq,Prod.mk.injEq]at h
  obtain⟨rfl,rfl⟩:=h
  exact enc_not k a0_0 a0_1 _ A1 c1 l1.length l1 into sizes w rfl hr1 hc1 hp her
def recA:Rec:=⟨false,0,⟨#[97]⟩,⟨#[]⟩⟩
def frA:List Int:=match Qaw.f false 0 ⟨#[97]⟩ ⟨#[]⟩with|some p=>p.1|none=>[]
def oA:List Int:=h12++frA++List.replicate (4096-(h12++frA).length) 255
theorem encA0:Qba.f 9 12 1 []=some ([],0):=by kernel_rfl
theorem encA1:Qba.f 40 12 1 [recA]=some (oA,0):=by kernel_rfl
theorem oA_len:oA.length=4096:=by kernel_rfl
def Qaq.f:Option Bool:=some true
theorem Qaq.calls(r:Bool)(w:World)(h:Qaq.f=some r) :
  Calls Tryz.prog 32 #[] w fun e w'=>e=.returned (.bool r)∧Below w.heap.size w w':=by
 obtain rfl:=Option.some.inj h
 have hu:=Tryz.underlying27
 have hu2:=Tryz.underlying39
 have bn:=Qdh w (.cells #[.int .u8 12,.int .u32 1] 27)
 have hb0:Below w.heap.size w (w.alloc (.cells #[.int .u8 12,.int .u32 1] 27)):=Qbw (Below.refl _ _) _
 obtain⟨c0,c1⟩:=box2 bn
 have hnil:∀W:World,Kd.C k39 W none ([]:List Rec).length []:=fun W=>Kd.C_nil _ W
 have HNIL:=QA hnil
 have hone:∀W:World,Kd.C k39 (W.alloc (.cells #[.bool false,.int .u64 0,.string ⟨#[97]⟩,.string ⟨#[]⟩] 39)) (some ⟨W.heap.size,0,none⟩) [recA].length [recA]:=fun W=>by
  have hR:Kd.R k39 39 (W.alloc (.cells #[.bool false,.int .u64 0,.string ⟨#[97]⟩,.string ⟨#[]⟩] 39)) W.heap.size (fun _=>True) (.slice (some ⟨W.heap.size,0,none⟩) 1 1) [recA]:=by
   refine⟨fun _ _=>trivial,[.bool false,.int .u64 0,.string ⟨#[97]⟩,.string ⟨#[]⟩],World.ownsRow_lit (base:=W.heap.size) (e:=39) (size:=4) W #[.bool false,.int .u64 0,.string ⟨#[97]⟩,.string ⟨#[]⟩] 1 (Nat.le_refl _) (by decide) rfl,rfl,fun j p hj=>?_⟩
   obtain⟨hj1,rfl⟩:=List.getElem?_eq_some_iff.1 hj
   obtain rfl:j=0:=by simpa using hj1
   exact Qhm _ _ _ recA
  exact(Kd.R_reads' hR).2.2
 have HONE:=QA hone
 clear hnil hone
 go_enter Tryz.func32,Tryz.ntmps32
 go_wp2_with (first
  |(go_at_call_of 33 (Value.slice none 0 0);refine(Qba.calls 9 12 1 none 0 [] [] 0 _ (HNIL.out _) (Nat.le_refl _) encA0).mono ?_;rintro e w1 ⟨v1,rfl,hR1,hb1⟩;obtain⟨A1,n1,c1',rfl,hn1,hl1,hC1⟩:=R8.reads hR1;have hn1':n1=0:=hn1.out;subst hn1';have bk1:=Qdg bn hb1;clear c0 c1;obtain⟨c0,c1⟩:=box2 bk1)
  |(go_at_call 33;go_loud (refine(Qba.calls 40 12 1 (some ⟨w1.heap.size,0,none⟩) 1 [recA] oA 0 _ (HONE.out w1) (Nat.le_refl _) encA1).mono ?_;rintro e w2 ⟨v2,rfl,hR2,hb2⟩;obtain⟨A2,n2,c2,rfl,hn2,hl2,hC2⟩:=R8.reads hR2;have hn2':n2=4096:=hn2.out.trans oA_len;subst hn2'))
  |(go_at_call 15;refine(Qap.calls true _ rfl).mono ?_;rintro e w3 ⟨rfl,hb3⟩))
 go_ret
 have hb12:=(Qbz hb0 hb0.size hb1)
 have hz1:w.heap.size≤w1.heap.size:=hb12.size
 have hb2':Below w1.heap.size w1 w2:=Qbz (Qbw (Below.refl _ _) _) (by rw[World.size_alloc];omega) hb2
 exact⟨rfl,Qbz (Qbz hb12 hz1 hb2') (Nat.le_trans hz1 hb2'.size) hb3⟩
end Go.Proofs.YtnnofopfbeklbaaGreat.C
end
section
namespace Go.Proofs.YtnnofopfbeklbaaGreat.C
open Go.RowKit Go.Proofs.YtnnofopfbeklbaaGreatW.PrintWords Go.Proofs.YtnnofopfbeklbaaGreatW.PrintLast Go.Proofs.YtnnofopfbeklbaaGreatW.PrintMore
attribute [local go_sem] Qgv Qgw Qgx Qgy Qgz Qha Qhb Qhc
def Qbe.f(k:Nat)(a0_0:Int)(a0_1:Int)(l1:List Int):Option (List Int × Int × Int):=(Qal.f a0_0 a0_1).bind fun t724=>(if t724=0 then((Qan.f l1).bind fun bt725=>(if bt725.2.2=0 then((Qbd.f k bt725.1).bind fun t730=>((Qba.f k a0_0 a0_1 t730).bind fun bt733=>(some (bt733.1,0,bt733.2))))else(some (([]:List Int),bt725.2.1,bt725.2.2))))else(some (([]:List Int),0,t724)))
def Qbe.T7:Bool × List (List Nat × List Nat):=(true,[([],[]),([],[]),([1],[1]),([0,2,2],[0,2]),([3],[3]),([4],[4]),([4],[4]),([5,3,0,1,2,3,4,5],[5]),([6,7,0,1,2,3,4,5,6,7],[6])])
def Qbe.B7:List Nat:=[0,0,2,7,15,31,31,63,255]
theorem Qbe.tab7:rtab .any (Qgr Tryz.f43 7)=Qbe.T7:=by kernel_rfl
theorem Qbe.bits7:Qgl Qbe.T7.2 Qbe.B7=true:=by kernel_rfl
theorem Qbe.calls(k:Nat)(a0_0:Int)(a0_1:Int)(A1:Option Addr)(c1:Nat)(l1:List Int)(r1:List Int)(r2:Int)(r3:Int)(w:World)(hr1:Kd.C (Kd.int .u8) w A1 l1.length l1)(hc1:l1.length≤c1)(h:Qbe.f k a0_0 a0_1 l1=some (r1,r2,r3)) :
  Calls Tryz.prog 43 #[.agg #[.int .u8 a0_0,.int .u32 a0_1],.slice A1 l1.length c1] w fun e w'=>∃v0_:Value,e=.returned (.tuple #[v0_,.int .i64 r2,.int .i64 r3])∧Kd.R (Kd.int .u8) 5 w' w.heap.size (fun _=>True) v0_ r1∧Below w.heap.size w w':=by
 have hu27:=Tryz.underlying27
 have HR1:=QA hr1
 have HC1:=QA hc1
 clear hr1 hc1
 have HB:=QA (Below.refl w.heap.size w)
 have H:((Qal.f a0_0 a0_1).bind fun t724=>(if t724=0 then((Qan.f l1).bind fun bt725=>(if bt725.2.2=0 then((Qbd.f k bt725.1).bind fun t730=>((Qba.f k a0_0 a0_1 t730).bind fun bt733=>(some (bt733.1,0,bt733.2))))else(some (([]:List Int),bt725.2.1,bt725.2.2))))else(some (([]:List Int),0,t724))))=some (r1,r2,r3):=h
 clear h
 replace H:=Option.bind_eq_some_iff.mp H
 obtain⟨t724,A30,H⟩:=H
 replace H:(if t724=0 then((Qan.f l1).bind fun bt725=>(if bt725.2.2=0 then((Qbd.f k bt725.1).bind fun t730=>((Qba.f k a0_0 a0_1 t730).bind fun bt733=>(some (bt733.1,0,bt733.2))))else(some (([]:List Int),bt725.2.1,bt725.2.2))))else(some (([]:List Int),0,t724)))=some (r1,r2,r3):=H
 have A3:=QA A30
 clear A30
 by_cases c4:t724=0
 ·rw[if_pos c4]at H
  have c4b0:(t724 == 0)=true:=beq_iff_eq.mpr c4
  have c4b1:(t724 != 0)=false:=bne_eq_false_iff_eq.mpr c4
  clear c4
  replace H:=Option.bind_eq_some_iff.mp H
  obtain⟨⟨t725,t726,t727⟩,A50,H⟩:=H
  replace H:(if t727=0 then((Qbd.f k t725).bind fun t730=>((Qba.f k a0_0 a0_1 t730).bind fun bt733=>(some (bt733.1,0,bt733.2))))else(some (([]:List Int),t726,t727)))=some (r1,r2,r3):=H
  have A5:=QA A50
  clear A50
  by_cases c6:t727=0
  ·rw[if_pos c6]at H
   have c6b0:(t727 == 0)=true:=beq_iff_eq.mpr c6
   have c6b1:(t727 != 0)=false:=bne_eq_false_iff_eq.mpr c6
   clear c6
   replace H:=Option.bind_eq_some_iff.mp H
   obtain⟨t730,A70,H⟩:=H
   replace H:((Qba.f k a0_0 a0_1 t730).bind fun bt733=>(some (bt733.1,0,bt733.2)))=some (r1,r2,r3):=H
   have A7:=QA A70
   clear A70
   replace H:=Option.bind_eq_some_iff.mp H
   obtain⟨⟨t733,t736⟩,A80,H⟩:=H
   replace H:(some (t733,0,t736))=some (r1,r2,r3):=H
   have A8:=QA A80
   clear A80
   simp only[Option.some.injEq,Prod.mk.injEq]at H
   obtain⟨rfl,rfl,rfl⟩:=H
   go_enter Tryz.func43,Tryz.ntmps43
   try go_wp2_with (first |((with_reducible refine Qel (N:=2) rfl ?_);refine qq_e 2 #[.int .u8 a0_0,.int .u32 a0_1] 27 ?_;intro gb723 hg w9 hbox hb;have n0_:=QA (Qeb qq_b hb);have n1_:=QA (hbox);have n2_:=QA (qq_s hg:w.heap.size≤gb723);have n3_:=n2_;clear HB;have HB:=n0_;have BK723:=n1_;have GW723:=n2_;have GE723:=n3_;clear n0_ n1_ n2_ n3_ hb hbox hg;have hcz10_0:=qq_c (.int .u8 a0_0) BK723.out 0 rfl;have hcz10_1:=qq_c (.int .u32 a0_1) BK723.out 1 rfl;have hfz10_0:=Qcu BK723.out 0;have hfz10_1:=Qcu BK723.out 1) |((with_reducible refine Qhd (f:=85) rfl ?_);refine Qfk (some 11) rfl rfl Tryz.func85 qq_5 rfl #[.agg #[.int .u8 a0_0,.int .u32 a0_1]] rfl qq_1 ?_;(with_reducible refine(Qal.calls a0_0 a0_1 t724 _ A3.out).mono ?_);rintro e w11 ⟨rfl,hb⟩;refine⟨_,rfl,?_⟩;have n0_:=QA (Qdg (g:=gb723) (o:=.cells #[.int .u8 a0_0,.int .u32 a0_1] 27 (0,0)) qq_0 hb);have n1_:=QA (Qeb qq_b hb);clear BK723 HB;have BK723:=n0_;have HB:=n1_;clear n0_ n1_;(try clear hb);(try clear hb2);(try clear hk);(try clear hi)) |((with_reducible refine Qhd (f:=86) rfl ?_);refine Qfk (some 17) rfl rfl Tryz.func86 qq_5 rfl #[.slice A1 l1.length c1] rfl qq_1 ?_;(with_reducible refine(Qan.calls _ _ l1 t725 t726 t727 _ ?side1 ?side2 A5.out).mono ?_);(case side1=>repeat(first|exact(Kd.C_below HR1.out HB.out) |(with_reducible refine Kd.C_alloc ?_ _) |(with_reducible refine Kd.C_drewN ?_ _) |(with_reducible refine Kd.C_drew ?_)));(case side2=>exact HC1.out);rintro e w12 ⟨v728,rfl,ho0,hb⟩;refine⟨_,rfl,?_⟩;have n0_:=QA (Kd.R_lower ho0 (Qea qq_b));have n1_:=QA (Qdg (g:=gb723) (o:=.cells #[.int .u8 a0_0,.int .u32 a0_1] 27 (0,0)) qq_0 hb);have n2_:=QA (Qeb qq_b hb);clear BK723 HB;have HO729:=n0_;have BK723:=n1_;have HB:=n2_;clear n0_ n1_ n2_;(try clear hb);(try clear hb2);(try clear hk);(try clear hi);(try clear ho0)))
   have n0_:=QA (Kd.R_drew HO729.out)
   have n1_:=QA (Qde BK723.out)
   have n2_:=QA (Qeh HB.out)
   clear HO729 BK723 HB
   have HO729:=n0_
   have BK723:=n1_
   have HB:=n2_
   clear n0_ n1_ n2_
   obtain⟨Ao14,co14,eo14⟩:=Kd.R_slice HO729.out
   (first|subst eo14 |(injection eo14 with f1_ f2_ f3_;have f4_:=f1_.symm;have f5_:=f3_.symm;clear f1_ f2_ f3_;subst f4_;subst f5_))
   refine Qey (n:=9) (S:=fun w'=>w'.cell? ⟨gb723,0,none⟩=some (.int .u8 a0_0)∧w'.cell? ⟨gb723,1,none⟩=some (.int .u32 a0_1)) (ds:=[]) #[false,false,false,false,false,false,false,false,false] qq_5 rfl rfl ⟨(Qct BK723.out 0).trans rfl,(Qct BK723.out 1).trans rfl⟩ (fun hHeld=>?_);refine Qgp Qbe.tab7 Qbe.bits7 (fun HT_ HW_=>?_)
   generalize w12.drew=w13 at HO729 BK723 HB hHeld ⊢
   refine Qfb (i:=1) (N:=some 27) (v:=?_) (a':=?_) #[false,true,false,false,false,false,false,false,false] rfl rfl (Qgi HT_.out qq_5) (fun _ _ _ h=>h) (Or.inl ⟨by rfl,?_⟩) ?_ ?_
   rotate_left
   ·intro w'
    go_simp
    with_reducible rfl
   rotate_left
   ·exact qq_4
   refine Qfa (i:=0) (N:=some 26) (v:=?_) (a':=?_) #[true,true,false,false,false,false,false,false,false] rfl rfl (Qgo HT_.out HW_.out qq_5) (fun _ _ _ h=>h) (Or.inl ⟨by rfl,?_⟩) hHeld ?_ ?_
   rotate_left
   ·rintro w' ⟨s0,s1⟩
    go_simp
    with_reducible rfl
   rotate_left
   ·exact qq_4
   refine one_ (i:=2) (N:=some 28) #[true,true,true,false,false,false,false,false,false] rfl rfl (Qgj HT_.out qq_5) (by decide) (fun K hK=>?_)
   refine Qfj Tryz.func87 qq_5 rfl #[.slice Ao14 t725.length co14] (by rfl) rfl rfl qq_1 ?_
   with_reducible refine(Qbd.calls k _ _ t725 t730 _ ?side1 ?side2 A7.out).mono ?_
   (case side1=>repeat(first|exact(Kd.R_reads' HO729.out).2.2 |(with_reducible refine Kd.C_alloc ?_ _) |(with_reducible refine Kd.C_drewN ?_ _) |(with_reducible refine Kd.C_drew ?_)))
   (case side2=>exact(Kd.R_reads' HO729.out).2.1)
   rintro e w15 ⟨v731,rfl,ho0,hb⟩
   refine⟨_,rfl,?_⟩
   have n0_:=QA (Kd.R_below qq_3 hb)
   have n1_:=QA (Kd.R_lower ho0 (Qea qq_b))
   have n2_:=QA (Qdg (g:=gb723) (o:=.cells #[.int .u8 a0_0,.int .u32 a0_1] 27 (0,0)) qq_0 hb)
   have n3_:=QA (Qeb qq_b hb)
   clear HO729 BK723 HB
   have HO729:=n0_
   have HO732:=n1_
   have BK723:=n2_
   have HB:=n3_
   clear n0_ n1_ n2_ n3_
   (try clear hb)
   (try clear hb2)
   (try clear hk)
   (try clear hi)
   (try clear ho0)
   obtain⟨Ao16,co16,eo16⟩:=Kd.R_slice HO732.out
   (first|subst eo16 |(injection eo16 with f1_ f2_ f3_;have f4_:=f1_.symm;have f5_:=f3_.symm;clear f1_ f2_ f3_;subst f4_;subst f5_))
   refine hK.out _ _ ⟨(Qct BK723.out 0).trans rfl,(Qct BK723.out 1).trans rfl⟩ (fun hHeld=>?_)
   clear hK K
   refine Qfh (a':=?_) ?_ ?_
   rotate_left
   ·show Act.put _ (some 28) _=_
    simp only[Act.put,List.setIfInBounds_toArray,List.set_cons_zero,List.set_cons_succ,Qfm,Qfn]
    rfl
   refine one_ (i:=3) (N:=some 29) #[true,true,true,true,false,false,false,false,false] rfl rfl (Qgj HT_.out qq_5) (by decide) (fun K hK=>?_)
   refine Qfj Tryz.func33 qq_5 rfl #[.agg #[.int .u8 a0_0,.int .u32 a0_1],.slice Ao16 t730.length co16] (by rfl) rfl rfl qq_1 ?_
   with_reducible refine(Qba.calls k a0_0 a0_1 _ _ t730 t733 t736 _ ?side1 ?side2 A8.out).mono ?_
   (case side1=>repeat(first|exact(Kd.R_reads' HO732.out).2.2 |(with_reducible refine Kd.C_alloc ?_ _) |(with_reducible refine Kd.C_drewN ?_ _) |(with_reducible refine Kd.C_drew ?_)))
   (case side2=>exact(Kd.R_reads' HO732.out).2.1)
   rintro e w17 ⟨v734,rfl,ho0,hb⟩
   refine⟨_,rfl,?_⟩
   have n0_:=QA (Kd.R_below qq_3 hb)
   have n1_:=QA (Kd.R_below qq_3 hb)
   have n2_:=QA (Kd.R_lower ho0 (Qea qq_b))
   have n3_:=QA (Qdg (g:=gb723) (o:=.cells #[.int .u8 a0_0,.int .u32 a0_1] 27 (0,0)) qq_0 hb)
   have n4_:=QA (Qeb qq_b hb)
   clear HO729 HO732 BK723 HB
   have HO729:=n0_
   have HO732:=n1_
   have HO735:=n2_
   have BK723:=n3_
   have HB:=n4_
   clear n0_ n1_ n2_ n3_ n4_
   (try clear hb)
   (try clear hb2)
   (try clear hk)
   (try clear hi)
   (try clear ho0)
   refine hK.out _ _ ⟨(Qct BK723.out 0).trans rfl,(Qct BK723.out 1).trans rfl⟩ (fun hHeld=>?_)
   clear hK K
   refine Qfh (a':=?_) ?_ ?_
   rotate_left
   ·show Act.put _ (some 29) _=_
    simp only[Act.put,List.setIfInBounds_toArray,List.set_cons_zero,List.set_cons_succ,Qfm,Qfn]
    rfl
   refine Qfb (i:=4) (N:=some 25) (v:=?_) (a':=?_) #[true,true,true,true,true,false,false,false,false] rfl rfl (Qgi HT_.out qq_5) (fun _ _ _ h=>h) (Or.inl ⟨by rfl,?_⟩) ?_ ?_
   rotate_left
   ·intro w'
    go_simp
    with_reducible rfl
   rotate_left
   ·exact qq_4
   refine Qfb (i:=5) (N:=some 30) (v:=?_) (a':=?_) #[true,true,true,true,true,true,false,false,false] rfl rfl (Qgi HT_.out qq_5) (fun _ _ _ h=>h) (Or.inl ⟨by rfl,?_⟩) ?_ ?_
   rotate_left
   ·intro w'
    go_simp
    with_reducible rfl
   rotate_left
   ·exact qq_4
   refine Qfb (i:=6) (N:=some 31) (v:=?_) (a':=?_) #[true,true,true,true,true,true,true,false,false] rfl rfl (Qgi HT_.out qq_5) (fun _ _ _ h=>h) (Or.inl ⟨by rfl,?_⟩) ?_ ?_
   rotate_left
   ·intro w'
    go_simp
    with_reducible rfl
   rotate_left
   ·exact qq_4
   refine Qfb (i:=7) (N:=some 4) (v:=?_) (a':=?_) #[true,true,true,true,true,true,true,true,false] rfl rfl (Qgi HT_.out qq_5) (fun _ _ _ h=>h) (Or.inl ⟨by rfl,?_⟩) ?_ ?_
   rotate_left
   ·intro w'
    go_simp
    with_reducible rfl
   rotate_left
   ·exact qq_4
   refine Qfb (i:=8) (N:=some 6) (v:=?_) (a':=?_) #[true,true,true,true,true,true,true,true,true] rfl rfl (Qgi HT_.out qq_5) (fun _ _ _ h=>h) (Or.inl ⟨by rfl,?_⟩) ?_ ?_
   rotate_left
   ·intro w'
    go_simp
    with_reducible rfl
   rotate_left
   ·exact qq_4
   refine Qfd (Qgk HT_.out qq_5) ?_
   try go_wp2
   go_ret3
   exact⟨_,by first|rfl |(simp[Qhh,Qhi]<;>rfl) |(simp[*,Qhh,Qhi]<;>rfl),by(with_reducible repeat(first|apply Kd.R_alloc|apply Kd.R_drewN|apply Kd.R_drew));exact HO735.out,qq_b⟩
  ·rw[if_neg c6]at H
   have c6b0:(t727 == 0)=false:=beq_eq_false_iff_ne.mpr c6
   have c6b1:(t727 != 0)=true:=bne_iff_ne.mpr c6
   simp only[Option.some.injEq,Prod.mk.injEq]at H
   obtain⟨rfl,rfl,rfl⟩:=H
   go_enter Tryz.func43,Tryz.ntmps43
   go_wp2_with (first |((with_reducible refine Qel (N:=2) rfl ?_);refine qq_e 2 #[.int .u8 a0_0,.int .u32 a0_1] 27 ?_;intro gb723 hg w18 hbox hb;have n0_:=QA (Qeb qq_b hb);have n1_:=QA (hbox);have n2_:=QA (qq_s hg:w.heap.size≤gb723);have n3_:=n2_;clear HB;have HB:=n0_;have BK723:=n1_;have GW723:=n2_;have GE723:=n3_;clear n0_ n1_ n2_ n3_ hb hbox hg;have hcz19_0:=qq_c (.int .u8 a0_0) BK723.out 0 rfl;have hcz19_1:=qq_c (.int .u32 a0_1) BK723.out 1 rfl;have hfz19_0:=Qcu BK723.out 0;have hfz19_1:=Qcu BK723.out 1) |((with_reducible refine Qhd (f:=85) rfl ?_);refine Qfk (some 11) rfl rfl Tryz.func85 qq_5 rfl #[.agg #[.int .u8 a0_0,.int .u32 a0_1]] rfl qq_1 ?_;(with_reducible refine(Qal.calls a0_0 a0_1 t724 _ A3.out).mono ?_);rintro e w20 ⟨rfl,hb⟩;refine⟨_,rfl,?_⟩;have n0_:=QA (Qdg (g:=gb723) (o:=.cells #[.int .u8 a0_0,.int .u32 a0_1] 27 (0,0)) qq_0 hb);have n1_:=QA (Qeb qq_b hb);clear BK723 HB;have BK723:=n0_;have HB:=n1_;clear n0_ n1_;(try clear hb);(try clear hb2);(try clear hk);(try clear hi)) |((with_reducible refine Qhd (f:=86) rfl ?_);refine Qfk (some 17) rfl rfl Tryz.func86 qq_5 rfl #[.slice A1 l1.length c1] rfl qq_1 ?_;(with_reducible refine(Qan.calls _ _ l1 t725 t726 t727 _ ?side1 ?side2 A5.out).mono ?_);(case side1=>repeat(first|exact(Kd.C_below HR1.out HB.out) |(with_reducible refine Kd.C_alloc ?_ _) |(with_reducible refine Kd.C_drewN ?_ _) |(with_reducible refine Kd.C_drew ?_)));(case side2=>exact HC1.out);rintro e w21 ⟨v728,rfl,ho0,hb⟩;refine⟨_,rfl,?_⟩;have n0_:=QA (Kd.R_lower ho0 (Qea qq_b));have n1_:=QA (Qdg (g:=gb723) (o:=.cells #[.int .u8 a0_0,.int .u32 a0_1] 27 (0,0)) qq_0 hb);have n2_:=QA (Qeb qq_b hb);clear BK723 HB;have HO729:=n0_;have BK723:=n1_;have HB:=n2_;clear n0_ n1_ n2_;(try clear hb);(try clear hb2);(try clear hk);(try clear hi);(try clear ho0)))
   go_ret3
   exact⟨_,by first|rfl |(simp[Qhh,Qhi]<;>rfl) |(simp[*,Qhh,Qhi]<;>rfl),by first|exact Kd.R_nil _ _ _ _ _|exact Kd.N_nil _ _ _ _ _|exact Kd.V_nil _ _ _ _ _|exact Kd.Q_nil _ _ _ _ _|exact Kd.S_nil _ _ _ _ _,qq_b⟩
 ·rw[if_neg c4]at H
  have c4b0:(t724 == 0)=false:=beq_eq_false_iff_ne.mpr c4
  have c4b1:(t724 != 0)=true:=bne_iff_ne.mpr c4
  simp only[Option.some.injEq,Prod.mk.injEq]at H
  obtain⟨rfl,rfl,rfl⟩:=H
  go_enter Tryz.func43,Tryz.ntmps43
  go_wp2_with (first |((with_reducible refine Qel (N:=2) rfl ?_);refine qq_e 2 #[.int .u8 a0_0,.int .u32 a0_1] 27 ?_;intro gb723 hg w22 hbox hb;have n0_:=QA (Qeb qq_b hb);have n1_:=QA (hbox);have n2_:=QA (qq_s hg:w.heap.size≤gb723);have n3_:=n2_;clear HB;have HB:=n0_;have BK723:=n1_;have GW723:=n2_;have GE723:=n3_;clear n0_ n1_ n2_ n3_ hb hbox hg;have hcz23_0:=qq_c (.int .u8 a0_0) BK723.out 0 rfl;have hcz23_1:=qq_c (.int .u32 a0_1) BK723.out 1 rfl;have hfz23_0:=Qcu BK723.out 0;have hfz23_1:=Qcu BK723.out 1) |((with_reducible refine Qhd (f:=85) rfl ?_);refine Qfk (some 11) rfl rfl Tryz.func85 qq_5 rfl #[.agg #[.int .u8 a0_0,.int .u32 a0_1]] rfl qq_1 ?_;(with_reducible refine(Qal.calls a0_0 a0_1 t724 _ A3.out).mono ?_);rintro e w24 ⟨rfl,hb⟩;refine⟨_,rfl,?_⟩;have n0_:=QA (Qdg (g:=gb723) (o:=.cells #[.int .u8 a0_0,.int .u32 a0_1] 27 (0,0)) qq_0 hb);have n1_:=QA (Qeb qq_b hb);clear BK723 HB;have BK723:=n0_;have HB:=n1_;clear n0_ n1_;(try clear hb);(try clear hb2);(try clear hk);(try clear hi)))
  go_ret3
  exact⟨_,by first|rfl |(simp[Qhh,Qhi]<;>rfl) |(simp[*,Qhh,Qhi]<;>rfl),by first|exact Kd.R_nil _ _ _ _ _|exact Kd.N_nil _ _ _ _ _|exact Kd.V_nil _ _ _ _ _|exact Kd.Q_nil _ _ _ _ _|exact Kd.S_nil _ _ _ _ _,qq_b⟩
end Go.Proofs.YtnnofopfbeklbaaGreat.C
end
