/- Merged texts. -/
import Derived.Test.YteaocbonofboeaaGreatME02
import Derived.Test.YteaocbonofboeaaGreatME03
import Derived.Test.YteaocbonofboeaaGreatME13
import Derived.Test.YteaocbonofboeaaGreatME04
import Derived.Test.YteaocbonofboeaaGreatME15
import Derived.Test.YteaocbonofboeaaGreatME18
import Derived.Test.YteaocbonofboeaaGreatME20
import Derived.Test.YteaocbonofboeaaGreatME07
import Derived.Test.YteaocbonofboeaaGreatME17
import Derived.Test.YteaocbonofboeaaGreatME08
set_option linter.unusedVariables false
set_option linter.unusedSimpArgs false
set_option maxHeartbeats 8000000
set_option maxRecDepth 100000
section
namespace Go.Proofs.YteaocbonofboeaaGreat.C
open Go.RowKit Go.Proofs.YteaocbonofboeaaGreatW.PrintWords Go.Proofs.YteaocbonofboeaaGreatW.PrintLast Go.Proofs.YteaocbonofboeaaGreatW.PrintMore
abbrev Rec:=S37
abbrev Bd:=Room5 × List Int × List Ent
def newB(e s n:Int):Option Bd :=
 (Qcb.f e s n).bind fun q=>(Qbt.f e s n).bind fun p =>
  if q.2.2.2.2.2=0∧p.2=0∧q.1=e∧q.2.1=s∧q.2.2.1=n then some ((e,s,n,q.2.2.2.1,q.2.2.2.2.1),p.1,[])else none
def addB (B:Bd) (r:Rec):Option Bd :=
 if chk r.f0 r.f2 r.f3=0 then
  (Qbu.f r.f0 r.f1 r.f2 r.f3).bind fun p=>(Qcg.f B.1.1 B.1.2.1 p.1.length).bind fun tl =>
   (Qcf.f B.1.1 B.1.2.1 B.1.2.2.1 B.1.2.2.2.1 B.1.2.2.2.2 p.1.length).bind fun q =>
    if p.2=0∧tl=false∧q.2.2.2.2.2=0∧B.2.1.length+p.1.length≤70368744177664∧B.2.2.length≤1099511627776 then
     some ((q.1,q.2.1,q.2.2.1,q.2.2.2.1,q.2.2.2.2.1),B.2.1++p.1,B.2.2++[⟨Qmf 0 (bytesOf r.f2),(B.2.1.length:Int)%4294967296⟩])
    else none
 else none
def wfE(x:Ent):Prop:=(0≤x.f0∧x.f0<18446744073709551616)∧0≤x.f1∧x.f1<4294967296
instance (x:Ent):Decidable (wfE x):=by unfold wfE;exact inferInstance
def Qpg(B:Bd):Int:=(B.2.1.length:Int)%4294967296
def Qph(B:Bd):Option (List Int) :=
 (Qap.f B.1.1 B.1.2.1).bind fun sz =>
  if B.2.2.length≠0∧B.2.2.length≤1099511627776∧(∀x∈B.2.2,wfE x)∧Qow (Qpg B) (Qoe B.2.2)=0∧((B.2.1.length+(Qoz (Qpg B) (Qoe B.2.2)).length:Nat):Int)≤sz∧sz≤70368744177664 then
   some (B.2.1++Qoz (Qpg B) (Qoe B.2.2)++List.replicate (sz.toNat-(B.2.1++Qoz (Qpg B) (Qoe B.2.2)).length) 255)
  else none
def Qpi(B:Bd):Option (List Int) :=
 (Qap.f B.1.1 B.1.2.1).bind fun sz=>if(B.2.1.length:Int)≤sz∧sz≤70368744177664 then some (B.2.1++List.replicate (sz.toNat-B.2.1.length) 255)else none
abbrev IsB(W:World)(b g:Nat)(B:Bd):Prop:=IsBd W b g B.1 B.2.1 B.2.2
theorem Qpj(e s n:Int)(B:Bd)(w:World)(h:newB e s n=some B) :
  Calls Tryz.prog 17 #[.agg #[.int .u8 e,.int .u32 s],.int .u32 n] w fun ee w'=>∃g,ee=.returned (.tuple #[.pointer (some ⟨g,0,none⟩),.int .i64 0])∧IsB w' w.heap.size g B∧Below w.heap.size w w'∧w.heap.size≤g:=by
 unfold newB at h;obtain⟨q,hq,h⟩:=Option.bind_eq_some_iff.mp h;obtain⟨p,hp,h⟩:=Option.bind_eq_some_iff.mp h;obtain⟨q1,q2,q3,q4,q5,q6⟩:=q;obtain⟨p1,p2⟩:=p;split at h
 ·rename_i hc;obtain⟨h1,h2,h3,h4,h5⟩:=hc;dsimp only at h1 h2 h3 h4 h5;subst h1 h2 h3 h4 h5
  cases h
  exact Qmx q1 q2 q3 q4 q5 p1 w hq hp
 ·cases h
theorem add_ofT(b g:Nat)(B B':Bd)(r:Rec)(w:World)(hI:IsB w b g B)(hbg:b≤g)(hbw:b≤w.heap.size)(h:addB B r=some B') :
  Calls Tryz.prog 18 #[.pointer (some ⟨g,0,none⟩),.agg #[.bool r.f0,.int .u64 r.f1,.string r.f2,.string r.f3]] w fun e w'=>e=.returned (.tuple #[.int .u32 ((B.2.1.length:Int)%4294967296),.int .i64 0])∧IsB w' b g B'∧Below b w w'∧Tb g w w':=by
 unfold addB at h;split at h
 ·rename_i hchk;obtain⟨p,hp,h⟩:=Option.bind_eq_some_iff.mp h;obtain⟨tl,htl,h⟩:=Option.bind_eq_some_iff.mp h;obtain⟨q,hq,h⟩:=Option.bind_eq_some_iff.mp h;obtain⟨q1,q2,q3,q4,q5,q6⟩:=q;obtain⟨p1,p2⟩:=p;split at h
  ·rename_i hc;obtain⟨h1,h2,h3,h4,h5⟩:=hc;dsimp only at h1 h2 h3 h4 h5 hq htl;subst h1 h2 h3
   cases h
   have hk:=(Qll hchk).1;exact bd_Add b g B.1 (q1,q2,q3,q4,q5) B.2.1 p1 B.2.2 r.f0 r.f1 r.f2 r.f3 w hI hbg hbw hchk hp htl hq h4 (by omega) h5
  ·cases h
 ·cases h
theorem Qpk(b g:Nat)(B B':Bd)(r:Rec)(w:World)(hI:IsB w b g B)(hbg:b≤g)(hbw:b≤w.heap.size)(h:addB B r=some B') :
  Calls Tryz.prog 18 #[.pointer (some ⟨g,0,none⟩),.agg #[.bool r.f0,.int .u64 r.f1,.string r.f2,.string r.f3]] w fun e w'=>e=.returned (.tuple #[.int .u32 ((B.2.1.length:Int)%4294967296),.int .i64 0])∧IsB w' b g B'∧Below b w w' :=
 (add_ofT b g B B' r w hI hbg hbw h).mono fun _ _ ⟨h1,h2,h3,_⟩=>⟨h1,h2,h3⟩
theorem Qpl:∀ {l:List Ent},Qor l=true→l.Pairwise (fun x y=>cfE x y<0)
 | [],_=>List.Pairwise.nil
 | [a],_=>by simp
 | a :: b :: t,h=>by
  simp only[Qor,Bool.and_eq_true]at h;have ih:=Qpl h.2;refine List.Pairwise.cons (fun x hx=>?_) ih;have hab:cfE a b<0:=by simpa [ltE]using h.1
  rcases List.mem_cons.1 hx with rfl|hx
  ·exact hab
  ·have hbx:=List.rel_of_pairwise_cons ih hx;have t1:ltOf cfE a b=true:=by simpa [Go.Proofs.ltOf]using hab
   have t2:ltOf cfE b x=true:=by simpa [Go.Proofs.ltOf]using hbx
   have:=swoE.trans a b x t1 t2
   simpa [Go.Proofs.ltOf]using this
theorem cfE_irr(x:Ent):¬cfE x x<0:=by
 have:=swoE.irrefl x
 simpa [Go.Proofs.ltOf]using this
theorem Qpm{u:Int}{l:List Ent}(h:Qow u (Qoe l)=0):l.Nodup:=by
 have hr:Qor (Qoe l)=true:=by
  unfold Qow at h;split at h
  ·cases h
  split at h
  ·cases h
  split at h
  ·cases h
  ·rename_i h1;simpa using h1
 have hp:=Qpl hr;have:(Qoe l).Nodup:=hp.imp (fun {x y} hxy e=>by subst e;exact cfE_irr x hxy);exact(Qoo l).nodup_iff.1 this
theorem Qpn(b g:Nat)(B:Bd)(o:List Int)(w:World)(hI:IsB w b g B)(hbw:b≤w.heap.size)(h:Qph B=some o) :
  Calls Tryz.prog 20 #[.pointer (some ⟨g,0,none⟩)] w fun e w'=>∃v:Value,e=.returned (.tuple #[v,.int .i64 0])∧R8 w' w.heap.size v o∧Below w.heap.size w w':=by
 unfold Qph at h;obtain⟨sz,hsz,h⟩:=Option.bind_eq_some_iff.mp h;split at h
 ·rename_i hc;obtain⟨h1,h2,h3,h4,h5,h6⟩:=hc
  cases h
  obtain⟨z,rfl⟩:=Int.eq_ofNat_of_zero_le (show 0≤sz by omega);rw[Int.toNat_natCast];exact bd_Seal b g B.1 B.2.1 B.2.2 z w hI hbw (fun e=>h1 (by rw[e];rfl)) (Qpm h4) h2 h3 h4 hsz (by unfold Qpg at h5;omega) (by omega)
 ·cases h
theorem Qpo(b g:Nat)(B:Bd)(o:List Int)(w:World)(hI:IsB w b g B)(hbw:b≤w.heap.size)(h:Qpi B=some o) :
  Calls Tryz.prog 19 #[.pointer (some ⟨g,0,none⟩)] w fun e w'=>∃v:Value,e=.returned v∧R8 w' w.heap.size v o∧Below w.heap.size w w':=by
 unfold Qpi at h;obtain⟨sz,hsz,h⟩:=Option.bind_eq_some_iff.mp h;split at h
 ·rename_i hc
  cases h
  obtain⟨z,rfl⟩:=Int.eq_ofNat_of_zero_le (show 0≤sz by omega);rw[Int.toNat_natCast];exact Qna b g B.1 B.2.1 B.2.2 z w hI hsz (by omega) (by omega)
 ·cases h
def lim:Nat:=70368744177664
def encG (e s:Int) (into:List Int):Nat→List Rec→List Int→Option Bd→Option (List Int)
 | _,[],out,none=>some out
 | _,[],out,some B=>(Qpi B).bind fun o=>if out.length+o.length≤lim then some (out++o)else none
 | i,r :: rs,out,ob =>
  if i<into.length then
   match ob with
   | none=>if i=0 then(newB e s (rd into (i:Int))).bind fun B=>(addB B r).bind fun B'=>encG e s into (i+1) rs out (some B')else none
   | some B =>
    if i=0 then none
    else if rd into (i:Int)=rd into ((i:Int)-1)then(addB B r).bind fun B'=>encG e s into (i+1) rs out (some B')
    else(Qph B).bind fun o=>if out.length+o.length≤lim then(newB e s (rd into (i:Int))).bind fun B1=>(addB B1 r).bind fun B'=>encG e s into (i+1) rs (out++o) (some B')else none
  else none
def Qby.f(k:Nat)(a0_0 a0_1:Int)(l1:List Rec):Option (List Int × Int) :=
 (Qca.f k a0_0 a0_1 l1).bind fun p=>if p.2.2=0 then(if l1.length≤1099511627776 then(encG a0_0 a0_1 p.1 0 l1 [] none).bind fun o=>some (o,0)else none)else some ([],p.2.2)
def OpenAt(W:World)(b:Nat)(vo pb:Value)(ob:Option Bd)(i:Nat):Prop :=
 match ob with
 | none=>pb=.pointer none∧i=0
 | some B=>∃g b2,pb=.pointer (some ⟨g,0,none⟩)∧b≤b2∧b2≤g∧b2≤W.heap.size∧(∀k,vo.ownBlock=some k→k<b2)∧IsB W b2 g B∧i≠0
theorem Qpp{W W':World}{b b2:Nat}{v:Value}{xs:List Int}(h:R8 W b v xs)(hb:Below b2 W W')(hlt:∀k,v.ownBlock=some k→k<b2):R8 W' b v xs:=by
 refine Kd.R_mono (Kd.R_step (ok:=fun k=>v.ownBlock=some k) ?_ (fun k hk _=>hb.block k (hlt k hk))) (fun _ _=>trivial);exact Kd.R_mono (Kd.R_tight rfl h) (fun k hk=>hk.symm)
theorem Qpq{l:List Rec}{i:Nat}(h:i<l.length):l.drop i=Qiy l (i:Int) :: l.drop (i+1):=by
 rw[List.drop_eq_getElem_cons h];simp[Qiy,List.getElem?_eq_getElem h]
theorem enc_of(k:Nat)(e s:Int)(A1:Option Addr)(c1 n1:Nat)(l1:List Rec)(into sizes o:List Int)(w:World)(p:n1=l1.length)(hr1:Kd.C k37 w A1 n1 l1)(hc1:n1≤c1)(hl1:l1.length≤1099511627776)
  (hp:Qca.f k e s l1=some (into,sizes,0)) (h:encG e s into 0 l1 [] none=some o) :
  Calls Tryz.prog 32 #[.agg #[.int .u8 e,.int .u32 s],.slice A1 n1 c1] w fun ee w'=>∃v,ee=.returned (.tuple #[v,.int .i64 0])∧R8 w' w.heap.size v o∧Below w.heap.size w w':=by
 have hu:=Tryz.underlying28;have hu2:=Tryz.underlying37;have HN:=QA p;have HC:=QA hr1;have HP:=QA hp;have HE:=QA h;have hl1':n1≤1099511627776:=by omega
 clear p hr1 hp h hl1;have hba:Below w.heap.size w (w.alloc (.cells #[.int .u8 e,.int .u32 s] 28)):=Qcs (Below.refl _ _) _;have hbn:=Qeh w (.cells #[.int .u8 e,.int .u32 s] 28);have HCa:=QA (Kd.C_alloc HC.out (.cells #[.int .u8 e,.int .u32 s] 28));have hplan:Calls Tryz.prog 80 #[.agg #[.int .u8 e,.int .u32 s],.slice A1 n1 c1] (w.alloc (.cells #[.int .u8 e,.int .u32 s] 28)) fun ee w'=>∃q t:Value,ee=.returned (.tuple #[q,t,.int .i64 0])∧Kd.R (Kd.int .u32) 26 w' (w.alloc (.cells #[.int .u8 e,.int .u32 s] 28)).heap.size (fun _=>True) q into∧Kd.R (Kd.int .i64) 3 w' (w.alloc (.cells #[.int .u8 e,.int .u32 s] 28)).heap.size (fun _=>True) t sizes∧Below (w.alloc (.cells #[.int .u8 e,.int .u32 s] 28)).heap.size (w.alloc (.cells #[.int .u8 e,.int .u32 s] 28)) w':=by
  have hC:=HCa.out;rw[HN.out]at hC ⊢;exact Qca.calls k e s A1 c1 l1 into sizes 0 _ hC qq_26 HP.out
 have HPL:=QA hplan;clear hplan;obtain⟨c0,D⟩:=box2 hbn
 go_enter Tryz.func32,Tryz.ntmps32
 go_wp2_with (go_at_call 80;refine HPL.out.mono ?_;rintro ee w2 ⟨vi,vz,rfl,hRi,hRz,hb2⟩;obtain⟨Ai,ci,rfl⟩:=Kd.R_slice hRi)
 have hk2:=Qeg hbn hb2;have HBW:=QA (Qcv hba hba.size hb2);have hlt2:w.heap.size<w2.heap.size:=Qdq hk2;obtain⟨b,hbdef⟩:∃b,b=w2.heap.size:=⟨_,rfl⟩;have hCi:Kd.C (Kd.int .u32) w2 Ai into.length into:=(Kd.R_reads' hRi).2.2;have hcell:∀ {W:World} {a:Addr} {v:Value},Below b w2 W→w2.cell? a=some v→W.cell? a=some v:=fun {W a v} hb h=>(hb.cell (by rw[hbdef];exact World.block_lt_of_cell? w2 _ h)).trans h
 have HCI:=QA hCi;have HK2:=QA hk2;have HBD:=QA hbdef;have hC2:Kd.C k37 w2 A1 n1 l1:=Kd.C_below HCa.out hb2;have E:=QA hC2;obtain⟨ni,hni⟩:∃ni,ni=into.length:=⟨_,rfl⟩;rw[← hni];have HNI:=QA hni;clear hbn hb2 hk2 hRi hRz hCi c0 D hba hbdef hC2 hni
 go_loopw [9,10,27] (fun v9 G I wr=>∃(vo pb:Value) (i:Nat) (iv:Int) (out:List Int) (ob:Option Bd),vo=v9∧pb=G∧I=.int .i64 iv∧Aside0 (iv=(i:Int))∧i≤n1∧Aside0 (encG e s into i (l1.drop i) out ob=some o)∧Aside0 (R8 wr b vo out)∧Aside0 (OpenAt wr b vo pb ob i)∧Aside0 (Below b w2 wr)) (fun _ _ i _=>((n1:Int)-intOf i).toNat)
 case atStart=>exact⟨_,_,0,0,[],none,rfl,rfl,rfl,⟨rfl⟩,Nat.zero_le _,HE,⟨Kd.R_nil _ _ _ _ _⟩,⟨⟨rfl,rfl⟩⟩,⟨Below.refl _ _⟩⟩
 case round =>
  obtain⟨vo,pb,i,iv,out,ob,rfl,rfl,rfl,HI,hin,HG,HO,HOP,HB⟩:=hrel
  by_cases hlt:i<n1
  ·have h0:0≤iv:=by have:=HI.out;omega
   have h1:iv<(n1:Int):=by have:=HI.out;omega
   have hb1:decide (iv<(n1:Int))=true:=decide_eq_true h1;obtain⟨ad,rfl,x0,x1,x2,x3⟩:=Qiz E.out iv h0 h1;replace x0:=hcell HB.out x0;replace x1:=hcell HB.out x1;replace x2:=hcell HB.out x2;replace x3:=hcell HB.out x3;obtain⟨r,hr⟩:∃r,r=Qiy l1 iv:=⟨_,rfl⟩;rw[← hr]at x0 x1 x2 x3;have hg:encG e s into i (r :: l1.drop (i+1)) out ob=some o:=by
    have h:=HG.out;rw[Qpq qq_26,← HI.out,← hr]at h;exact h
   clear hr;have hi2:i<ni:=by
    rw[HNI.out];unfold encG at hg;split at hg
    ·assumption
    ·cases hg
   by_cases hz:i=0
   ·have hob:ob=none∧pb=.pointer none:=by
     have h:=HOP.out
     cases ob with
     | none=>exact⟨rfl,h.1⟩
     | some B=>obtain⟨_,_,_,_,_,_,_,_,hn⟩:=h;exact absurd hz hn
    obtain⟨rfl,rfl⟩:=hob;have hz0:(iv == 0)=true:=beq_iff_eq.2 (by have:=HI.out;omega);have hiv:iv=((0:Nat):Int):=by have:=HI.out;omega
    unfold encG at hg;rw[if_pos (by rw[← HNI.out];exact hi2)]at hg;dsimp only at hg;rw[if_pos hz]at hg;obtain⟨B,hB1,hg⟩:=Option.bind_eq_some_iff.mp hg;obtain⟨B',hB2',hg⟩:=Option.bind_eq_some_iff.mp hg;rw[← HI.out]at hB1;obtain⟨adi,rfl,y0⟩:=Kd.at_int HCI.out iv h0 (by have:=HNI.out;have:=HI.out;omega);have hci1:iv<(ni:Int):=by have:=HI.out;omega
    obtain⟨k0,k1⟩:=box2 HK2.out;have hb':Below wr.heap.size wr (wr.alloc (.cells #[.bool r.f0,.int .u64 r.f1,.string r.f2,.string r.f3] 37)):=Qcs (Below.refl _ _) _;have hbz:b≤wr.heap.size:=by rw[HBD.out];exact HB.out.size
    have hB3:=HB.out.trans (Qju hb' hbz);have y1:=hcell hB3 y0;have k2:=hcell hB3 k0;have k3:=hcell hB3 k1;have bk:=Qeh wr (.cells #[.bool r.f0,.int .u64 r.f1,.string r.f2,.string r.f3] 37);have HG':=QA hg;have j:=QA hB1;have l:=QA hB2';have HZ:=QA hz;have HIV:=QA hiv;clear hg hB1 hB2' hz hiv y0 k0 k1;go_wp2
    go_quiet (fail)
    obtain⟨W3,hW3⟩:∃W3,W3=(wr.alloc (.cells #[.bool r.f0,.int .u64 r.f1,.string r.f2,.string r.f3] 37)).drewN nq:=⟨_,rfl⟩;have hbq:Below (wr.alloc (.cells #[.bool r.f0,.int .u64 r.f1,.string r.f2,.string r.f3] 37)).heap.size (wr.alloc (.cells #[.bool r.f0,.int .u64 r.f1,.string r.f2,.string r.f3] 37)) W3:=by rw[hW3];exact Qcu (Below.refl _ _) _
    have hB4:Below wr.heap.size wr W3:=Qcv hb' hb'.size hbq;have bk4:=Qeg bk hbq;have z1:=Qcw hbq y1;have z2:=Qcw hbq k2;have z3:=Qcw hbq k3;rw[← hW3];clear hW3 y1 k2 k3 bk hb' hbq hB3;go_wp2
    go_region_held3 (fun w'=>w'.cell? ⟨w.heap.size,0,none⟩=some (.int .u8 e)∧w'.cell? ⟨w.heap.size,1,none⟩=some (.int .u32 s)∧w'.cell? (adi.add iv.toNat)=some (.int .u32 (YteaocbonofboeaaGreatW.PrintWords.rd into iv))) (first|exact⟨z2,z3,z1⟩|exact⟨t2,t3,t1⟩) (first
     |(go_at_call 17;refine(Qpj e s (YteaocbonofboeaaGreatW.PrintWords.rd into iv) B W3.drew j.out).mono ?_;rintro ee w4 ⟨g,rfl,hIB,hb4,u⟩;have t1:=Qcw hb4 z1;have t2:=Qcw hb4 z2;have t3:=Qcw hb4 z3))
    have bk5:=Qeg (w:=W3.drew) bk4 hb4;obtain⟨q0,q1,q2,q3⟩:=box4 bk5;have hsz4:W3.drew.heap.size≤w4.heap.size:=hb4.size;have HIB:=QA hIB;clear z1 z2 z3 t1 t2 t3 hIB bk4
    go_wp2_with (go_at_call 18;refine(Qpk W3.drew.heap.size g B B' r w4 HIB.out u hsz4 l.out).mono ?_;rintro ee w6 ⟨rfl,hIB6,hb6⟩)
    go_roundw
    case rel =>
     have hw3:wr.heap.size≤W3.drew.heap.size:=hB4.size;have hol:∀k,vo.ownBlock=some k→k<W3.drew.heap.size:=fun k hk=>Nat.lt_of_lt_of_le (Kd.R_lt HO.out k hk) hw3
     have hO3:=R8.kept HO.out hB4;have hO4:R8 w4 b vo out:=R8.kept (W:=W3.drew) hO3 hb4;have hO6:=Qpp hO4 hb6 hol;have hs6:W3.drew.heap.size≤w6.heap.size:=Nat.le_trans hsz4 hb6.size;refine⟨vo,_,i+1,iv+1,out,some B',rfl,rfl,by go_num,⟨by have:=HI.out;omega⟩,hlt,HG',⟨hO6⟩,⟨g,W3.drew.heap.size,rfl,Nat.le_trans hbz hw3,u,hs6,hol,hIB6,by omega⟩,⟨?_⟩⟩;exact HB.out.trans ((Qju hB4 hbz).trans ((Qct (Below.refl _ _)).trans ((Qju hb4 (Nat.le_trans hbz hw3)).trans (Qju hb6 (Nat.le_trans hbz hw3)))))
    case measure=>simp[intOf];omega
   ·obtain⟨B,rfl⟩:∃B,ob=some B:=by
     have h:=HOP.out
     cases ob with
     | none=>exact absurd h.2 hz
     | some B=>exact⟨B,rfl⟩
    obtain⟨g,b2,rfl,hbb2,hb2g,hb2z,hol,hIB0,_⟩:=HOP.out;have HIB0:=QA hIB0;have hz0:(iv == 0)=false:=beq_eq_false_iff_ne.2 (by have:=HI.out;omega);obtain⟨jv,hjv⟩:∃jv,jv=iv-1:=⟨_,rfl⟩;have hj0:0≤jv:=by have:=HI.out;omega
    unfold encG at hg;rw[if_pos (by rw[← HNI.out];exact hi2)]at hg;dsimp only at hg;rw[if_neg hz,← HI.out,← hjv]at hg;have HOL:=QA hol;have HZ:=QA hz;clear hIB0 hol hz HOP
    by_cases heq:YteaocbonofboeaaGreatW.PrintWords.rd into iv=YteaocbonofboeaaGreatW.PrintWords.rd into jv
    ·rw[if_pos heq]at hg;obtain⟨B',hB2',hg⟩:=Option.bind_eq_some_iff.mp hg;have HG':=QA hg;have l:=QA hB2';have hne:(YteaocbonofboeaaGreatW.PrintWords.rd into iv != YteaocbonofboeaaGreatW.PrintWords.rd into jv)=false:=by rw[heq];simp
     clear heq hg hB2';obtain⟨adi,rfl,y0⟩:=Kd.at_int HCI.out iv h0 (by have:=HNI.out;have:=HI.out;omega);obtain⟨adj,ej,yj0⟩:=Kd.at_int HCI.out jv hj0 (by have:=HNI.out;have:=HI.out;omega)
     cases ej
     have hci1:iv<(ni:Int):=by have:=HI.out;omega
     have hcj1:jv<(ni:Int):=by omega
     obtain⟨k0,k1⟩:=box2 HK2.out;have hb':Below wr.heap.size wr (wr.alloc (.cells #[.bool r.f0,.int .u64 r.f1,.string r.f2,.string r.f3] 37)):=Qcs (Below.refl _ _) _;have hbz:b≤wr.heap.size:=by rw[HBD.out];exact HB.out.size
     have hB3:=HB.out.trans (Qju hb' hbz);have y1:=hcell hB3 y0;have yj1:=hcell hB3 yj0;have k2:=hcell hB3 k0;have k3:=hcell hB3 k1;have bk:=Qeh wr (.cells #[.bool r.f0,.int .u64 r.f1,.string r.f2,.string r.f3] 37);have HJ:=QA hjv;have hwr:IntKind.i64.wrap (iv-1)=jv:=by rw[IntWalk.i64_in _ (by omega)];exact hjv.symm
     clear hjv y0 yj0 k0 k1;go_wp2
     go_quiet (fail)
     obtain⟨W3,hW3⟩:∃W3,W3=(wr.alloc (.cells #[.bool r.f0,.int .u64 r.f1,.string r.f2,.string r.f3] 37)).drewN nq:=⟨_,rfl⟩;have hbq:Below (wr.alloc (.cells #[.bool r.f0,.int .u64 r.f1,.string r.f2,.string r.f3] 37)).heap.size (wr.alloc (.cells #[.bool r.f0,.int .u64 r.f1,.string r.f2,.string r.f3] 37)) W3:=by rw[hW3];exact Qcu (Below.refl _ _) _
     have hB4:Below wr.heap.size wr W3:=Qcv hb' hb'.size hbq;have bk4:=Qeg bk hbq;have z1:=Qcw hbq y1;have z2:=Qcw hbq k2;have z3:=Qcw hbq k3;rw[← hW3];clear hW3 y1 yj1 k2 k3 bk hb' hbq hB3 hwr;obtain⟨q0,q1,q2,q3⟩:=box4 bk4;have hs3:b2≤W3.heap.size:=Nat.le_trans hb2z hB4.size;have HIB3:=QA (IsBd.kept HIB0.out hB4);clear z1 z2 z3 bk4
     go_wp2_with (go_at_call 18;refine(Qpk b2 g B B' r W3 HIB3.out hb2g hs3 l.out).mono ?_;rintro ee w6 ⟨rfl,hIB6,hb6⟩)
     go_roundw
     case rel =>
      have hO6:=Qpp (R8.kept HO.out hB4) hb6 HOL.out;refine⟨vo,_,i+1,iv+1,out,some B',rfl,rfl,by go_num,⟨by have:=HI.out;omega⟩,hlt,HG',⟨hO6⟩,⟨g,b2,rfl,hbb2,hb2g,Nat.le_trans hs3 hb6.size,HOL.out,hIB6,by omega⟩,⟨?_⟩⟩;exact HB.out.trans ((Qju hB4 hbz).trans (Qju hb6 hbb2))
     case measure=>simp[intOf];omega
    ·rw[if_neg heq]at hg;obtain⟨oo,hseal,hg⟩:=Option.bind_eq_some_iff.mp hg;have hoo:out.length+oo.length≤lim:=by
      apply Decidable.byContradiction;intro hn;rw[if_neg hn]at hg
      cases hg
     rw[if_pos hoo]at hg;obtain⟨B1,hB1,hg⟩:=Option.bind_eq_some_iff.mp hg;obtain⟨B',hB2',hg⟩:=Option.bind_eq_some_iff.mp hg;have HG':=QA hg;have j:=QA hB1;have HBA:=QA hB2';have HSL:=QA hseal;have hoo':out.length+oo.length≤70368744177664:=hoo;have hne:(YteaocbonofboeaaGreatW.PrintWords.rd into iv != YteaocbonofboeaaGreatW.PrintWords.rd into jv)=true:=by simp[heq]
     clear heq hg hB1 hB2' hseal hoo;obtain⟨adi,rfl,y0⟩:=Kd.at_int HCI.out iv h0 (by have:=HNI.out;have:=HI.out;omega);obtain⟨adj,ej,yj0⟩:=Kd.at_int HCI.out jv hj0 (by have:=HNI.out;have:=HI.out;omega)
     cases ej
     have hci1:iv<(ni:Int):=by have:=HI.out;omega
     have hcj1:jv<(ni:Int):=by omega
     obtain⟨k0,k1⟩:=box2 HK2.out;have hb':Below wr.heap.size wr (wr.alloc (.cells #[.bool r.f0,.int .u64 r.f1,.string r.f2,.string r.f3] 37)):=Qcs (Below.refl _ _) _;have hbz:b≤wr.heap.size:=by rw[HBD.out];exact HB.out.size
     have hB3:=HB.out.trans (Qju hb' hbz);have y1:=hcell hB3 y0;have yj1:=hcell hB3 yj0;have k2:=hcell hB3 k0;have k3:=hcell hB3 k1;have bk:=Qeh wr (.cells #[.bool r.f0,.int .u64 r.f1,.string r.f2,.string r.f3] 37);have HJ:=QA hjv;have hwr:IntKind.i64.wrap (iv-1)=jv:=by rw[IntWalk.i64_in _ (by omega)];exact hjv.symm
     clear hjv yj0;go_wp2
     go_quiet (fail)
     obtain⟨W3,hW3⟩:∃W3,W3=(wr.alloc (.cells #[.bool r.f0,.int .u64 r.f1,.string r.f2,.string r.f3] 37)).drewN nq:=⟨_,rfl⟩;have hbq:Below (wr.alloc (.cells #[.bool r.f0,.int .u64 r.f1,.string r.f2,.string r.f3] 37)).heap.size (wr.alloc (.cells #[.bool r.f0,.int .u64 r.f1,.string r.f2,.string r.f3] 37)) W3:=by rw[hW3];exact Qcu (Below.refl _ _) _
     have hB4:Below wr.heap.size wr W3:=Qcv hb' hb'.size hbq;have bk4:=Qeg bk hbq;have z1:=Qcw hbq y1;have z2:=Qcw hbq k2;have z3:=Qcw hbq k3;rw[← hW3];clear hW3 y1 yj1 k2 k3 bk hb' hbq hB3 hwr z1 z2 z3;have hs3:b2≤W3.heap.size:=Nat.le_trans hb2z hB4.size;have HIB3:=QA (IsBd.kept HIB0.out hB4);have J:=QA (R8.kept HO.out hB4)
     go_wp2_with (first
      |(go_at_call 20;refine(Qpn b2 g B oo W3 HIB3.out hs3 HSL.out).mono ?_;rintro ee w4 ⟨v4,rfl,hR4,hb4⟩;obtain⟨A4,n4,c4,rfl,m,hl4,hC4⟩:=R8.reads hR4;have n:=QA hC4;have d:=QA (R8.kept J.out hb4);have bk5:=Qeg bk4 hb4;clear hR4 hC4 bk4)
      |(at_builtin;go_loud (refine Kd.R_append_rows (Kd.int .u8) (Rr:=fun x cs=>cs=[.int .u8 x]) (w0:=w4) b rfl (.tmp 53) (.tmp 54) 40 5 (.int .u8 0) 1 rfl Tryz.underlying40 Qit rfl (by decide) (by omega) vo out oo A4 n4 c4 (fun _=>True) (fun _=>False) rfl rfl d.out n.out (fun _ _ h=>h) (fun _ hk=>hk.elim) (fun _ _=>trivial) (Below.refl _ _) (Nat.le_trans hbz (Nat.le_trans hB4.size hb4.size)) ?bL ?_;(case bL=>have:=m.out;omega);intro v5 w5 hR5 hb5 y hat5)))
     have c:=QA (show Below b w2 w5 from((HB.out.trans (Qju hB4 hbz)).trans (Qju hb4 (Nat.le_trans hbz hB4.size))).trans hb5);have bk6:=Qdt bk5 y (R8.clean d.out bk5 (by decide));have z1:=hcell (W:=w5.drew) (c.out.trans (Qct (Below.refl _ _))) y0;have z2:=hcell (W:=w5.drew) (c.out.trans (Qct (Below.refl _ _))) k0;have z3:=hcell (W:=w5.drew) (c.out.trans (Qct (Below.refl _ _))) k1;have z:=QA hR5;have hb5z:b≤w5.drew.heap.size:=by rw[HBD.out];exact c.out.size
     clear hR5 hat5 hb5 hb4 y0 k0 k1 bk5
     go_region_held3 (fun w'=>w'.cell? ⟨w.heap.size,0,none⟩=some (.int .u8 e)∧w'.cell? ⟨w.heap.size,1,none⟩=some (.int .u32 s)∧w'.cell? (adi.add iv.toNat)=some (.int .u32 (YteaocbonofboeaaGreatW.PrintWords.rd into iv))) (first|exact⟨z2,z3,z1⟩|exact⟨t2,t3,t1⟩) (first
      |(go_at_call 17;refine(Qpj e s (YteaocbonofboeaaGreatW.PrintWords.rd into iv) B1 w5.drew j.out).mono ?_;rintro ee w6 ⟨g6,rfl,hIB,hb6,A⟩;have t1:=Qcw hb6 z1;have t2:=Qcw hb6 z2;have t3:=Qcw hb6 z3))
     have bk7:=Qeg (w:=w5.drew) bk6 hb6;obtain⟨q0,q1,q2,q3⟩:=box4 bk7;have hsz6:w5.drew.heap.size≤w6.heap.size:=hb6.size;have HIB:=QA hIB;clear z1 z2 z3 t1 t2 t3 hIB bk6
     go_wp2_with (go_at_call 18;refine(Qpk w5.drew.heap.size g6 B1 B' r w6 HIB.out A hsz6 HBA.out).mono ?_;rintro ee w7 ⟨rfl,hIB7,hb7⟩)
     go_roundw
     case rel =>
      have hol5:∀k,v5.ownBlock=some k→k<w5.drew.heap.size:=fun k hk=>Kd.R_lt z.out k hk
      have hO6:R8 w6 b v5 (out++oo):=R8.kept (W:=w5.drew) z.out hb6;have hO7:=Qpp hO6 hb7 hol5;refine⟨v5,_,i+1,iv+1,out++oo,some B',rfl,rfl,by go_num,⟨by have:=HI.out;omega⟩,hlt,HG',⟨hO7⟩,⟨g6,w5.drew.heap.size,rfl,hb5z,A,Nat.le_trans hsz6 hb7.size,hol5,hIB7,by omega⟩,⟨?_⟩⟩;exact c.out.trans ((Qct (Below.refl _ _)).trans ((Qju hb6 hb5z).trans (Qju hb7 hb5z)))
     case measure=>simp[intOf];omega
  ·have hin':i=n1:=by omega
   have hge:¬iv<(n1:Int):=by have:=HI.out;omega
   have hb1:decide (iv<(n1:Int))=false:=decide_eq_false hge;have hbz:b≤wr.heap.size:=by rw[HBD.out];exact HB.out.size
   have hwb:w.heap.size≤b:=by rw[HBD.out];omega
   have hg:encG e s into i [] out ob=some o:=by
    have h:=HG.out;rw[List.drop_of_length_le qq_26]at h;exact h
   cases ob with
   | none =>
    obtain⟨rfl,_⟩:=HOP.out;simp only[encG]at hg;have ho:out=o:=Option.some.inj hg;have HOO:=QA ho;clear ho hg HOP hin';go_wp2;refine bodyPost_ret (results_tmp2 rfl _ _ _) rfl ?_;refine⟨_,rfl,?_,HBW.out.trans (Qju HB.out hwb)⟩;rw[← HOO.out];exact R8.low HO.out hwb
   | some B =>
    obtain⟨g,b2,rfl,hbb2,hb2g,hb2z,hol,hIB0,_⟩:=HOP.out;simp only[encG]at hg;obtain⟨oo,hopen,hg⟩:=Option.bind_eq_some_iff.mp hg;have hoo:out.length+oo.length≤lim:=by
     apply Decidable.byContradiction;intro hn;rw[if_neg hn]at hg
     cases hg
    rw[if_pos hoo]at hg;have hoo':out.length+oo.length≤70368744177664:=hoo;have ho:out++oo=o:=Option.some.inj hg;have HOO:=QA ho;have HOPN:=QA hopen;have HIB0:=QA hIB0;clear ho hg HOP hin' hopen hIB0 hol hoo
    go_wp2_with (first
     |(go_at_call 19;refine(Qpo b2 g B oo wr HIB0.out hb2z HOPN.out).mono ?_;rintro ee w4 ⟨v4,rfl,hR4,hb4⟩;obtain⟨A4,n4,c4,rfl,m,hl4,hC4⟩:=R8.reads hR4;have n:=QA hC4;have d:=QA (R8.kept HO.out hb4);clear hR4 hC4)
     |(at_builtin;go_loud (refine Kd.R_append_rows (Kd.int .u8) (Rr:=fun x cs=>cs=[.int .u8 x]) (w0:=w4) b rfl (.tmp 71) (.tmp 73) 40 5 (.int .u8 0) 1 rfl Tryz.underlying40 Qit rfl (by decide) (by omega) vo out oo A4 n4 c4 (fun _=>True) (fun _=>False) rfl rfl d.out n.out (fun _ _ h=>h) (fun _ hk=>hk.elim) (fun _ _=>trivial) (Below.refl _ _) (Nat.le_trans hbz hb4.size) ?bL ?_;(case bL=>have:=m.out;omega);intro v5 w5 hR5 hb5 y hat5)))
    refine bodyPost_ret (results_tmp2 rfl _ _ _) rfl ?_;refine⟨_,rfl,?_,HBW.out.trans (Qju ((HB.out.trans (Qju hb4 hbz)).trans hb5) hwb)⟩;rw[← HOO.out];exact R8.low hR5 hwb
theorem enc_not(k:Nat)(e s er:Int)(A1:Option Addr)(c1 n1:Nat)(l1:List Rec)(into sizes:List Int)(w:World)(a:n1=l1.length)(hr1:Kd.C k37 w A1 n1 l1)(hc1:n1≤c1)
  (hp:Qca.f k e s l1=some (into,sizes,er)) (her:er≠0) :
  Calls Tryz.prog 32 #[.agg #[.int .u8 e,.int .u32 s],.slice A1 n1 c1] w fun ee w'=>∃v,ee=.returned (.tuple #[v,.int .i64 er])∧R8 w' w.heap.size v []∧Below w.heap.size w w':=by
 have hu:=Tryz.underlying28;have HN:=QA a;have HC:=QA hr1;have HP:=QA hp;have hnb:(er == 0)=false:=beq_eq_false_iff_ne.2 her;have hnc:(er != 0)=true:=bne_iff_ne.2 her;clear a hr1 hp her;have hba:Below w.heap.size w (w.alloc (.cells #[.int .u8 e,.int .u32 s] 28)):=Qcs (Below.refl _ _) _;have hbn:=Qeh w (.cells #[.int .u8 e,.int .u32 s] 28);have HCa:=QA (Kd.C_alloc HC.out (.cells #[.int .u8 e,.int .u32 s] 28));have hplan:Calls Tryz.prog 80 #[.agg #[.int .u8 e,.int .u32 s],.slice A1 n1 c1] (w.alloc (.cells #[.int .u8 e,.int .u32 s] 28)) fun ee w'=>∃b c:Value,ee=.returned (.tuple #[b,c,.int .i64 er])∧Below (w.alloc (.cells #[.int .u8 e,.int .u32 s] 28)).heap.size (w.alloc (.cells #[.int .u8 e,.int .u32 s] 28)) w':=by
  have hC:=HCa.out;rw[HN.out]at hC ⊢;exact(Qca.calls k e s A1 c1 l1 into sizes er _ hC qq_26 HP.out).mono fun _ _ ⟨v0,v1,h1,_,_,h4⟩=>⟨v0,v1,h1,h4⟩
 have HPL:=QA hplan;clear hplan;obtain⟨c0,d⟩:=box2 hbn
 go_enter Tryz.func32,Tryz.ntmps32
 go_wp2_with (go_at_call 80;refine HPL.out.mono ?_;rintro ee w2 ⟨vi,vz,rfl,hb2⟩)
 refine bodyPost_ret (results_tmp2 rfl _ _ _) rfl ?_;exact⟨_,rfl,Kd.R_nil _ _ _ _ _,Qcv hba hba.size hb2⟩
theorem Qby.calls(k:Nat)(a0_0:Int)(a0_1:Int)(A1:Option Addr)(c1:Nat)(l1:List S37)(r1:List Int)(r2:Int)(w:World)(hr1:Kd.C k37 w A1 l1.length l1)(hc1:l1.length≤c1)(h:Qby.f k a0_0 a0_1 l1=some (r1,r2)) :
  Calls Tryz.prog 32 #[.agg #[.int .u8 a0_0,.int .u32 a0_1],.slice A1 l1.length c1] w fun e w'=>∃v0_:Value,e=.returned (.tuple #[v0_,.int .i64 r2])∧Kd.R (Kd.int .u8) 5 w' w.heap.size (fun _=>True) v0_ r1∧Below w.heap.size w w':=by
 unfold Qby.f at h;obtain⟨⟨into,sizes,er⟩,hp,h⟩:=Option.bind_eq_some_iff.mp h;dsimp only at h
 by_cases her:er=0
 ·subst her;rw[if_pos rfl]at h
  by_cases hl:l1.length≤1099511627776
  ·rw[if_pos hl]at h;obtain⟨o,ho,h⟩:=Option.bind_eq_some_iff.mp h;simp only[Option.some.injEq,Prod.mk.injEq]at h;obtain⟨rfl,rfl⟩:=h;exact enc_of k a0_0 a0_1 A1 c1 l1.length l1 into sizes _ w rfl hr1 hc1 hl hp ho
  ·rw[if_neg hl]at h;cases h
 ·rw[if_neg her]at h;simp only[Option.some.injEq,Prod.mk.injEq]at h;obtain⟨rfl,rfl⟩:=h;exact enc_not k a0_0 a0_1 _ A1 c1 l1.length l1 into sizes w rfl hr1 hc1 hp her
def recA:Rec:=⟨false,0,⟨#[97]⟩,⟨#[]⟩⟩
def frA:List Int:=match Qbu.f false 0 ⟨#[97]⟩ ⟨#[]⟩with|some p=>p.1|none=>[]
def oA:List Int:=h12++frA++List.replicate (4096-(h12++frA).length) 255
theorem encA0:Qby.f 9 12 1 []=some ([],0):=by kernel_rfl
theorem encA1:Qby.f 40 12 1 [recA]=some (oA,0):=by kernel_rfl
theorem oA_len:oA.length=4096:=by kernel_rfl
def Qaw.f:Option Bool:=some true
theorem Qaw.calls(r:Bool)(w:World)(h:Qaw.f=some r) :
  Calls Tryz.prog 47 #[] w fun e w'=>e=.returned (.bool r)∧Below w.heap.size w w':=by
 obtain rfl:=Option.some.inj h;have hu:=Tryz.underlying28;have hu2:=Tryz.underlying37;have bn:=Qeh w (.cells #[.int .u8 12,.int .u32 1] 28);have hb0:Below w.heap.size w (w.alloc (.cells #[.int .u8 12,.int .u32 1] 28)):=Qcs (Below.refl _ _) _;obtain⟨c0,c1⟩:=box2 bn;have hnil:∀W:World,Kd.C k37 W none ([]:List Rec).length []:=fun W=>Kd.C_nil _ W
 have HNIL:=QA hnil;have hone:∀W:World,Kd.C k37 (W.alloc (.cells #[.bool false,.int .u64 0,.string ⟨#[97]⟩,.string ⟨#[]⟩] 37)) (some ⟨W.heap.size,0,none⟩) [recA].length [recA]:=fun W=>by
  have hR:Kd.R k37 37 (W.alloc (.cells #[.bool false,.int .u64 0,.string ⟨#[97]⟩,.string ⟨#[]⟩] 37)) W.heap.size (fun _=>True) (.slice (some ⟨W.heap.size,0,none⟩) 1 1) [recA]:=by
   refine⟨fun _ _=>trivial,[.bool false,.int .u64 0,.string ⟨#[97]⟩,.string ⟨#[]⟩],World.ownsRow_lit (base:=W.heap.size) (e:=37) (size:=4) W #[.bool false,.int .u64 0,.string ⟨#[97]⟩,.string ⟨#[]⟩] 1 (Nat.le_refl _) (by decide) rfl,rfl,fun j p hj=>?_⟩;obtain⟨hj1,rfl⟩:=List.getElem?_eq_some_iff.1 hj;obtain rfl:j=0:=by simpa using hj1
   exact Qix _ _ _ recA
  exact(Kd.R_reads' hR).2.2
 have HONE:=QA hone;clear hnil hone
 go_enter Tryz.func47,Tryz.ntmps47
 go_wp2_with (first
  |(go_at_call_of 32 (Value.slice none 0 0);refine(Qby.calls 9 12 1 none 0 [] [] 0 _ (HNIL.out _) (Nat.le_refl _) encA0).mono ?_;rintro e w1 ⟨v1,rfl,hR1,hb1⟩;obtain⟨A1,n1,g,rfl,c,hl1,hC1⟩:=R8.reads hR1;have a:n1=0:=c.out;subst a;have bk1:=Qeg bn hb1;clear c0 c1;obtain⟨c0,c1⟩:=box2 bk1)
  |(go_at_call 32;go_loud (refine(Qby.calls 40 12 1 (some ⟨w1.heap.size,0,none⟩) 1 [recA] oA 0 _ (HONE.out w1) (Nat.le_refl _) encA1).mono ?_;rintro e w2 ⟨v2,rfl,hR2,hb2⟩;obtain⟨A2,n2,c2,rfl,d,hl2,hC2⟩:=R8.reads hR2;have b:n2=4096:=d.out.trans oA_len;subst b))
  |(go_at_call 14;refine(Qau.calls true _ rfl).mono ?_;rintro e w3 ⟨rfl,hb3⟩))
 go_ret
 have hb12:=(Qcv hb0 hb0.size hb1);have hz1:w.heap.size≤w1.heap.size:=hb12.size;have hb2':Below w1.heap.size w1 w2:=Qcv (Qcs (Below.refl _ _) _) (by rw[World.size_alloc];omega) hb2;exact⟨rfl,Qcv (Qcv hb12 hz1 hb2') (Nat.le_trans hz1 hb2'.size) hb3⟩
end Go.Proofs.YteaocbonofboeaaGreat.C
end
