/- Texts of this claim's author and of the print of its functions, merged by merge.py. -/
import Derived.Test.YtnnofopfbeklbaaGreatMH02
import Derived.Test.YtnnofopfbeklbaaGreatMH09
import Derived.Test.YtnnofopfbeklbaaGreatMH10
import Derived.Test.YtnnofopfbeklbaaGreatMH20
import Derived.Test.YtnnofopfbeklbaaGreatMH11
import Derived.Test.YtnnofopfbeklbaaGreatMH26
import Derived.Test.YtnnofopfbeklbaaGreatMH27
import Derived.Test.YtnnofopfbeklbaaGreatMH08
import Derived.Test.YtnnofopfbeklbaaGreatMH23
import Derived.Test.YtnnofopfbeklbaaGreatMH24
import Derived.Test.YtnnofopfbeklbaaGreatMH12
import Derived.Test.YtnnofopfbeklbaaGreatMH25
import Derived.WalkLawsBesides
import Derived.Recover
import Derived.Test.YtnnofopfbeklbaaGreatMH21
import Derived.Test.YtnnofopfbeklbaaGreatMH13
set_option linter.unusedVariables false
set_option linter.unusedSimpArgs false
set_option maxHeartbeats 8000000
set_option maxRecDepth 100000
section
namespace Go.Proofs.YtnnofopfbeklbaaGreat.C
open Go.RowKit Go.Proofs.YtnnofopfbeklbaaGreatW.PrintWords Go.Proofs.YtnnofopfbeklbaaGreatW.PrintLast Go.Proofs.YtnnofopfbeklbaaGreatW.PrintMore
def ltE(x y:Ent):Bool:=decide (cfE x y<0)
def Qpw:List Ent→Bool
 | []=>true
 | [_]=>true
 | a :: b :: t=>ltE a b && Qpw (b :: t)
theorem rdE(l:List Ent)(i:Nat)(h:i<l.length):Qjf l (i:Int)=l[i]:=by simp[Qjf,List.getElem?_eq_getElem h]
theorem Qpx(x y:Ent)(k:Nat)(hk:4≤k):Qco.f k x.f0 x.f1 y.f0 y.f1=some (cfE x y):=by
 unfold Qco.f
 rw[Qop,Option.bind_some,Qoq,Option.bind_some,Qdl (g:=fun k=>Qai.f k [ci x.f0 y.f0,ci x.f1 y.f1]) (Qai.mono _) hk (or_is _ _),Option.bind_some,Qor]
theorem Qpy{l:List Ent}{i:Nat}(h:i+1<l.length):Qpw (l.drop i)=(ltE l[i] l[i+1] && Qpw (l.drop (i+1))):=by
 rw[List.drop_eq_getElem_cons (by omega),List.drop_eq_getElem_cons h]
 rfl
theorem Qpz(l:List Ent)(hl:l.length≤1099511627776):∀(d i k:Nat),i+d=l.length→1≤i→d+6≤k→Qcq.l0 k l (i:Int)=some (Qpw (l.drop (i-1)))
 | 0,i,k,h,hi,hk=>by
  obtain⟨k,rfl⟩:∃m,k=m+1:=⟨k-1,by omega⟩
  unfold Qcq.l0
  rw[if_neg (by omega)]
  have h1:(l.drop (i-1)).length≤1:=by rw[List.length_drop];omega
  match hd:l.drop (i-1),h1 with
  | [],_=>rfl
  | [_],_=>rfl
 | d+1,i,k,h,hi,hk=>by
  obtain⟨k,rfl⟩:∃m,k=m+1:=⟨k-1,by omega⟩
  obtain⟨j,rfl⟩:∃j,i=j+1:=⟨i-1,by omega⟩
  have w1:wrap64 (((j+1:Nat):Int)-1)=(j:Int):=by unfold wrap64;omega
  have w2:wrap64 (((j+1:Nat):Int)+1)=((j+2:Nat):Int):=by unfold wrap64;omega
  unfold Qcq.l0
  rw[w1,w2,rdE l (j+1) (by omega),rdE l j (by omega)]
  rw[if_pos (by omega)]
  clear w1 w2
  have hc:=Qpx l[j] l[j+1] k (by omega)
  have ih:=Qpz l hl d (j+2) k (by omega) (by omega) (by omega)
  rw[show j+2-1=j+1 by omega]at ih
  rw[show j+1-1=j by omega,Qpy (by omega)]
  simp only[if_pos (show(0:Int)≤(j:Int)by omega),if_pos (show(j:Int)<(l.length:Int)by omega),if_pos (show(0:Int)≤((j+1:Nat):Int)by omega),if_pos (show((j+1:Nat):Int)<(l.length:Int)by omega),hc,Option.bind_some,ih]
  unfold ltE
  by_cases h0:cfE l[j] l[j+1]<0
  ·simp[h0,show ¬(0≤cfE l[j] l[j+1])by omega]
  ·simp[h0,show(0≤cfE l[j] l[j+1])by omega]
theorem Qqa(l:List Ent)(hl:l.length≤1099511627776):Qcq.f (l.length+8) l=some (Qpw l):=by
 unfold Qcq.f
 rcases Nat.eq_zero_or_pos l.length with h0|h0
 ·have h1:l=[]:=List.eq_nil_of_length_eq_zero h0
  subst h1
  rfl
 ·exact Qpz l hl (l.length-1) 1 (l.length+8) (by omega) (by omega) (by omega)
def Qqb(used:Int)(l:List Ent):Int:=if l.length=0 then 4 else if 1048576<l.length then 3 else if Qpw l=false then 8 else if l.any (fun x=>decide (used≤x.f1))=true then 4 else 0
theorem Qqc(used:Int)(tv:Value)(B:Nat)(w:World)(hv:w.heap[B]? = some (.cells #[.int .u32 used,tv] 127 (0,0))) :
  PredBelow Tryz.prog 159 #[.pointer (some ⟨B,0,none⟩)] (fun x=>.agg (encE x).toArray) (fun x=>decide (used≤x.f1)) w:=fun W x hb=>by
 have hB:=Qdr hv
 have hc:W.cell? ⟨B,0,none⟩=some (.int .u32 used):=(Qds (Qeh hv hb) 0).trans rfl
 have hne:B≠W.heap.size:=by have:=hb.size;omega
 have hu:=Tryz.underlying117
 have hu2:=Tryz.underlying127
 have hBW:B<W.heap.size:=Nat.lt_of_lt_of_le hB hb.size
 show Calls Tryz.prog 159 #[.agg #[.int .u64 x.f0,.int .u32 x.f1],.pointer (some ⟨B,0,none⟩)] W _
 have b1:=Qei W (.cells #[.int .u64 x.f0,.int .u32 x.f1] 117)
 have hb1:Below W.heap.size W (W.alloc (.cells #[.int .u64 x.f0,.int .u32 x.f1] 117)):=Qcu (Below.refl _ _) _
 have hca:(W.alloc (.cells #[.int .u64 x.f0,.int .u32 x.f1] 117)).cell? ⟨B,0,none⟩=some (.int .u32 used):=(Qds (Qee (Qeh hv hb) _) 0).trans rfl
 have hcb:(W.alloc (.cells #[.int .u64 x.f0,.int .u32 x.f1] 117)).cell? ⟨W.heap.size,1,none⟩=some (.int .u32 x.f1):=(Qds b1 1).trans rfl
 go_enter Tryz.func159,Tryz.ntmps159
 go_wp2
 go_ret
 exact⟨rfl,hb.alloc hb.size _⟩
theorem Qqd(b:Nat)(used:Int)(A:Option Addr)(n c:Nat)(l:List Ent)(w:World)(hn:n=l.length)(hR:RE w b (.slice A n c) l)(hl:l.length≤1099511627776) :
  Calls Tryz.prog 111 #[.agg #[.int .u32 used,.slice A n c]] w fun e w'=>e=.returned (.int .i64 (Qqb used l))∧Below w.heap.size w w':=by
 have hu:=Tryz.underlying127
 have hmf:∀(fn:Fn) (first cap:Array Value) (w:World),(Instr.makeFunc fn first cap).run Tryz.prog w=.ok (.func fn first cap) w:=fun _ _ _ _=>rfl
 have hb1:Below w.heap.size w (w.alloc (.cells #[.int .u32 used,.slice A n c] 127)):=Qcu (Below.refl _ _) _
 have bk:=Qei w (.cells #[.int .u32 used,.slice A n c] 127)
 have hc0:(w.alloc (.cells #[.int .u32 used,.slice A n c] 127)).cell? ⟨w.heap.size,0,none⟩=some (.int .u32 used):=(Qds bk 0).trans rfl
 have hc1:(w.alloc (.cells #[.int .u32 used,.slice A n c] 127)).cell? ⟨w.heap.size,1,none⟩=some (.slice A n c):=(Qds bk 1).trans rfl
 have HR:=QA hR
 have HN:=QA hn
 have hk:Calls Tryz.prog 111 #[.agg #[.int .u32 used,.slice A n c]] w fun e w'=>e=.returned (.int .i64 (if n=0 then 4 else if 1048576<n then 3 else if Qpw l=false then 8 else if l.any (fun x=>decide (used≤x.f1))=true then 4 else 0))∧Below w.heap.size w w':=by
  by_cases h0:n=0
  ·rw[if_pos h0]
   have e0:((n:Int) == 0)=true:=beq_iff_eq.2 (by omega)
   have E0:=QA h0
   clear h0 hn hR hl
   go_enter Tryz.func111,Tryz.ntmps111
   go_wp2
   go_ret
   exact⟨rfl,hb1⟩
  rw[if_neg h0]
  have e0:((n:Int) == 0)=false:=beq_eq_false_iff_ne.2 (by omega)
  by_cases h1:1048576<n
  ·rw[if_pos h1]
   have e1:decide ((1048576:Int)<(n:Int))=true:=decide_eq_true (by omega)
   clear hn hR hl h0
   go_enter Tryz.func111,Tryz.ntmps111
   go_wp2
   go_ret
   exact⟨rfl,hb1⟩
  rw[if_neg h1]
  have e1:decide ((1048576:Int)<(n:Int))=false:=decide_eq_false (by omega)
  have hris:=Qqa l hl
  have HRI:=QA hris
  have hC:Kd.C k117 (w.alloc (.cells #[.int .u32 used,.slice A n c] 127)) A n l:=by
   have h:=Kd.R_reads' hR
   rw[hn]
   exact Kd.C_alloc h.2.2 _
  have hcap:n≤c:=(Kd.R_reads' hR).2.1
  have hpos:0<l.length:=by omega
  obtain⟨g,cap,hf,hbg,hgl,cells,hgc⟩:=Kd.R_form hR hpos
  injection hf with hf1 hf2 hf3
  subst hf1
  obtain⟨r,hr⟩:∃r,r=Qpw l:=⟨_,rfl⟩
  rw[← hr]at HRI ⊢
  clear hr
  have hcall:∀W,Kd.C k117 W (some ⟨g,0,none⟩) n l→Calls Tryz.prog 160 #[.slice (some ⟨g,0,none⟩) n c] W fun e w'=>e=.returned (.bool r)∧Below W.heap.size W w':=by
   intro W hCW
   have hcw2:=hCW
   rw[hn]at hCW ⊢
   exact Qcq.calls _ _ c l r W hCW (by omega) HRI.out
  have HCL:=QA hcall
  have HC:=QA hC
  clear hris hcall hC hn hgc hf2 hf3
  cases r with
  | false =>
   rw[if_pos rfl]
   clear hR hl h0 h1
   go_enter Tryz.func111,Tryz.ntmps111
   go_wp2_with (go_at_call 160;refine(HCL.out _ HC.out).mono ?_;rintro e w1 ⟨rfl,hb2⟩)
   go_ret
   exact⟨rfl,Qcx hb1 hb1.size hb2⟩
  | true =>
   rw[if_neg (by decide)]
   obtain⟨q,hq⟩:∃q,q=l.any (fun x=>decide (used≤x.f1)):=⟨_,rfl⟩
   rw[← hq]
   have eg:∀args w,(callFunc 159 args).run Tryz.prog w=.ok (.enter 159 args) w:=enters_of Tryz.func159 qq_6 rfl
   have hany:∀W1:World,Below (w.alloc (.cells #[.int .u32 used,.slice (some ⟨g,0,none⟩) n c] 127)).heap.size (w.alloc (.cells #[.int .u32 used,.slice (some ⟨g,0,none⟩) n c] 127)) W1 →
     Calls Tryz.prog 161 #[.slice (some ⟨g,0,none⟩) n c,.func (.func 159) #[] #[.pointer (some ⟨w.heap.size,0,none⟩)]] W1 fun e w'=>e=.returned (.bool q)∧Below W1.heap.size W1 w':=by
    intro W1 hW1
    have hRW:=Kd.R_below (Kd.R_below HR.out hb1) hW1
    have hown:=RE.own hRW
    have hH:=Qpo (b:=b) (g:=g) (cap:=c) (l:=l) (by rw[← HN.out];rw[← HN.out]at hown;exact hown)
    have hcon:=AnyQ.slices_ContainsFunc Tryz.hasEnt 2 Tryz.isAgg117 Tryz.sizeOf117 encE (fun _=>rfl) (fun x=>decide (used≤x.f1)) 159 #[.pointer (some ⟨w.heap.size,0,none⟩)] eg g 0 n c l W1
     (Qqc used _ w.heap.size W1 (Qeh bk hW1)) qq_16 qq_16 (by have:=hW1.size;rw[World.size_alloc]at this;omega) (fun j hj i v hv=>by
      have h2:=Qph l j
      have hjl:l[j]? = some l[j]!:=by rw[List.getElem?_eq_getElem hj,getElem!_pos l j hj]
      rw[hjl]at h2
      generalize l[j]! = x at *
      have key:(Qpe l)[2*j+i]? = some v:=by
       match i,hv with
       | 0,hv=>simp[encE]at hv;rw[← hv];exact h2.1
       | 1,hv=>simp[encE]at hv;rw[← hv];exact h2.2
       | i+2,hv=>simp[encE]at hv
      have hlt:j*2+i<l.length*2:=by
       have:=(List.getElem?_eq_some_iff.1 key).1
       rw[Qpf]at this
       omega
      rcases hown.2 with⟨hn',_⟩ |⟨g',cap',cur,he,hb',hh,hh1,hh2,hh3,hh4⟩
      ·cases hn'
      cases he
      have h5:(cur.toList.take (l.length*2))[j*2+i]? = (Qpe l)[j*2+i]?:=by rw[hh4]
      rw[List.getElem?_take_of_lt hlt]at h5
      simp only[World.cell?,hh,Nat.zero_add]
      simp only[Option.isSome_none,Bool.false_eq_true,if_false]
      rw[← Array.getElem?_toList,h5,show j*2+i=2*j+i by omega,key])
    rw[List.take_of_length_le qq_16,← hq]at hcon
    exact hcon
   have HA:=QA hany
   clear hany hR hl h0 h1 hq eg
   cases q with
   | true =>
    rw[if_pos rfl]
    go_enter Tryz.func111,Tryz.ntmps111
    go_wp2_with (first
     |(go_at_call 160;refine(HCL.out _ HC.out).mono ?_;rintro e w1 ⟨rfl,hb2⟩;have hk2:=Qeh bk hb2;have hd1:w1.cell? ⟨w.heap.size,1,none⟩=some (.slice (some ⟨g,0,none⟩) n c):=(Qds hk2 1).trans rfl)
     |(go_at_call 161;refine(HA.out _ hb2).mono ?_;rintro e w2 ⟨rfl,hb3⟩))
    go_ret
    exact⟨rfl,Qcx (Qcx hb1 hb1.size hb2) (Nat.le_trans hb1.size hb2.size) hb3⟩
   | false =>
    rw[if_neg (by decide)]
    go_enter Tryz.func111,Tryz.ntmps111
    go_wp2_with (first
     |(go_at_call 160;refine(HCL.out _ HC.out).mono ?_;rintro e w1 ⟨rfl,hb2⟩;have hk2:=Qeh bk hb2;have hd1:w1.cell? ⟨w.heap.size,1,none⟩=some (.slice (some ⟨g,0,none⟩) n c):=(Qds hk2 1).trans rfl)
     |(go_at_call 161;refine(HA.out _ hb2).mono ?_;rintro e w2 ⟨rfl,hb3⟩))
    go_ret
    exact⟨rfl,Qcx (Qcx hb1 hb1.size hb2) (Nat.le_trans hb1.size hb2.size) hb3⟩
 refine hk.mono fun e w' ⟨he,hb⟩=>⟨?_,hb⟩
 rw[he]
 unfold Qqb
 rw[HN.out]
def Qqe(used:Int)(l:List Ent):List Int:=Qnk ([4]++leb l.length 4++leb used 4++l.flatMap ent++(Qoz l).flatMap (fun x=>leb x 8))
theorem Qqf(x y:Int)(l:List Ent):([]++[4]++leb x 4++leb y 4++l.flatMap ent).length=9+12*l.length:=by
 rw[List.length_append,List.length_append,List.length_append,List.length_append,Qjl,Qjl,Qli]
 rfl
theorem Qqg(x y:Int)(l:List Ent):([]++[4]++leb x 4++leb y 4++l.flatMap ent++(Qoz l).flatMap (fun x=>leb x 8)).length=9+12*l.length+8*(Qoz l).length:=by
 rw[List.length_append,Qqf,Qlh]
abbrev Rec:=S39
abbrev Bd:=Room5 × List Int × List Ent
def wfE(x:Ent):Prop:=(0≤x.f0∧x.f0<18446744073709551616)∧0≤x.f1∧x.f1<4294967296
instance (x:Ent):Decidable (wfE x):=by unfold wfE;exact inferInstance
def Qqh(B:Bd):Int:=(B.2.1.length:Int)%4294967296
def Qqi(l:List Rec)(ps:List Int):List Ent:=List.zipWith (fun r a=>(⟨Qma 0 (bytesOf r.f2),a⟩:Ent)) l ps
theorem Qqj(l:List Rec)(ps:List Int)(h:ps.length=l.length):(Qqi l ps).length=l.length:=by simp[Qqi,h]
theorem Qqk{l:List Rec}{ps:List Int}(h:ps.length=l.length){j:Nat}(hj:j<l.length):(Qqi l ps).take (j+1)=(Qqi l ps).take j++[(⟨Qma 0 (bytesOf (Qja l (j:Int)).f2),YtnnofopfbeklbaaGreatW.PrintWords.rd ps (j:Int)⟩:Ent)]:=by
 have hlen:=Qqj l ps h
 rw[List.take_succ_eq_append_getElem (by omega)]
 congr 1
 simp[Qqi,Qja,rd,List.getD,List.getElem?_eq_getElem hj,List.getElem?_eq_getElem (show j<ps.length by omega)]
theorem Qql(Ar Aa:Option Addr)(cr ca:Nat)(l:List Rec)(ps:List Int)(u:Int)(s:Bool)(w:World)(hr:Kd.C k39 w Ar l.length l)(ha:Kd.C (Kd.int .u32) w Aa ps.length ps)(hlen:ps.length=l.length)(hl:l.length≤1000000000)
  (hk:∀r∈l,r.f2.size≤140737488355328) (hnd:(Qqi l ps).Nodup) :
  Calls Tryz.prog 132 #[.agg #[.slice Ar l.length cr,.slice Aa ps.length ca,.int .u32 u,.bool s]] w fun e w'=>∃v,e=.returned v∧RE w' w.heap.size v (Qpj (Qqi l ps))∧Below w.heap.size w w':=by
 have hu76:=Tryz.underlying76
 have hu39:=Tryz.underlying39
 have hu117:=Tryz.underlying117
 have hB1:Below w.heap.size w (w.alloc (.cells #[.slice Ar l.length cr,.slice Aa ps.length ca,.int .u32 u,.bool s] 76)):=Qcu (Below.refl _ _) _
 have hkB:=Qei w (.cells #[.slice Ar l.length cr,.slice Aa ps.length ca,.int .u32 u,.bool s] 76)
 have HCR:=QA (Kd.C_below hr hB1)
 have HCA:=QA (Kd.C_below ha hB1)
 have b0:(w.alloc (.cells #[.slice Ar l.length cr,.slice Aa ps.length ca,.int .u32 u,.bool s] 76)).cell? ⟨w.heap.size,0,none⟩=some (.slice Ar l.length cr):=(Qds hkB 0).trans rfl
 have HB1:=QA hB1
 have HKB:=QA hkB
 have HK:=QA hk
 have HND:=QA hnd
 have HLEN:=QA hlen
 clear hr ha hB1 hkB hk hnd hlen
 go_enter Tryz.func132,Tryz.ntmps132
 go_wp2
 obtain⟨W1,hW1⟩:∃W1,W1=w.alloc (.cells #[.slice Ar l.length cr,.slice Aa ps.length ca,.int .u32 u,.bool s] 76):=⟨_,rfl⟩
 rw[← hW1]at HCR HCA HB1 HKB ⊢
 clear hW1 b0
 go_loopw [3,9] (fun v3 v9 wr=>∃(vo:Value) (j:Nat) (iv:Int),vo=v3∧j≤l.length∧v9=.int .i64 iv∧Aside0 (iv=(j:Int))∧Aside0 (RE wr W1.heap.size vo ((Qqi l ps).take j))∧Aside0 (Below W1.heap.size W1 wr))
  (fun _ v9 _=>l.length-(intOf v9).toNat)
 case atStart=>exact⟨_,0,0,rfl,Nat.zero_le _,rfl,⟨rfl⟩,⟨Kd.R_nil _ _ _ _ _⟩,⟨Below.refl _ _⟩⟩
 case round =>
  obtain⟨vo,j,iv,rfl,hj,rfl,HJ,HR,HB⟩:=hrel
  have hol:((Qqi l ps).take j).length=j:=by rw[List.length_take,Qqj l ps HLEN.out];omega
  obtain⟨tj,htj⟩:∃tj,tj=(Qqi l ps).take j:=⟨_,rfl⟩
  rw[← htj]at HR hol
  have HTJ:=QA htj
  clear htj
  obtain⟨Ao,co,hvo⟩:=Kd.R_slice HR.out
  subst hvo
  have HOL:=QA hol
  clear hol
  by_cases hlt:j<l.length
  ·have hlt2:iv<(l.length:Int):=by have:=HJ.out;omega
   have hge:0≤iv:=by have:=HJ.out;omega
   have hwi:IntKind.i64.wrap (iv+1)=iv+1:=IntWalk.i64_in _ (by omega)
   obtain⟨ad,rfl,x0,x1,x2,x3⟩:=Qjb HCR.out iv hge hlt2
   replace x0:=Qcy HB.out x0
   replace x1:=Qcy HB.out x1
   replace x2:=Qcy HB.out x2
   replace x3:=Qcy HB.out x3
   obtain⟨r,hr⟩:∃r,r=Qja l iv:=⟨_,rfl⟩
   rw[← hr]at x0 x1 x2 x3
   have HRR:=QA hr
   clear hr
   obtain⟨ada,hAa,y0⟩:=Kd.at_int HCA.out iv hge (by have:=HLEN.out;omega)
   subst hAa
   obtain⟨a,haa⟩:∃a,a=YtnnofopfbeklbaaGreatW.PrintWords.rd ps iv:=⟨_,rfl⟩
   rw[← haa]at y0
   have HAA:=QA haa
   clear haa
   have hal:iv<(ps.length:Int):=by have:=HLEN.out;omega
   have hb':Below wr.heap.size wr (wr.alloc (.cells #[.bool r.f0,.int .u64 r.f1,.string r.f2,.string r.f3] 39)):=Qcu (Below.refl _ _) _
   have hB3:=HB.out.trans (Qjn hb' HB.out.size)
   have y1:=Qcy hB3 y0
   have bk:=Qei wr (.cells #[.bool r.f0,.int .u64 r.f1,.string r.f2,.string r.f3] 39)
   have HB3:=QA hB3
   go_wp2
   obtain⟨W3,hW3⟩:∃W3,W3=wr.alloc (.cells #[.bool r.f0,.int .u64 r.f1,.string r.f2,.string r.f3] 39):=⟨_,rfl⟩
   have HR3:Aside0 (RE W3 W1.heap.size (.slice Ao tj.length co) tj):=⟨by rw[hW3];exact Kd.R_alloc HR.out _⟩
   have hkB:=Qeh HKB.out HB3.out
   rw[← hW3]at HB3 bk y1 hkB ⊢
   clear hW3 hb' hB3 x0 x1 x2 x3 y0
   obtain⟨c0,c1,c2,c3⟩:=box4 bk
   have v1:W3.cell? ⟨w.heap.size,1,none⟩=some (.slice (some ada) ps.length ca):=(Qds hkB 1).trans rfl
   have HKS:Aside0 (r.f2.size≤140737488355328):=⟨HK.out r (by rw[HRR.out];unfold Qja;have hjl:iv.toNat<l.length:=(by have:=HJ.out;omega);simp[List.getElem?_eq_getElem hjl])⟩
   have HKB3:=QA hkB
   clear hkB c0 c1 c3
   go_region_law (first
    |(go_simp;go_at_call 60;refine(hash_of r.f2 W3.drew HKS.out).mono ?_;rintro ee w9 ⟨rfl,hb9⟩;have HB9:=QA (HB3.out.trans ((Qcv (Below.refl W3.heap.size W3)).trans hb9 |> fun h=>Qjn h HB3.out.size));have HR9:=QA (Kd.R_below (w:=W3.drew) HR3.out hb9);have v9:w9.cell? ⟨w.heap.size,1,none⟩=some (.slice (some ada) ps.length ca):=(Qds (Qeh (w:=W3.drew) HKB3.out hb9) 1).trans rfl;have y9:=Qcy (w:=W3.drew) hb9 y1;clear hb9)
    |(refine Kd.R_append_step k117 (w0:=W1) W1.heap.size (by rfl) (.tmp 14) (.tmp 24) 106 117 (.agg #[(.int .u64 0),(.int .u32 0)]) 16 rfl Tryz.underlying106 Qoo rfl (by decide) (by omega) (.slice Ao tj.length co) tj (⟨Qma 0 (bytesOf r.f2),a⟩:Ent) [.int .u64 (Qma 0 (bytesOf r.f2)),.int .u32 a] (fun _=>True) (fun _=>False) rfl ?ax ?aP (fun _ hk=>hk.elim) (fun _ _=>trivial) ?aO HB9.out ?aS ?aL ?_;(case ax=>rfl);(case aP=>exact Qje _ _ _ (⟨Qma 0 (bytesOf r.f2),a⟩:Ent));(case aO=>exact HR9.out);(case aS=>exact HB9.out.size);(case aL=>have:=HOL.out;omega);intro v10 w10 HR10 hb10 hg10 hat10;have HR10':=QA HR10;have HB10:=QA hb10;clear HR10 hb10 hg10 hat10))
   all_goals
    go_wp2
    go_roundw
    case rel=>exact⟨_,j+1,iv+1,rfl,hlt,rfl,⟨by have:=HJ.out;omega⟩,⟨by rw[Qqk HLEN.out hlt,← HTJ.out,← HJ.out,← HRR.out,← HAA.out];exact HR10'.out⟩,⟨HB10.out⟩⟩
    case measure=>have:=HJ.out;simp[intOf];omega
  ·obtain rfl:j=l.length:=by omega
   have e1:iv=(l.length:Int):=HJ.out
   subst e1
   have hT:tj=Qqi l ps:=by rw[HTJ.out,← Qqj l ps HLEN.out,List.take_length]
   have SRT:=QA (Qpv W1.heap.size (.slice Ao tj.length co) tj wr HR.out (by rw[hT];exact HND.out) (by have:=HOL.out;omega))
   have HT:=QA hT
   clear hT
   go_wp2_with (go_at_call 68;refine SRT.out.mono ?_;rintro ee w4 ⟨v4,rfl,hR4,hb4⟩)
   go_ret
   have h1:=HB1.out.size
   refine⟨_,rfl,?_,(HB1.out.trans (Qjn HB.out h1)).trans (Qjn hb4 (Nat.le_trans h1 HB.out.size))⟩
   rw[← HT.out]
   exact Kd.R_lower hR4 (Nat.le_trans h1 HB.out.size)
end Go.Proofs.YtnnofopfbeklbaaGreat.C
end
section
namespace Go.Proofs.YtnnofopfbeklbaaGreat.C
open Go.RowKit Go.Proofs.YtnnofopfbeklbaaGreatW.PrintWords Go.Proofs.YtnnofopfbeklbaaGreatW.PrintLast Go.Proofs.YtnnofopfbeklbaaGreatW.PrintMore
attribute [local go_sem] Qif Qig Qih Qii Qij Qik Qil Qim
attribute [local go_sem high] Qpd
def Qcp.l0:Nat→List (S117)→List (S117)→Int→Int→Option (Bool)
 | 0,_,_,_,_=>none
 | k+1,x0,x1,x12,x13=>if x13<x12 then(if 0≤x13 then(if x13<(x0.length:Int)then(if x13<(x1.length:Int)then(if(!(((Qjf x0 x13).f0) == ((Qjf x1 x13).f0)) ||(!(((Qjf x0 x13).f1) == ((Qjf x1 x13).f1))))=true then(some false)else(Qcp.l0 k x0 x1 x12 (wrap64 (x13+1))))else(none))else(none))else(none))else(some true)
def Qcp.f(k:Nat)(l0:List (S117))(l1:List (S117)):Option (Bool):=if(l0.length:Int)=(l1.length:Int)then(Qcp.l0 k l0 l1 (l0.length:Int) 0)else(some false)
theorem Qcp.calls (k:Nat) (A0:Option Addr) (c0:Nat) (l0:List (S117)) (A1:Option Addr) (c1:Nat) (l1:List (S117)) (r:Bool) (w:World) (hr0:Kd.C k117 w A0 l0.length l0) (hc0:l0.length≤c0) (hr1:Kd.C k117 w A1 l1.length l1) (hc1:l1.length≤c1) (h:Qcp.f k l0 l1=some r) :
  Calls Tryz.prog 131 #[.slice A0 l0.length c0,.slice A1 l1.length c1] w fun e w'=>e=.returned (.bool r)∧Drawn0 w w':=by
 have hu117:=Tryz.underlying117
 have HR0:=QA hr0
 have HC0:=QA hc0
 clear hr0 hc0
 have HR1:=QA hr1
 have HC1:=QA hc1
 clear hr1 hc1
 have H:(if(l0.length:Int)=(l1.length:Int)then(Qcp.l0 k l0 l1 (l0.length:Int) 0)else(some false))=some r:=h
 clear h
 by_cases c3:(l0.length:Int)=(l1.length:Int)
 ·rw [if_pos c3]at H
  have c3b0:((l0.length:Int) == (l1.length:Int))=true:=beq_iff_eq.mpr c3
  have c3b1:((l0.length:Int) != (l1.length:Int))=false:=bne_eq_false_iff_eq.mpr c3
  have c3b2:(l0.length == l1.length)=true:=by first|simpa using c3 |(simp at c3 ⊢;omega)
  clear c3
  have H':=QA H
  clear H
  go_enter Tryz.func131,Tryz.ntmps131
  go_wp2
  repeat(go_quiet (fail);try go_wp2)
  go_loopg [13] k (fun kq v13 w'=>∃(x13_1:Int),v13=.int .i64 x13_1∧Aside0 (Qcp.l0 kq l0 l1 (l0.length:Int) x13_1=some r)∧Aside0 (kq≤k)∧Drawn0 w w')
  case atStart=>exact⟨(0),qq_5,H',⟨Nat.le_refl _⟩,by repeat(first|exact Drawn0.refl _|apply Drawn0.step)⟩
  case round =>
   clear H'
   try clear c1
   try clear c3
   try clear c3b0
   try clear c3b1
   try clear c3b2
   obtain⟨x13_1,rfl,HA,HK1,⟨m1,rfl⟩⟩:=hrel
   cases gk with
   | zero=>exact absurd HA.out (by simp[Qcp.l0])
   | succ k1 =>
    have H:=HA.out
    clear HA
    simp only[Qcp.l0]at H
    by_cases c4:x13_1<(l0.length:Int)
    ·rw [if_pos c4]at H
     have c4b0:decide (x13_1<(l0.length:Int))=true:=decide_eq_true c4
     clear c4
     by_cases c5:0≤x13_1
     ·rw [if_pos c5]at H
      have c5b0:decide (0≤x13_1)=true:=decide_eq_true c5
      clear c5
      by_cases c6:x13_1<(l0.length:Int)
      ·rw[if_pos c6]at H
       have c6b0:decide (x13_1<(l0.length:Int))=true:=decide_eq_true c6
       clear c6
       by_cases c7:x13_1<(l1.length:Int)
       ·rw[if_pos c7]at H
        have c7b0:decide (x13_1<(l1.length:Int))=true:=decide_eq_true c7
        clear c7
        by_cases c8:(!(((Qjf l0 x13_1).f0) == ((Qjf l1 x13_1).f0)) ||(!(((Qjf l0 x13_1).f1) == ((Qjf l1 x13_1).f1))))=true
        ·rw[if_pos c8]at H
         have c8b0:(!(((Qjf l0 x13_1).f0) == ((Qjf l1 x13_1).f0)) ||(!(((Qjf l0 x13_1).f1) == ((Qjf l1 x13_1).f1))))=true:=c8
         clear c8
         obtain rfl:=Option.some.inj H
         have p221:0≤(x13_1:Int):=of_decide_eq_true qq_4
         have q221:x13_1<(l0.length:Int):=of_decide_eq_true qq_4
         obtain⟨ad221,e221,hx221_0,hx221_1⟩:=Qjg HR0.out x13_1 p221 q221
         cases e221
         replace p221:=eq_true p221
         replace q221:=eq_true q221
         have p222:0≤(x13_1:Int):=of_decide_eq_true qq_4
         have q222:x13_1<(l1.length:Int):=of_decide_eq_true qq_4
         obtain⟨ad222,e222,hx222_0,hx222_1⟩:=Qjg HR1.out x13_1 p222 q222
         cases e222
         replace p222:=eq_true p222
         replace q222:=eq_true q222
         go_wp2
         repeat(go_quiet (fail);try go_wp2)
         go_ret
         exact⟨by first|rfl |(simp;done) |(simp[*];done),by repeat(first|exact Drawn0.refl _|apply Drawn0.step)⟩
        ·rw[if_neg c8]at H
         have c8b0:(!(((Qjf l0 x13_1).f0) == ((Qjf l1 x13_1).f0)) ||(!(((Qjf l0 x13_1).f1) == ((Qjf l1 x13_1).f1))))=false:=by simpa using c8
         clear c8
         have H':=QA H
         clear H
         have p221:0≤(x13_1:Int):=of_decide_eq_true qq_4
         have q221:x13_1<(l0.length:Int):=of_decide_eq_true qq_4
         obtain⟨ad221,e221,hx221_0,hx221_1⟩:=Qjg HR0.out x13_1 p221 q221
         cases e221
         replace p221:=eq_true p221
         replace q221:=eq_true q221
         have p222:0≤(x13_1:Int):=of_decide_eq_true qq_4
         have q222:x13_1<(l1.length:Int):=of_decide_eq_true qq_4
         obtain⟨ad222,e222,hx222_0,hx222_1⟩:=Qjg HR1.out x13_1 p222 q222
         cases e222
         replace p222:=eq_true p222
         replace q222:=eq_true q222
         go_wp2
         repeat(go_quiet (fail);try go_wp2)
         go_roundg k1
         case measure=>have:=HK1.out;omega
         case rel=>exact⟨(wrap64 (x13_1+1)),qq_5,H',⟨by have:=HK1.out;omega⟩,by repeat(first|exact Drawn0.refl _|apply Drawn0.step)⟩
       ·rw[if_neg c7]at H
        exact absurd H (by simp)
      ·rw[if_neg c6]at H
       exact absurd H (by simp)
     ·rw[if_neg c5]at H
      exact absurd H (by simp)
    ·rw[if_neg c4]at H
     have c4b0:decide (x13_1<(l0.length:Int))=false:=decide_eq_false c4
     clear c4
     obtain rfl:=Option.some.inj H
     go_wp2
     repeat(go_quiet (fail);try go_wp2)
     go_ret
     exact⟨by first|rfl |(simp;done) |(simp[*];done),by repeat(first|exact Drawn0.refl _|apply Drawn0.step)⟩
 ·rw[if_neg c3]at H
  have c3b0:((l0.length:Int) == (l1.length:Int))=false:=beq_eq_false_iff_ne.mpr c3
  have c3b1:((l0.length:Int) != (l1.length:Int))=true:=bne_iff_ne.mpr c3
  have c3b2:(l0.length == l1.length)=false:=by first|simpa using c3 |(simp at c3 ⊢;omega)
  obtain rfl:=Option.some.inj H
  go_enter Tryz.func131,Tryz.ntmps131
  go_wp2
  repeat(go_quiet (fail);try go_wp2)
  go_ret
  exact⟨by first|rfl |(simp;done) |(simp[*];done),by repeat(first|exact Drawn0.refl _|apply Drawn0.step)⟩
end Go.Proofs.YtnnofopfbeklbaaGreat.C
end
section
namespace Go.Proofs.YtnnofopfbeklbaaGreat.C
open Go.RowKit Go.Proofs.YtnnofopfbeklbaaGreatW.PrintWords Go.Proofs.YtnnofopfbeklbaaGreatW.PrintLast Go.Proofs.YtnnofopfbeklbaaGreatW.PrintMore
attribute [local go_sem] Qif Qig Qih Qii
theorem IsCur.blk{W W':World}{b g:Nat}{bs:List Int}{i:Int}(h:IsCur W b g bs i)(hm:∀(k:Nat) (cs:Array Value) (t:TypeId),W.heap[k]? = some (.cells cs t (0,0))→(t=5∨t=264)→W'.heap[k]? = W.heap[k]?):IsCur W' b g bs i:=by
 obtain⟨v,hv,hR⟩:=h
 refine⟨v,(hm _ _ _ hv (.inr rfl)).trans hv,?_⟩
 refine Kd.R_mono (Kd.R_step (Kd.R_bound hR) (fun k hk _=>?_)) (fun _ _=>trivial)
 obtain⟨_,_,_,qq,hq,cells,hc⟩:=hk
 exact hm k _ _ hc (by revert hq;revert qq;intro qq hc hq;rcases List.mem_cons.1 hq with rfl|hq;exact .inl rfl;cases hq)
theorem IsCur.grown{α:Type}{d:Kd α}{q base:Nat}{v:Value}{xs:List α}{ok:Nat→Prop}{W W':World}{b g:Nat}{bs:List Int}{i:Int}(h:IsCur W b g bs i)(hR:d.R q W base ok v xs)(hq:q≠5∧q≠264)(hg:W.grownBy W' v.ownBlock):IsCur W' b g bs i :=
 h.blk (fun k cs t hc ht=>(Qdu hc hg (Kd.R_ne hR hc (by rcases ht with rfl|rfl;exact hq.1;exact hq.2))).trans hc.symm)
theorem Bw.then{b g:Nat}{w wr w1:World}(h:Bw b g w wr)(hb:Below w.heap.size wr w1)(hbw:b≤w.heap.size):Bw b g w w1 :=
 ⟨h.1.trans (Qjn hb hbw),fun k cs t h1 h2 h3=>(hb.block k (Qdr h1)).trans (h.2 _ _ _ h1 h2 h3)⟩
theorem RU.cur{W W':World}{b g b':Nat}{v:Value}{xs bs:List Int}{i:Int}(h:RU W b' v xs)(hI:IsCur W b g bs i)(hT:Bw b g W W'):RU W' b' v xs:=by
 obtain⟨u,hu,_⟩:=hI
 refine Kd.R_mono (Kd.R_step (Kd.R_bound h) (fun k hk _=>?_)) (fun _ _=>trivial)
 obtain⟨q,hq,cells,hc⟩:=hk.2.2.2
 have hq':q=34:=by simpa [Kd.int,Kd.scalar]using hq
 subst hq'
 rw[hc]
 exact hT.2 k cells _ hc (by decide) (Qdv hc hu (by decide))
theorem Qrb(b g:Nat)(bs:List Int)(i x:Int)(hx:x=CodecP.leI ((bs.drop i.toNat).take 8))(hb:CodecP.Bytes bs)(hi:0≤i)(hl:bs.length≤140737488355328)(hs:i+8≤(bs.length:Int))(hbg:b≤g)(w:World)(hbw:b≤w.heap.size)(hI:IsCur w b g bs i) :
  Calls Tryz.prog 172 #[.pointer (some ⟨g,0,none⟩)] w fun e w'=>e=.returned (.int .u64 x)∧IsCur w' b g bs (i+8)∧Bw b g w w':=by
 refine Qqx (((bs.drop i.toNat).take 8).length+1) b g bs _ i x rfl hi hl hs hbg ?_ w hbw hI
 rw[hx]
 exact CodecP.num_key _ ((hb.drop _).take _) (by rw[List.length_take];omega)
theorem Qrc(b g:Nat)(bs:List Int)(i x:Int)(hx:x=CodecP.leI ((bs.drop i.toNat).take 4))(hb:CodecP.Bytes bs)(hi:0≤i)(hl:bs.length≤140737488355328)(hs:i+4≤(bs.length:Int))(hbg:b≤g)(w:World)(hbw:b≤w.heap.size)(hI:IsCur w b g bs i) :
  Calls Tryz.prog 180 #[.pointer (some ⟨g,0,none⟩)] w fun e w'=>e=.returned (.int .u32 x)∧IsCur w' b g bs (i+4)∧Bw b g w w':=by
 have HI:=QA hI
 have hlen:((bs.drop i.toNat).take 4).length=4:=by rw[List.length_take,List.length_drop];omega
 have hr:=CodecP.leI_range ((hb.drop i.toNat).take 4)
 have HK:=QA (CodecP.num_key ((bs.drop i.toNat).take 4) ((hb.drop _).take _) (by omega))
 rw[hlen,← hx]at hr
 have hw:IntKind.u32.wrap x=x:=IntWalk.u32_in _ (by have:=hr.2;omega)
 rw[← hx]at HK
 have HL:Aside0 (((bs.drop i.toNat).take 4).length≤8):=⟨by omega⟩
 clear hI hlen hr hx hb
 go_enter Tryz.func180,Tryz.ntmps180
 go_wp2_with (go_at_call 219;refine(Qqs _ b g bs _ i 4 x rfl (by decide) hi hl hs hbg HL.out HK.out _ hbw HI.out).mono ?_;rintro ee w1 ⟨rfl,hI1,hB1⟩)
 go_ret
 exact⟨rfl,hI1,hB1⟩
theorem Qrd(b g:Nat)(bs:List Int)(i:Int)(hi:0≤i∧i≤bs.length)(hl:bs.length≤140737488355328)(hs:(bs.length:Int)-i<4)(w:World)(hbw:b≤w.heap.size)(hI:IsCur w b g bs i) :
  Calls Tryz.prog 180 #[.pointer (some ⟨g,0,none⟩)] w (Qqt b g bs i 2 w):=by
 have HI:=QA hI
 clear hI
 go_enter Tryz.func180,Tryz.ntmps180
 go_wp2_with (go_at_call 219;refine(Qqu b g bs i 4 (by decide) hi hl hs _ hbw HI.out).mono ?_;rintro ee w1 ⟨rfl,hF⟩)
 exact⟨rfl,rfl,hF⟩
def Qre(bs:List Int)(i:Nat)(n:Nat):List Int:=(List.range n).map (fun j=>CodecP.leI ((bs.drop (i+8*j)).take 8))
theorem Qrf(bs:List Int)(i n:Nat):Qre bs i (n+1)=Qre bs i n++[CodecP.leI ((bs.drop (i+8*n)).take 8)]:=by simp[Qre,List.range_succ]
theorem Qrg(bs:List Int)(i n:Nat):(Qre bs i n).length=n:=by simp[Qre]
theorem Qrh(b g:Nat)(bs:List Int)(i n:Int)(hi:0≤i∧i≤bs.length)(hl:bs.length≤140737488355328)(hn:0≤n)(hs:((bs.length:Int)-i)/8<n)(w:World)(hbw:b≤w.heap.size)(hI:IsCur w b g bs i) :
  Calls Tryz.prog 182 #[.pointer (some ⟨g,0,none⟩),.int .i64 n] w (Qqt b g bs i 2 w):=by
 have HI:=QA hI
 have hm:(if 0<n then n else 0)=n:=by split<;>omega
 have hq:((bs.length:Int)-i).tdiv 8=((bs.length:Int)-i)/8:=Int.tdiv_eq_ediv_of_nonneg (by omega)
 obtain⟨q,hqq⟩:∃q,q=((bs.length:Int)-i)/8:=⟨_,rfl⟩
 rw[← hqq]at hq hs
 have hb1:decide (q<n)=true:=decide_eq_true hs
 have hw:IntKind.i64.wrap q=q:=IntWalk.i64_in _ (by omega)
 clear hI hqq
 go_enter Tryz.func182,Tryz.ntmps182
 go_wp2_with (first
  |(go_at_call 139;refine(Qqy b g bs i hi hl _ HI.out).mono ?_;rintro ee w1 ⟨rfl,hb1⟩;have HI1:=QA (HI.out.kept hb1))
  |(go_at_call 175;refine(Qqo b g bs i 2 (by decide) _ HI1.out).mono ?_;rintro ee w2 ⟨rfl,rfl⟩))
 all_goals exact⟨rfl,rfl,HI1.out,Bw.below hb1 hbw⟩
theorem Qri(k b g:Nat)(bs:List Int)(i n:Nat)(N:Int)(hN:N=(n:Int))(s:Bool)(hb:CodecP.Bytes bs)(hl:bs.length≤140737488355328)(hn:i+8*n≤bs.length)(hs:Qcn.f k (Qre bs i n)=some s)(hbg:b≤g)(w:World)(hbw:b≤w.heap.size)(hI:IsCur w b g bs i) :
  Calls Tryz.prog 182 #[.pointer (some ⟨g,0,none⟩),.int .i64 N] w fun e w'=>IsCur w' b g bs ((i+8*n:Nat):Int)∧Bw b g w w'∧((s=true∧∃v,e=.returned v∧RU w' w.heap.size v (Qre bs i n))∨(s=false∧e=.panicked [Qqm g 8])):=by
 have HI:=QA hI
 have HW:=QA hbw
 have HB:=QA hb
 have HS:=QA hs
 have HN:=QA hn
 have hm:(if 0<N then N else 0)=N:=by split<;>omega
 obtain⟨q,hqq⟩:∃q,q=((bs.length:Int)-(i:Int))/8:=⟨_,rfl⟩
 have hq:((bs.length:Int)-(i:Int)).tdiv 8=q:=by rw[hqq];exact Int.tdiv_eq_ediv_of_nonneg (by omega)
 have hb1:decide (q<N)=false:=decide_eq_false (by omega)
 have hw:IntKind.i64.wrap q=q:=IntWalk.i64_in _ (by omega)
 have hn2:(n:Int)≤140737488355328:=by omega
 have HNN:=QA hN
 clear hN hI hqq hbw hb hs hn
 go_enter Tryz.func182,Tryz.ntmps182
 go_wp2_with (go_at_call 139;refine(Qqy b g bs i qq_16 hl _ HI.out).mono ?_;rintro ee w1 ⟨rfl,hb1⟩;have HI1:=QA (HI.out.kept hb1);have HB1:=QA (Bw.below (b:=b) (g:=g) hb1 HW.out);clear hb1)
 go_loopw [5,16] (fun v5 v16 wr=>∃(vo:Value) (j:Nat) (iv:Int),vo=v5∧j≤n∧v16=.int .i64 iv∧Aside0 (iv=(j:Int))∧Aside0 (RU wr w.heap.size vo (Qre bs i j))∧Aside0 (IsCur wr b g bs ((i+8*j:Nat):Int))∧Aside0 (Bw b g w wr))
  (fun _ v16 _=>n-(intOf v16).toNat)
 case atStart=>exact⟨_,0,0,rfl,Nat.zero_le _,rfl,⟨rfl⟩,⟨Kd.R_nil _ _ _ _ _⟩,⟨by simpa using HI1.out⟩,HB1⟩
 case round =>
  obtain⟨vo,j,iv,rfl,hj,rfl,HJ,HR,HIr,HBr⟩:=hrel
  clear HI1 HB1 HI
  have hbr:b≤wr.heap.size:=Nat.le_trans HW.out HBr.out.size
  obtain⟨Ao,co,hvo⟩:=Kd.R_slice HR.out
  subst hvo
  by_cases hlt:j<n
  ·have hlt2:iv<N:=by have:=HJ.out;have:=HNN.out;omega
   have hge:0≤iv:=by have:=HJ.out;omega
   have hwi:IntKind.i64.wrap (iv+1)=iv+1:=IntWalk.i64_in _ (by have:=HNN.out;omega)
   obtain⟨x,hx⟩:∃x,x=CodecP.leI ((bs.drop (i+8*j)).take 8):=⟨_,rfl⟩
   have HX:=QA hx
   clear hx
   go_wp2_with (first
    |(go_at_call 172;refine(Qrb b g bs ((i+8*j:Nat):Int) x (by rw[Int.toNat_natCast];exact HX.out) HB.out (Int.natCast_nonneg _) hl qq_16 hbg _ hbr HIr.out).mono ?_;rintro ee w2 ⟨rfl,hI2,hB2⟩;have HR2:=QA (RU.cur HR.out HIr.out hB2);have HI2:=QA hI2;have HB2:=QA (HBr.out.trans hB2);clear hI2 hB2)
    |(at_builtin;refine Kd.R_append (Kd.int .u64) (w0:=w2) w.heap.size rfl (.tmp 18) (.tmp 21) 70 34 (.int .u64 0) 8 rfl Tryz.underlying70 Qiv rfl (by decide) (by omega) (.slice Ao (Qre bs i j).length co) (Qre bs i j) x [.int .u64 x] (fun _=>True) (fun _=>False) rfl ?ax ?aP (fun _ hk=>hk.elim) ?aF ?aO ?aB ?aS ?aL ?_;(case ax=>rfl);(case aP=>rfl);(case aF=>exact fun _ _=>trivial);(case aO=>exact HR2.out);(case aB=>exact Below.refl _ _);(case aS=>exact HB2.out.size);(case aL=>rw[Qrg];have:=HN.out;omega);intro v1 w3 HR3 hb3 hg3 hat3;have HR3':=QA HR3;have HI3:=QA (HI2.out.grown HR2.out ⟨by decide,by decide⟩ hg3);have HB3:=QA (HB2.out.then hb3 HW.out);clear HR3 hb3 hg3 hat3))
   go_roundw
   case rel=>exact⟨_,j+1,iv+1,rfl,hlt,rfl,⟨by have:=HJ.out;omega⟩,⟨by rw[Qrf,← HX.out];exact HR3'.out⟩,⟨by rw[show((i+8*(j+1):Nat):Int)=((i+8*j:Nat):Int)+8 by omega];exact HI3.out⟩,HB3⟩
   case measure=>have:=HJ.out;simp[intOf];omega
  ·obtain rfl:j=n:=by omega
   have e1:iv=N:=HJ.out.trans HNN.out.symm
   subst e1
   have hC:=(Kd.R_reads' HR.out).2
   have HC:=QA hC
   clear hC
   cases s with
   | true =>
    go_wp2_with (go_at_call 220;refine(Qcn.calls k Ao co (Qre bs i j) true _ HC.out.2 HC.out.1 HS.out).mono ?_;rintro ee w4 ⟨rfl,hd⟩)
    go_ret
    have hb4:=hd.below
    exact⟨HIr.out.kept hb4,HBr.out.trans (Bw.below hb4 hbr),_,rfl,Kd.R_below HR.out hb4⟩
   | false =>
    go_wp2_with (first
     |(go_at_call 220;refine(Qcn.calls k Ao co (Qre bs i j) false _ HC.out.2 HC.out.1 HS.out).mono ?_;rintro ee w4 ⟨rfl,hd⟩;have hb4:=hd.below;have HI4:=QA (HIr.out.kept hb4);have HB4:=QA (HBr.out.trans (Bw.below hb4 hbr));clear hb4)
     |(go_at_call 175;refine(Qqo b g bs _ 8 (by decide) _ HI4.out).mono ?_;rintro ee w5 ⟨rfl,rfl⟩))
    exact⟨rfl,HI4.out,HB4.out,rfl⟩
theorem RE.cur{W W':World}{b g b':Nat}{v:Value}{xs:List Ent}{bs:List Int}{i:Int}(h:RE W b' v xs)(hI:IsCur W b g bs i)(hT:Bw b g W W'):RE W' b' v xs:=by
 obtain⟨u,hu,_⟩:=hI
 refine Kd.R_mono (Kd.R_step (Kd.R_bound h) (fun k hk _=>?_)) (fun _ _=>trivial)
 obtain⟨q,hq,cells,hc⟩:=hk.2.2.2
 have ht:∀q,q∈117 :: (k117).E→q=117:=by decide
 obtain rfl:=ht q hq
 rw[hc]
 exact hT.2 k cells _ hc (by decide) (Qdv hc hu (by decide))
theorem RE.cap(w:World)(N:Nat)(cs:Array Value)(hs:cs.size=N*2)(hm:N≤maxLen):RE (w.alloc (.cells cs 117)) w.heap.size (.slice (some ⟨w.heap.size,0,none⟩) 0 N) []:=by
 refine⟨fun _ _=>trivial,[],⟨rfl,.inr ⟨w.heap.size,N,cs,rfl,Nat.le_refl _,?_,Nat.zero_le _,hm,hs,by simp⟩⟩,Reps.none _ _⟩
 exact Qei w _
def Qrj(bs:List Int)(i:Nat)(n:Nat):List Ent:=(List.range n).map (fun j=>(⟨CodecP.leI ((bs.drop (i+12*j)).take 8),CodecP.leI ((bs.drop (i+12*j+8)).take 4)⟩:Ent))
theorem Qrk(bs:List Int)(i n:Nat):Qrj bs i (n+1)=Qrj bs i n++[(⟨CodecP.leI ((bs.drop (i+12*n)).take 8),CodecP.leI ((bs.drop (i+12*n+8)).take 4)⟩:Ent)]:=by simp[Qrj,List.range_succ]
theorem Qrl(bs:List Int)(i n:Nat):(Qrj bs i n).length=n:=by simp[Qrj]
theorem Qrm(b g:Nat)(bs:List Int)(i n:Int)(hi:0≤i∧i≤bs.length)(hl:bs.length≤140737488355328)(hn:0≤n)(hs:((bs.length:Int)-i)/12<n)(w:World)(hbw:b≤w.heap.size)(hI:IsCur w b g bs i) :
  Calls Tryz.prog 181 #[.pointer (some ⟨g,0,none⟩),.int .i64 n] w (Qqt b g bs i 2 w):=by
 have HI:=QA hI
 have hm:(if 0<n then n else 0)=n:=by split<;>omega
 have hq:((bs.length:Int)-i).tdiv 12=((bs.length:Int)-i)/12:=Int.tdiv_eq_ediv_of_nonneg (by omega)
 obtain⟨q,hqq⟩:∃q,q=((bs.length:Int)-i)/12:=⟨_,rfl⟩
 rw[← hqq]at hq hs
 have hb1:decide (q<n)=true:=decide_eq_true hs
 have hw:IntKind.i64.wrap q=q:=IntWalk.i64_in _ (by omega)
 clear hI hqq
 go_enter Tryz.func181,Tryz.ntmps181
 go_wp2_with (first
  |(go_at_call 139;refine(Qqy b g bs i hi hl _ HI.out).mono ?_;rintro ee w1 ⟨rfl,hb1⟩;have HI1:=QA (HI.out.kept hb1))
  |(go_at_call 175;refine(Qqo b g bs i 2 (by decide) _ HI1.out).mono ?_;rintro ee w2 ⟨rfl,rfl⟩))
 all_goals exact⟨rfl,rfl,HI1.out,Bw.below hb1 hbw⟩
theorem Qrn(k b g:Nat)(bs:List Int)(i n:Nat)(N:Int)(hN:N=(n:Int))(s:Bool)(hb:CodecP.Bytes bs)(hl:bs.length≤100000000000)(hn:i+12*n≤bs.length)(hs:Qcq.f k (Qrj bs i n)=some s)(hbg:b≤g)(w:World)(hbw:b≤w.heap.size)(hI:IsCur w b g bs i) :
  Calls Tryz.prog 181 #[.pointer (some ⟨g,0,none⟩),.int .i64 N] w fun e w'=>IsCur w' b g bs ((i+12*n:Nat):Int)∧Bw b g w w'∧((s=true∧∃v,e=.returned v∧RE w' w.heap.size v (Qrj bs i n))∨(s=false∧e=.panicked [Qqm g 8])):=by
 have HI:=QA hI
 have HW:=QA hbw
 have HB:=QA hb
 have HS:=QA hs
 have HN:=QA hn
 have hm:(if 0<N then N else 0)=N:=by split<;>omega
 obtain⟨q,hqq⟩:∃q,q=((bs.length:Int)-(i:Int))/12:=⟨_,rfl⟩
 have hq:((bs.length:Int)-(i:Int)).tdiv 12=q:=by rw[hqq];exact Int.tdiv_eq_ediv_of_nonneg (by omega)
 have hb1:decide (q<N)=false:=decide_eq_false (by omega)
 have hmn:(if q<N then q else N)=N:=if_neg (by omega)
 have hw:IntKind.i64.wrap q=q:=IntWalk.i64_in _ (by omega)
 have hn2:(n:Int)≤140737488355328:=by omega
 have hl2:bs.length≤140737488355328:=by omega
 obtain⟨i0,hii,hzz⟩:=Option.map_eq_some_iff.1 Qoo
 simp only[Prod.mk.injEq]at hzz
 have hrun:=fun W=>run_make (P:=Tryz.prog) W 106 117 i0 (.agg #[.int .u64 0,.int .u32 0]) Tryz.underlying106 hii hzz.1 .i64 .i64 0 N (by omega) (by omega) (by rw[hzz.2.2];omega) (by omega)
 have hNt:N.toNat=n:=by omega
 rw[hzz.2.1,hNt]at hrun
 simp only[show(Value.agg #[.int .u64 0,.int .u32 0]).cells=#[.int .u64 0,.int .u32 0] from rfl]at hrun
 have HNN:=QA hN
 have HL:=QA hl
 clear hN hI hqq hbw hb hs hn hzz hii hNt hl
 go_enter Tryz.func181,Tryz.ntmps181
 go_wp2_with (first
  |(go_at_call 139;refine(Qqy b g bs i qq_16 hl2 _ HI1.out).mono ?_;rintro ee w2 ⟨rfl,hb2⟩;have HI2:=QA (HI1.out.kept hb2);have HB2:=QA (HB1.out.trans (Qjn hb2 HB1.out.size));clear hb2)
  |(go_at_call 139;refine(Qqy b g bs i qq_16 hl2 _ HI.out).mono ?_;rintro ee w1 ⟨rfl,hb1⟩;have HI1:=QA (HI.out.kept hb1);have HB1:=QA hb1;clear hb1))
 obtain⟨W0,hW0⟩:∃W0,W0=w2.alloc (.cells (madeCells #[.int .u64 0,.int .u32 0] (n*2)) 117):=⟨_,rfl⟩
 have HR0:=QA (show RE W0 w2.heap.size (.slice (some ⟨w2.heap.size,0,none⟩) 0 n) []by rw[hW0];exact RE.cap w2 n _ (by simp[madeCells]) (by unfold maxLen;omega))
 have hB0:Below w2.heap.size w2 W0:=by rw[hW0];exact Qcu (Below.refl _ _) _
 have HI0:=QA (HI2.out.kept hB0)
 have HB0:=QA (HB2.out.trans (Qjn hB0 HB2.out.size))
 have HRL:=QA (Kd.R_lower HR0.out HB2.out.size)
 first|rw[← hW0]|trace_state
 clear hW0 hrun hB0 HI1 HI2 HB1 HB2 HI HR0
 go_loopw [5,22] (fun v5 v22 wr=>∃(vo:Value) (j:Nat) (iv:Int),vo=v5∧j≤n∧v22=.int .i64 iv∧Aside0 (iv=(j:Int))∧Aside0 (RE wr w.heap.size vo (Qrj bs i j))∧Aside0 (IsCur wr b g bs ((i+12*j:Nat):Int))∧Aside0 (Bw b g w wr))
  (fun _ v22 _=>n-(intOf v22).toNat)
 case atStart=>exact⟨_,0,0,rfl,Nat.zero_le _,rfl,⟨rfl⟩,⟨HRL.out⟩,⟨by simpa using HI0.out⟩,⟨Bw.below HB0.out HW.out⟩⟩
 case round =>
  obtain⟨vo,j,iv,rfl,hj,rfl,HJ,HR,HIr,HBr⟩:=hrel
  clear HI0 HB0 HRL
  have hbr:b≤wr.heap.size:=Nat.le_trans HW.out HBr.out.size
  obtain⟨Ao,co,hvo⟩:=Kd.R_slice HR.out
  subst hvo
  by_cases hlt:j<n
  ·have hlt2:iv<N:=by have:=HJ.out;have:=HNN.out;omega
   have hge:0≤iv:=by have:=HJ.out;omega
   have hwi:IntKind.i64.wrap (iv+1)=iv+1:=IntWalk.i64_in _ (by have:=HNN.out;omega)
   obtain⟨x,hx⟩:∃x,x=CodecP.leI ((bs.drop (i+12*j)).take 8):=⟨_,rfl⟩
   have HX:=QA hx
   clear hx
   obtain⟨y,hy⟩:∃y,y=CodecP.leI ((bs.drop (i+12*j+8)).take 4):=⟨_,rfl⟩
   have HY:=QA hy
   clear hy
   go_wp2_with (first
    |(go_at_call 172;refine(Qrb b g bs ((i+12*j:Nat):Int) x (by rw[Int.toNat_natCast];exact HX.out) HB.out (Int.natCast_nonneg _) hl2 qq_16 hbg _ hbr HIr.out).mono ?_;rintro ee w2 ⟨rfl,hI2,hB2⟩;have HR2:=QA (RE.cur HR.out HIr.out hB2);have HI2:=QA (show IsCur w2 b g bs ((i+12*j+8:Nat):Int)by(rw[show((i+12*j+8:Nat):Int)=((i+12*j:Nat):Int)+8 by omega];exact hI2));have HB2:=QA (HBr.out.trans hB2);clear hI2 hB2)
    |(go_at_call 180;refine(Qrc b g bs ((i+12*j+8:Nat):Int) y (by rw[Int.toNat_natCast];exact HY.out) HB.out (Int.natCast_nonneg _) hl2 qq_16 hbg _ (Nat.le_trans HW.out HB2.out.size) HI2.out).mono ?_;rintro ee w3 ⟨rfl,hI3,hB3⟩;have HR3:=QA (RE.cur HR2.out HI2.out hB3);have HI3:=QA hI3;have HB3:=QA (HB2.out.trans hB3);clear hI3 hB3)
    |(at_builtin;refine Kd.R_append k117 (w0:=w3) w.heap.size rfl (.tmp 24) (.tmp 30) 106 117 (.agg #[.int .u64 0,.int .u32 0]) 16 rfl Tryz.underlying106 Qoo rfl (by decide) (by omega) (.slice Ao (Qrj bs i j).length co) (Qrj bs i j) (⟨x,y⟩:Ent) [.int .u64 x,.int .u32 y] (fun _=>True) (fun _=>False) rfl ?ax ?aP (fun _ hk=>hk.elim) ?aF ?aO ?aB ?aS ?aL ?_;(case ax=>rfl);(case aP=>exact Qje _ _ _ (⟨x,y⟩:Ent));(case aF=>exact fun _ _=>trivial);(case aO=>exact HR3.out);(case aB=>exact Below.refl _ _);(case aS=>exact HB3.out.size);(case aL=>rw[Qrl];have:=HN.out;have:=HL.out;omega);intro v1 w4 HR4 hb4 hg4 hat4;have HR4':=QA HR4;have HI4:=QA (HI3.out.grown HR3.out ⟨by decide,by decide⟩ hg4);have HB4:=QA (HB3.out.then hb4 HW.out);clear HR4 hb4 hg4 hat4))
   go_roundw
   case rel=>exact⟨_,j+1,iv+1,rfl,hlt,rfl,⟨by have:=HJ.out;omega⟩,⟨by rw[Qrk,← HX.out,← HY.out];exact HR4'.out⟩,⟨by rw[show((i+12*(j+1):Nat):Int)=((i+12*j+8:Nat):Int)+4 by omega];exact HI4.out⟩,HB4⟩
   case measure=>have:=HJ.out;simp[intOf];omega
  ·obtain rfl:j=n:=by omega
   have e1:iv=N:=HJ.out.trans HNN.out.symm
   subst e1
   have hC:=(Kd.R_reads' HR.out).2
   have HC:=QA hC
   clear hC
   cases s with
   | true =>
    go_wp2_with (go_at_call 160;refine(Qcq.calls k Ao co (Qrj bs i j) true _ HC.out.2 HC.out.1 HS.out).mono ?_;rintro ee w4 ⟨rfl,hb4⟩)
    go_ret
    exact⟨HIr.out.kept hb4,HBr.out.trans (Bw.below hb4 hbr),_,rfl,Kd.R_below HR.out hb4⟩
   | false =>
    go_wp2_with (first
     |(go_at_call 160;refine(Qcq.calls k Ao co (Qrj bs i j) false _ HC.out.2 HC.out.1 HS.out).mono ?_;rintro ee w4 ⟨rfl,hb4⟩;have HI4:=QA (HIr.out.kept hb4);have HB4:=QA (HBr.out.trans (Bw.below hb4 hbr));clear hb4)
     |(go_at_call 175;refine(Qqo b g bs _ 8 (by decide) _ HI4.out).mono ?_;rintro ee w5 ⟨rfl,rfl⟩))
    exact⟨rfl,HI4.out,HB4.out,rfl⟩
end Go.Proofs.YtnnofopfbeklbaaGreat.C
end
