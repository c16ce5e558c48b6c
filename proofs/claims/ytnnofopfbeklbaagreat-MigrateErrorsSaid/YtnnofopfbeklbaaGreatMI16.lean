/- Texts of this claim's author and of the print of its functions, merged by merge.py. -/
import Derived.Test.YtnnofopfbeklbaaGreatMI02
import Derived.Test.YtnnofopfbeklbaaGreatMI04
import Derived.Test.YtnnofopfbeklbaaGreatMI05
import Derived.Test.YtnnofopfbeklbaaGreatMI09
import Derived.Test.YtnnofopfbeklbaaGreatMI06
import Derived.Test.YtnnofopfbeklbaaGreatMI13
import Derived.Test.YtnnofopfbeklbaaGreatMI10
import Derived.Test.YtnnofopfbeklbaaGreatMI15
import Derived.Test.YtnnofopfbeklbaaGreatMI03
import Derived.Test.YtnnofopfbeklbaaGreatMI12
set_option linter.unusedVariables false
set_option linter.unusedSimpArgs false
set_option maxHeartbeats 8000000
set_option maxRecDepth 100000
section
namespace Go.Proofs.YtnnofopfbeklbaaGreat.C
open Go.RowKit Go.Proofs.YtnnofopfbeklbaaGreatW.PrintWords Go.Proofs.YtnnofopfbeklbaaGreatW.PrintLast Go.Proofs.YtnnofopfbeklbaaGreatW.PrintMore
def ltE(x y:Ent):Bool:=decide (cfE x y<0)
def Qoe:List Ent→Bool
 | []=>true
 | [_]=>true
 | a :: b :: t=>ltE a b && Qoe (b :: t)
theorem rdE(l:List Ent)(i:Nat)(h:i<l.length):Qht l (i:Int)=l[i]:=by simp[Qht,List.getElem?_eq_getElem h]
theorem Qof(x y:Ent)(k:Nat)(hk:4≤k):Qbo.f k x.f0 x.f1 y.f0 y.f1=some (cfE x y):=by
 unfold Qbo.f
 rw[Qmf,Option.bind_some,Qmg,Option.bind_some,Qcm (g:=fun k=>Qah.f k [ci x.f0 y.f0,ci x.f1 y.f1]) (Qah.mono _) hk (or_is _ _),Option.bind_some,Qmh]
theorem Qog{l:List Ent}{i:Nat}(h:i+1<l.length):Qoe (l.drop i)=(ltE l[i] l[i+1] && Qoe (l.drop (i+1))):=by
 rw[List.drop_eq_getElem_cons (by omega),List.drop_eq_getElem_cons h]
 rfl
theorem Qoh(l:List Ent)(hl:l.length≤1099511627776):∀(d i k:Nat),i+d=l.length→1≤i→d+6≤k→Qbp.l0 k l (i:Int)=some (Qoe (l.drop (i-1)))
 | 0,i,k,h,hi,hk=>by
  obtain⟨k,rfl⟩:∃m,k=m+1:=⟨k-1,by omega⟩
  unfold Qbp.l0
  rw[if_neg (by omega)]
  have h1:(l.drop (i-1)).length≤1:=by rw[List.length_drop];omega
  match hd:l.drop (i-1),h1 with
  | [],_=>rfl
  | [_],_=>rfl
 | d+1,i,k,h,hi,hk=>by
  obtain⟨k,rfl⟩:∃m,k=m+1:=⟨k-1,by omega⟩
  obtain⟨j,rfl⟩:∃j,i=j+1:=⟨i-1,by omega⟩
  have w1:wrap64 (((j+1:Nat):Int)-1)=(j:Int):=by unfold wrap64;omega
  have w2:wrap64 (((j+1:Nat):Int)+1)=((j+2:Nat):Int):=by unfold wrap64;omega
  unfold Qbp.l0
  rw[w1,w2,rdE l (j+1) (by omega),rdE l j (by omega)]
  rw[if_pos (by omega)]
  clear w1 w2
  have hc:=Qof l[j] l[j+1] k (by omega)
  have ih:=Qoh l hl d (j+2) k (by omega) (by omega) (by omega)
  rw[show j+2-1=j+1 by omega]at ih
  rw[show j+1-1=j by omega,Qog (by omega)]
  simp only[if_pos (show(0:Int)≤(j:Int)by omega),if_pos (show(j:Int)<(l.length:Int)by omega),if_pos (show(0:Int)≤((j+1:Nat):Int)by omega),if_pos (show((j+1:Nat):Int)<(l.length:Int)by omega),hc,Option.bind_some,ih]
  unfold ltE
  by_cases h0:cfE l[j] l[j+1]<0
  ·simp[h0,show ¬(0≤cfE l[j] l[j+1])by omega]
  ·simp[h0,show(0≤cfE l[j] l[j+1])by omega]
theorem Qoi(l:List Ent)(hl:l.length≤1099511627776):Qbp.f (l.length+8) l=some (Qoe l):=by
 unfold Qbp.f
 rcases Nat.eq_zero_or_pos l.length with h0|h0
 ·have h1:l=[]:=List.eq_nil_of_length_eq_zero h0
  subst h1
  rfl
 ·exact Qoh l hl (l.length-1) 1 (l.length+8) (by omega) (by omega) (by omega)
def Qoj(used:Int)(l:List Ent):Int:=if l.length=0 then 4 else if 1048576<l.length then 3 else if Qoe l=false then 8 else if l.any (fun x=>decide (used≤x.f1))=true then 4 else 0
theorem Qok(used:Int)(tv:Value)(B:Nat)(w:World)(hv:w.heap[B]? = some (.cells #[.int .u32 used,tv] 127 (0,0))) :
  PredBelow Tryz.prog 159 #[.pointer (some ⟨B,0,none⟩)] (fun x=>.agg (encE x).toArray) (fun x=>decide (used≤x.f1)) w:=fun W x hb=>by
 have hB:=Qcs hv
 have hc:W.cell? ⟨B,0,none⟩=some (.int .u32 used):=(Qct (Qdg hv hb) 0).trans rfl
 have hne:B≠W.heap.size:=by have:=hb.size;omega
 have hu:=Tryz.underlying117
 have hu2:=Tryz.underlying127
 have hBW:B<W.heap.size:=Nat.lt_of_lt_of_le hB hb.size
 show Calls Tryz.prog 159 #[.agg #[.int .u64 x.f0,.int .u32 x.f1],.pointer (some ⟨B,0,none⟩)] W _
 have b1:=Qdh W (.cells #[.int .u64 x.f0,.int .u32 x.f1] 117)
 have hb1:Below W.heap.size W (W.alloc (.cells #[.int .u64 x.f0,.int .u32 x.f1] 117)):=Qbw (Below.refl _ _) _
 have hca:(W.alloc (.cells #[.int .u64 x.f0,.int .u32 x.f1] 117)).cell? ⟨B,0,none⟩=some (.int .u32 used):=(Qct (Qdd (Qdg hv hb) _) 0).trans rfl
 have hcb:(W.alloc (.cells #[.int .u64 x.f0,.int .u32 x.f1] 117)).cell? ⟨W.heap.size,1,none⟩=some (.int .u32 x.f1):=(Qct b1 1).trans rfl
 go_enter Tryz.func159,Tryz.ntmps159
 go_wp2
 go_ret
 exact⟨rfl,hb.alloc hb.size _⟩
theorem Qol(b:Nat)(used:Int)(A:Option Addr)(n c:Nat)(l:List Ent)(w:World)(hn:n=l.length)(hR:RE w b (.slice A n c) l)(hl:l.length≤1099511627776) :
  Calls Tryz.prog 111 #[.agg #[.int .u32 used,.slice A n c]] w fun e w'=>e=.returned (.int .i64 (Qoj used l))∧Below w.heap.size w w':=by
 have hu:=Tryz.underlying127
 have hmf:∀(fn:Fn) (first cap:Array Value) (w:World),(Instr.makeFunc fn first cap).run Tryz.prog w=.ok (.func fn first cap) w:=fun _ _ _ _=>rfl
 have hb1:Below w.heap.size w (w.alloc (.cells #[.int .u32 used,.slice A n c] 127)):=Qbw (Below.refl _ _) _
 have bk:=Qdh w (.cells #[.int .u32 used,.slice A n c] 127)
 have hc0:(w.alloc (.cells #[.int .u32 used,.slice A n c] 127)).cell? ⟨w.heap.size,0,none⟩=some (.int .u32 used):=(Qct bk 0).trans rfl
 have hc1:(w.alloc (.cells #[.int .u32 used,.slice A n c] 127)).cell? ⟨w.heap.size,1,none⟩=some (.slice A n c):=(Qct bk 1).trans rfl
 have HR:=QA hR
 have HN:=QA hn
 have hk:Calls Tryz.prog 111 #[.agg #[.int .u32 used,.slice A n c]] w fun e w'=>e=.returned (.int .i64 (if n=0 then 4 else if 1048576<n then 3 else if Qoe l=false then 8 else if l.any (fun x=>decide (used≤x.f1))=true then 4 else 0))∧Below w.heap.size w w':=by
  by_cases h0:n=0
  ·rw[if_pos h0]
   have e0:((n:Int) == 0)=true:=beq_iff_eq.2 (by omega)
   have E0:=QA h0
   clear h0 hn hR hl
   go_enter Tryz.func111,Tryz.ntmps111
   go_wp2
   go_ret
   exact⟨rfl,hb1⟩
  rw[if_neg h0]
  have e0:((n:Int) == 0)=false:=beq_eq_false_iff_ne.2 (by omega)
  by_cases h1:1048576<n
  ·rw[if_pos h1]
   have e1:decide ((1048576:Int)<(n:Int))=true:=decide_eq_true (by omega)
   clear hn hR hl h0
   go_enter Tryz.func111,Tryz.ntmps111
   go_wp2
   go_ret
   exact⟨rfl,hb1⟩
  rw[if_neg h1]
  have e1:decide ((1048576:Int)<(n:Int))=false:=decide_eq_false (by omega)
  have hris:=Qoi l hl
  have HRI:=QA hris
  have hC:Kd.C k117 (w.alloc (.cells #[.int .u32 used,.slice A n c] 127)) A n l:=by
   have h:=Kd.R_reads' hR
   rw[hn]
   exact Kd.C_alloc h.2.2 _
  have hcap:n≤c:=(Kd.R_reads' hR).2.1
  have hpos:0<l.length:=by omega
  obtain⟨g,cap,hf,hbg,hgl,cells,hgc⟩:=Kd.R_form hR hpos
  injection hf with hf1 hf2 hf3
  subst hf1
  obtain⟨r,hr⟩:∃r,r=Qoe l:=⟨_,rfl⟩
  rw[← hr]at HRI ⊢
  clear hr
  have hcall:∀W,Kd.C k117 W (some ⟨g,0,none⟩) n l→Calls Tryz.prog 160 #[.slice (some ⟨g,0,none⟩) n c] W fun e w'=>e=.returned (.bool r)∧Below W.heap.size W w':=by
   intro W hCW
   have hcw2:=hCW
   rw[hn]at hCW ⊢
   exact Qbp.calls _ _ c l r W hCW (by omega) HRI.out
  have HCL:=QA hcall
  have HC:=QA hC
  clear hris hcall hC hn hgc hf2 hf3
  cases r with
  | false =>
   rw[if_pos rfl]
   clear hR hl h0 h1
   go_enter Tryz.func111,Tryz.ntmps111
   go_wp2_with (go_at_call 160;refine(HCL.out _ HC.out).mono ?_;rintro e w1 ⟨rfl,hb2⟩)
   go_ret
   exact⟨rfl,Qbz hb1 hb1.size hb2⟩
  | true =>
   rw[if_neg (by decide)]
   obtain⟨q,hq⟩:∃q,q=l.any (fun x=>decide (used≤x.f1)):=⟨_,rfl⟩
   rw[← hq]
   have eg:∀args w,(callFunc 159 args).run Tryz.prog w=.ok (.enter 159 args) w:=enters_of Tryz.func159 qq_5 rfl
   have hany:∀W1:World,Below (w.alloc (.cells #[.int .u32 used,.slice (some ⟨g,0,none⟩) n c] 127)).heap.size (w.alloc (.cells #[.int .u32 used,.slice (some ⟨g,0,none⟩) n c] 127)) W1 →
     Calls Tryz.prog 161 #[.slice (some ⟨g,0,none⟩) n c,.func (.func 159) #[] #[.pointer (some ⟨w.heap.size,0,none⟩)]] W1 fun e w'=>e=.returned (.bool q)∧Below W1.heap.size W1 w':=by
    intro W1 hW1
    have hRW:=Kd.R_below (Kd.R_below HR.out hb1) hW1
    have hown:=RE.own hRW
    have hH:=Qnw (b:=b) (g:=g) (cap:=c) (l:=l) (by rw[← HN.out];rw[← HN.out]at hown;exact hown)
    have hcon:=AnyQ.slices_ContainsFunc Tryz.hasEnt 2 Tryz.isAgg117 Tryz.sizeOf117 encE (fun _=>rfl) (fun x=>decide (used≤x.f1)) 159 #[.pointer (some ⟨w.heap.size,0,none⟩)] eg g 0 n c l W1
     (Qok used _ w.heap.size W1 (Qdg bk hW1)) qq_11 qq_11 (by have:=hW1.size;rw[World.size_alloc]at this;omega) (fun j hj i v hv=>by
      have h2:=Qnp l j
      have hjl:l[j]? = some l[j]!:=by rw[List.getElem?_eq_getElem hj,getElem!_pos l j hj]
      rw[hjl]at h2
      generalize l[j]! = x at *
      have key:(Qnm l)[2*j+i]? = some v:=by
       match i,hv with
       | 0,hv=>simp[encE]at hv;rw[← hv];exact h2.1
       | 1,hv=>simp[encE]at hv;rw[← hv];exact h2.2
       | i+2,hv=>simp[encE]at hv
      have hlt:j*2+i<l.length*2:=by
       have:=(List.getElem?_eq_some_iff.1 key).1
       rw[Qnn]at this
       omega
      rcases hown.2 with⟨hn',_⟩ |⟨g',cap',cur,he,hb',hh,hh1,hh2,hh3,hh4⟩
      ·cases hn'
      cases he
      have h5:(cur.toList.take (l.length*2))[j*2+i]? = (Qnm l)[j*2+i]?:=by rw[hh4]
      rw[List.getElem?_take_of_lt hlt]at h5
      simp only[World.cell?,hh,Nat.zero_add]
      simp only[Option.isSome_none,Bool.false_eq_true,if_false]
      rw[← Array.getElem?_toList,h5,show j*2+i=2*j+i by omega,key])
    rw[List.take_of_length_le qq_11,← hq]at hcon
    exact hcon
   have HA:=QA hany
   clear hany hR hl h0 h1 hq eg
   cases q with
   | true =>
    rw[if_pos rfl]
    go_enter Tryz.func111,Tryz.ntmps111
    go_wp2_with (first
     |(go_at_call 160;refine(HCL.out _ HC.out).mono ?_;rintro e w1 ⟨rfl,hb2⟩;have hk2:=Qdg bk hb2;have hd1:w1.cell? ⟨w.heap.size,1,none⟩=some (.slice (some ⟨g,0,none⟩) n c):=(Qct hk2 1).trans rfl)
     |(go_at_call 161;refine(HA.out _ hb2).mono ?_;rintro e w2 ⟨rfl,hb3⟩))
    go_ret
    exact⟨rfl,Qbz (Qbz hb1 hb1.size hb2) (Nat.le_trans hb1.size hb2.size) hb3⟩
   | false =>
    rw[if_neg (by decide)]
    go_enter Tryz.func111,Tryz.ntmps111
    go_wp2_with (first
     |(go_at_call 160;refine(HCL.out _ HC.out).mono ?_;rintro e w1 ⟨rfl,hb2⟩;have hk2:=Qdg bk hb2;have hd1:w1.cell? ⟨w.heap.size,1,none⟩=some (.slice (some ⟨g,0,none⟩) n c):=(Qct hk2 1).trans rfl)
     |(go_at_call 161;refine(HA.out _ hb2).mono ?_;rintro e w2 ⟨rfl,hb3⟩))
    go_ret
    exact⟨rfl,Qbz (Qbz hb1 hb1.size hb2) (Nat.le_trans hb1.size hb2.size) hb3⟩
 refine hk.mono fun e w' ⟨he,hb⟩=>⟨?_,hb⟩
 rw[he]
 unfold Qoj
 rw[HN.out]
def Qom(used:Int)(l:List Ent):List Int:=Qlm ([4]++leb l.length 4++leb used 4++l.flatMap ent++(Qmp l).flatMap (fun x=>leb x 8))
theorem RU.tk{W W':World}{b g:Nat}{v:Value}{xs:List Int}{ys:List Int}{b':Nat}(h:RU W b v xs)(hI:IsBuf W b' g ys)(hT:Tk g W W'):RU W' b v xs:=by
 obtain⟨u,hu,_⟩:=hI
 refine Kd.R_mono (Kd.R_step (Kd.R_bound h) (fun k hk _=>?_)) (fun _ _=>trivial)
 obtain⟨q,hq,cells,hc⟩:=hk.2.2.2
 have hq':q=34:=by simpa [Kd.int,Kd.scalar]using hq
 subst hq'
 rw[hc]
 exact hT k cells _ hc (by decide) (Qcw hc hu (by decide))
theorem Qon{W:World}{B:Nat}{u:Int}{v:Value}(h:W.heap[B]? = some (.cells #[.int .u32 u,v] 127 (0,0))):W.cell? ⟨B,0,none⟩=some (.int .u32 u)∧W.cell? ⟨B,1,none⟩=some v :=
 ⟨(Qct h 0).trans rfl,(Qct h 1).trans rfl⟩
theorem Qoo{l:List Ent}(hwf:∀x∈l,(0≤x.f0∧x.f0<18446744073709551616)∧0≤x.f1∧x.f1<4294967296):∀x∈Qmp l,0≤x∧x<18446744073709551616:=by
 intro x hx
 unfold Qmp at hx
 obtain⟨k,hk,rfl⟩:=List.mem_map.1 hx
 have hk':=List.mem_range.1 hk
 have hkl:k*16<l.length:=by unfold chN at hk';omega
 unfold Qmo
 rw[rdE l (k*16) hkl]
 exact(hwf _ (List.getElem_mem hkl)).1
theorem Qop(l:List Ent):(Qmp l).length=chN l.length:=by simp[Qmp]
theorem Qoq(x y:Int)(l:List Ent):([]++[4]++leb x 4++leb y 4++l.flatMap ent).length=9+12*l.length:=by
 rw[List.length_append,List.length_append,List.length_append,List.length_append,Qhy,Qhy,Qjo]
 rfl
theorem Qor(x y:Int)(l:List Ent):([]++[4]++leb x 4++leb y 4++l.flatMap ent++(Qmp l).flatMap (fun x=>leb x 8)).length=9+12*l.length+8*(Qmp l).length:=by
 rw[List.length_append,Qoq,Qjl]
theorem Qos(b:Nat)(used:Int)(A:Option Addr)(n c:Nat)(l:List Ent)(w:World)(hn:n=l.length)(hR:RE w b (.slice A n c) l)(hchk:Qoj used l=0)(hu0:0≤used)(hu1:used<4294967296)
  (hwf:∀x∈l,(0≤x.f0∧x.f0<18446744073709551616)∧0≤x.f1∧x.f1<4294967296) :
  Calls Tryz.prog 67 #[.agg #[.int .u32 used,.slice A n c]] w fun e w'=>∃v,e=.returned (.tuple #[v,.int .i64 0])∧R8 w' w.heap.size v (Qom used l)∧Below w.heap.size w w':=by
 have hu:=Tryz.underlying127
 have hn0:n≠0:=by intro h;unfold Qoj at hchk;rw[if_pos (by omega)]at hchk;cases hchk
 have hn1:n≤1048576:=by
  apply Decidable.byContradiction
  intro h
  unfold Qoj at hchk
  rw[if_neg (by omega),if_pos (by omega)]at hchk
  cases hchk
 have hpos:0<l.length:=by omega
 obtain⟨g,cap,hf,hbg,hgl,cells,hgc⟩:=Kd.R_form hR hpos
 injection hf with hf1 hf2 hf3
 subst hf1
 have hcap:n≤c:=(Kd.R_reads' hR).2.1
 have hC:Kd.C k117 w (some ⟨g,0,none⟩) n l:=by
  have h:=Kd.R_reads' hR
  rw[hn]
  exact h.2.2
 have HN:=QA hn
 have HR:=QA hR
 have HCK:=QA (Qol b used (some ⟨g,0,none⟩) n c l w hn hR (by omega))
 have hck:Aside0 (Qoj used l=0):=⟨hchk⟩
 have HC:=QA hC
 have HWF:=QA hwf
 have hbn:=Qdh w (.cells #[.int .u32 used,.slice (some ⟨g,0,none⟩) n c] 127)
 have hba:Below w.heap.size w (w.alloc (.cells #[.int .u32 used,.slice (some ⟨g,0,none⟩) n c] 127)):=Qbw (Below.refl _ _) _
 have HRa:=QA (Kd.R_alloc hR (.cells #[.int .u32 used,.slice (some ⟨g,0,none⟩) n c] 127))
 have hmod:(n:Int)%4294967296=(n:Int):=by omega
 have HM:=QA hmod
 obtain⟨c0,c1⟩:=Qon hbn
 clear hn hR hchk hC hwf hgc hf2 hf3 hmod hpos
 go_enter Tryz.func67,Tryz.ntmps67
 go_wp2_with (first
  |(go_at_call 111;refine(Qol b used (some ⟨g,0,none⟩) n c l _ HN.out HRa.out qq_11).mono ?_;rw[hck.out];rintro ee w1 ⟨rfl,hb1⟩;have hk1:=Qdg hbn hb1;have hw1:=QA (Qbz hba hba.size hb1);have hs1':=QA (show w.heap.size<w1.heap.size from Qcs hk1);have HI1:=QA (IsBuf.new w1 w.heap.size);have hk1':=Qdd hk1 (.cells #[.slice none 0 0] 167);clear hk1 hb1 hbn hba c0 c1;obtain⟨c0,c1⟩:=Qon hk1'))
 obtain⟨W,hW⟩:∃W,W=w1.alloc (.cells #[.slice none 0 0] 167):=⟨_,rfl⟩
 have hbW:Below w1.heap.size w1 W:=by rw[hW];exact Qbw (Below.refl _ _) _
 rw[← hW]at hk1' c0 c1 HI1 ⊢
 clear hW
 have hkd:=Qdg hk1' (Qbx (Below.refl W.heap.size W))
 have hId:=HI1.out.kept (Qbx (Below.refl W.heap.size W))
 obtain⟨j0,j1⟩:=Qon hkd
 have hg:=Nat.le_of_lt hs1'.out
 have hzd:w.heap.size≤W.drew.heap.size:=Nat.le_trans hg hbW.size
 have hne:=Nat.ne_of_lt hs1'.out
 have hnn0:(0:Int)≤(n:Int):=by omega
 have hnn1:(n:Int)≤1048576:=by omega
 have hx0:(0:Int)≤(n:Int)%4294967296:=by omega
 have hx1:(n:Int)%4294967296<4294967296:=by omega
 go_region_held3 (fun w'=>w'.cell? ⟨w.heap.size,0,none⟩=some (.int .u32 used)∧w'.cell? ⟨w.heap.size,1,none⟩=some (.slice (some ⟨g,0,none⟩) n c)) (first|exact⟨j0,j1⟩|exact⟨i0,i1⟩|exact⟨i2,i3⟩|exact⟨i4,i5⟩) (first
  |(go_at_call 94;refine(Qie w.heap.size w1.heap.size 4 [] W.drew (by decide) (by decide) hg hzd hId (by simp)).mono ?_;rintro ee w2 ⟨rfl,hI2,hb2⟩;have hk2:=hb2.2 _ _ _ hkd (by decide) hne;obtain⟨i0,i1⟩:=Qon hk2)
  |(go_at_call_of 112 (Value.int .u32 used);refine(Qig w.heap.size w1.heap.size used _ w3 hu0 hu1 hg (Nat.le_trans (Nat.le_trans hzd hb2.size) hb3.size) hI3 (by simp[Qhy])).mono ?_;rintro ee w4 ⟨rfl,hI4,hb4⟩;have hk4:=hb4.2 _ _ _ hk3 (by decide) hne;obtain⟨i4,i5⟩:=Qon hk4)
  |(go_at_call 112;refine(Qig w.heap.size w1.heap.size ((n:Int)%4294967296) ([]++[4]) w2 hx0 hx1 hg (Nat.le_trans hzd hb2.size) hI2 (by simp)).mono ?_;rintro ee w3 ⟨rfl,hI3,hb3⟩;have hk3:=hb3.2 _ _ _ hk2 (by decide) hne;obtain⟨i2,i3⟩:=Qon hk3))
 have hz4:w.heap.size≤w4.heap.size:=Nat.le_trans (Nat.le_trans (Nat.le_trans hzd hb2.size) hb3.size) hb4.size
 have HB4:=QA (show Below w.heap.size w w4 from((((hw1.out.trans (Qia hbW hg)).trans (Qia (Qbx (Below.refl W.heap.size W)) (Nat.le_trans hg hbW.size))).trans hb2.1).trans hb3.1).trans hb4.1)
 clear i0 i1 i2 i3 j0 j1 c0 c1 hk2 hk3 hb2 hb3 hb4 hI2 hI3 hkd hId
 have hlt:(Qmp l).length≤65536:=by rw[Qop];unfold chN;have:=HN.out;omega
 have hCw:∀W',Below w.heap.size w W'→Kd.C k117 W' (some ⟨g,0,none⟩) l.length l:=by
  intro W' hb
  have:=Kd.C_below HC.out hb
  rw[HN.out]at this
  exact this
 have HCW:=QA hCw
 clear hCw
 have htab:∀(xs:List Int) (W':World),xs.length≤100→Below w.heap.size w W'→IsBuf W' w.heap.size w1.heap.size xs→w.heap.size≤W'.heap.size →
   Calls Tryz.prog 113 #[.pointer (some ⟨w1.heap.size,0,none⟩),.slice (some ⟨g,0,none⟩) n c] W' fun e w'=>(∃v,e=.returned v)∧IsBuf w' w.heap.size w1.heap.size (xs++l.flatMap ent)∧Bw w.heap.size w1.heap.size W' w':=by
  intro xs W' hxs hb hI hz
  rw[HN.out]
  exact Qjp w.heap.size w1.heap.size (some ⟨g,0,none⟩) c l xs W' (fun W2 h2=>HCW.out W2 (hb.trans h2.1)) HWF.out hg hz hI qq_11
 have HT:=QA htab
 clear htab
 go_wp2_with (first
  |(go_at_call 113;refine(HT.out _ w4 (by simp[Qhy]) HB4.out hI4 hz4).mono ?_;rintro ee w5 ⟨⟨_,rfl⟩,hI5,hb5⟩;have hk5:=hb5.2 _ _ _ hk4 (by decide) hne;clear i4 i5;obtain⟨i6,i7⟩:=Qon hk5;have hz5:w.heap.size≤w5.heap.size:=Nat.le_trans hz4 hb5.size;have HB5:=QA (HB4.out.trans hb5.1))
  |(go_at_call 115;refine(Qms ⟨g,0,none⟩ c n l w5 HN.out (by have:=HCW.out w5 HB5.out;rw[← HN.out]at this;exact this) hcap (by omega)).mono ?_;rintro ee w6 ⟨⟨v6,rfl,hR6⟩,hb6⟩;obtain⟨A6,c6,rfl⟩:=Kd.R_slice hR6;have hI6:=hI5.kept hb6;have HB6:=QA (Qbz HB5.out hz5 hb6);have hz6:w.heap.size≤w6.heap.size:=Nat.le_trans hz5 hb6.size)
  |(go_at_call 114;refine(Qjm w.heap.size w1.heap.size A6 c6 (Qmp l) _ w6 (fun W2 h2=>(Kd.R_reads' (RU.tk hR6 hI6 h2.2)).2.2) (Qoo HWF.out) hg hz6 hI6 (by rw[Qoq];have:=HN.out;omega)).mono ?_;rintro ee w7 ⟨⟨_,rfl⟩,hI7,hb7⟩;have hz7:w.heap.size≤w7.heap.size:=Nat.le_trans hz6 hb7.size;have HB7:=QA (HB6.out.trans hb7.1))
  |(go_at_call 97;refine(Qil w.heap.size w1.heap.size _ w7 hI7 (by rw[Qor];have:=HN.out;omega)).mono ?_;rintro ee w8 ⟨v8,rfl,hR8,hb8⟩;obtain⟨A8,n8,c8,rfl,hn8,hlc8,hC8⟩:=R8.reads hR8)
  |(go_at_call 96;refine(Qls A8 n8 c8 _ w8 hC8 (by rw[Qor];have:=HN.out;omega)).mono ?_;rintro ee w9 ⟨v9,rfl,hR9,hb9⟩))
 refine bodyPost_ret (results_tmp2 rfl _ _ _) rfl ?_
 have hz8:w.heap.size≤w8.heap.size:=Nat.le_trans hz7 hb8.size
 refine⟨v9,rfl,?_,(HB7.out.trans (Qia hb8 hz7)).trans (Qia hb9 hz8)⟩
 have hL:=R8.low hR9 hz8
 unfold Qom
 rw[HM.out,HN.out]at hL
 exact hL
theorem bd_Seal(b g:Nat)(R:Room5)(fr:List Int)(tb:List S117)(sz:Nat)(w:World)(hI:IsBd w b g R fr tb)(hbw:b≤w.heap.size)(htb:tb≠[])(hnd:tb.Nodup)(htl:tb.length≤1099511627776)
  (hwf:∀x∈tb,(0≤x.f0∧x.f0<18446744073709551616)∧0≤x.f1∧x.f1<4294967296) (hchk:Qoj ((fr.length:Int)%4294967296) (Qnr tb)=0)
  (hsz:Qam.f R.1 R.2.1=some (sz:Int)) (hle:fr.length+(Qom ((fr.length:Int)%4294967296) (Qnr tb)).length≤sz) (hs2:sz≤70368744177664) :
  Calls Tryz.prog 28 #[.pointer (some ⟨g,0,none⟩)] w fun e w'=>∃v:Value,e=.returned (.tuple #[v,.int .i64 0])∧R8 w' w.heap.size v (fr++Qom ((fr.length:Int)%4294967296) (Qnr tb)++List.replicate (sz-(fr++Qom ((fr.length:Int)%4294967296) (Qnr tb)).length) 255)∧Below w.heap.size w w':=by
 have hu:=Tryz.underlying127
 have hu3:=Tryz.underlying108
 obtain⟨F,hF⟩:∃F,F=Qom ((fr.length:Int)%4294967296) (Qnr tb):=⟨_,rfl⟩
 rw[← hF]at hle ⊢
 have HF:=QA hF
 have HI:=QA hI
 obtain⟨fv,tv,hv,hR,hT⟩:=hI
 obtain⟨AT,cT,rfl⟩:=Kd.R_slice hT
 obtain⟨nT,hnT⟩:∃nT,nT=tb.length:=⟨_,rfl⟩
 rw[← hnT]at hv hT
 obtain⟨A,n,c,rfl,hn,hlc,hC⟩:=R8.reads hR
 have hv':Qmc w g R (.slice A n c) (.slice AT nT cT):=hv
 have hpos:0<nT:=by rw[hnT];exact List.length_pos_iff.2 htb
 have hb0:((nT:Int) == 0)=false:=beq_eq_false_iff_ne.2 (by omega)
 have hvd:Qmc w.drew g R (.slice A n c) (.slice AT nT cT):=hv'
 obtain⟨g0,g1,g2,g3,g4,g5,g6⟩:=Qmd hv'
 obtain⟨d0,d1,d2,d3,d4,d5,d6⟩:=Qmd hvd
 have HNT:=QA hnT
 have HT:=QA hT
 have HV:=QA hvd
 have HND:=QA hnd
 have HWF:=QA hwf
 have HCK:=QA hchk
 have HSZ:=QA hsz
 have hx0:(0:Int)≤(n:Int)%4294967296:=by omega
 have hx1:(n:Int)%4294967296<4294967296:=by omega
 have hTd:RE w.drew b (.slice AT nT cT) tb:=Kd.R_drew hT
 have HTD:=QA hTd
 clear hF hR hT hv hC hv' hvd hnT hnd hwf hchk hsz hTd htb
 go_enter Tryz.func28,Tryz.ntmps28
 go_wp2_with fail
 go_region_held3 (fun w'=>w'.cell? ⟨g,5,none⟩=some (.slice A n c)∧w'.cell? ⟨g,6,none⟩=some (.slice AT nT cT)) (first|exact⟨d5,d6⟩|exact⟨i5,i6⟩|exact⟨k5,k6⟩) (first
  |(go_at_call 68;refine(Qod b _ tb w.drew HTD.out HND.out htl).mono ?_;rintro e w1 ⟨v1,rfl,hR1,hb1⟩;have hv1:Qmc w1 g R (.slice A n c) (.slice AT nT cT):=Qdg (w:=w.drew) HV.out hb1;obtain⟨i0,i1,i2,i3,i4,i5,i6⟩:=Qmd hv1;obtain⟨A1,c1,rfl⟩:=Kd.R_slice hR1)
  |(go_at_call 67;refine(Qos w.drew.heap.size ((n:Int)%4294967296) A1 _ c1 (Qnr tb) w1 rfl hR1 (by rw[hn.out];exact HCK.out) hx0 hx1 (fun x hx=>HWF.out x ((Qob tb).mem_iff.1 hx))).mono ?_;rintro e w2 ⟨v2,rfl,hR2,hb2⟩;have hv2:Qmc w2 g R (.slice A n c) (.slice AT nT cT):=Qdg hv1 hb2;obtain⟨k0,k1,k2,k3,k4,k5,k6⟩:=Qmd hv2;obtain⟨A2,n2,c2,rfl,hn2,hl2,hC2⟩:=R8.reads hR2))
 have HB2:=QA (show Below w.heap.size w w2 from((Qbx (Below.refl _ _)).trans hb1).trans (Qia hb2 hb1.size))
 have HI2:=QA (HI.out.kept HB2.out)
 have hR2':R8 w2 w1.heap.size (.slice A2 n2 c2) F:=by rw[HF.out,← hn.out];exact hR2
 have hC2':Kd.C (Kd.int .u8) w2 A2 n2 F:=by
  have h:=Kd.R_reads' hR2'
  rw[h.1]
  exact h.2.2
 have hn2':n2=F.length:=(Kd.R_reads' hR2').1
 have HC2:=QA hC2'
 have HN2:=QA hn2'
 have hz2:b≤w2.heap.size:=Nat.le_trans hbw HB2.out.size
 clear hR1 hb1 hR2 hb2 hv1 hv2 hn2 hC2 i0 i1 i2 i3 i4 i5 i6 d0 d1 d2 d3 d4 d5 d6 g0 g1 g2 g3 g4 g5 g6 hR2' hC2' hn2'
 go_wp2_with (first
  |(go_at_call 29;refine(Qlz b g R fr tb w2 HI2.out (by omega)).mono ?_;rintro e w3 ⟨v3,rfl,hR3,hb3⟩;have HC3:=QA (Kd.C_below HC2.out hb3))
  |(at_builtin;go_loud (refine Kd.R_append_rows (Kd.int .u8) (Rr:=fun x cs=>cs=[.int .u8 x]) (w0:=w3) w2.heap.size rfl (.tmp 33) (.tmp 34) 52 5 (.int .u8 0) 1 rfl Tryz.underlying52 Qhj rfl (by decide) (by omega) v3 fr F A2 n2 c2 (fun _=>True) (fun _=>False) rfl rfl hR3 HC3.out (fun _ _ h=>h) (fun _ hk=>hk.elim) (fun _ _=>trivial) (Below.refl _ _) hb3.size ?bL ?_;(case bL=>have:=HN2.out;omega);intro v4 w4 hR4 hb4 hg4 hat4))
  |(go_at_call 69;go_loud (refine(Qma b w2.heap.size g R fr tb (fr++F) v4 sz w4 (HI2.out.kept (hb3.trans hb4)) hR4 (Nat.le_trans hb3.size hb4.size) HSZ.out (by rw[List.length_append];exact hle) hs2).mono ?_;rintro e w5 ⟨v5,rfl,hR5,hb5⟩)))
 refine bodyPost_ret (results_tmp2 rfl _ _ _) rfl ?_
 refine⟨v5,rfl,?_,?_⟩
 ·exact R8.low hR5 HB2.out.size
 ·exact HB2.out.trans (Qia ((hb3.trans hb4).trans hb5) HB2.out.size)
abbrev Rec:=S39
abbrev Bd:=Room5 × List Int × List Ent
def newB(e s n:Int):Option Bd :=
 (Qbf.f e s n).bind fun q=>(Qav.f e s n).bind fun p =>
  if q.2.2.2.2.2=0∧p.2=0∧q.1=e∧q.2.1=s∧q.2.2.1=n then some ((e,s,n,q.2.2.2.1,q.2.2.2.2.1),p.1,[])else none
def addB (B:Bd) (r:Rec):Option Bd :=
 if chk r.f0 r.f2 r.f3=0 then
  (Qaw.f r.f0 r.f1 r.f2 r.f3).bind fun p=>(Qbk.f B.1.1 B.1.2.1 p.1.length).bind fun tl =>
   (Qbj.f B.1.1 B.1.2.1 B.1.2.2.1 B.1.2.2.2.1 B.1.2.2.2.2 p.1.length).bind fun q =>
    if p.2=0∧tl=false∧q.2.2.2.2.2=0∧B.2.1.length+p.1.length≤70368744177664∧B.2.2.length≤1099511627776 then
     some ((q.1,q.2.1,q.2.2.1,q.2.2.2.1,q.2.2.2.2.1),B.2.1++p.1,B.2.2++[⟨Qjx 0 (bytesOf r.f2),(B.2.1.length:Int)%4294967296⟩])
    else none
 else none
def wfE(x:Ent):Prop:=(0≤x.f0∧x.f0<18446744073709551616)∧0≤x.f1∧x.f1<4294967296
instance (x:Ent):Decidable (wfE x):=by unfold wfE;exact inferInstance
def Qot(B:Bd):Int:=(B.2.1.length:Int)%4294967296
def Qou(B:Bd):Option (List Int) :=
 (Qam.f B.1.1 B.1.2.1).bind fun sz =>
  if B.2.2.length≠0∧B.2.2.length≤1099511627776∧(∀x∈B.2.2,wfE x)∧Qoj (Qot B) (Qnr B.2.2)=0∧((B.2.1.length+(Qom (Qot B) (Qnr B.2.2)).length:Nat):Int)≤sz∧sz≤70368744177664 then
   some (B.2.1++Qom (Qot B) (Qnr B.2.2)++List.replicate (sz.toNat-(B.2.1++Qom (Qot B) (Qnr B.2.2)).length) 255)
  else none
def Qov(B:Bd):Option (List Int) :=
 (Qam.f B.1.1 B.1.2.1).bind fun sz=>if(B.2.1.length:Int)≤sz∧sz≤70368744177664 then some (B.2.1++List.replicate (sz.toNat-B.2.1.length) 255)else none
abbrev IsB(W:World)(b g:Nat)(B:Bd):Prop:=IsBd W b g B.1 B.2.1 B.2.2
theorem Qow(e s n:Int)(B:Bd)(w:World)(h:newB e s n=some B) :
  Calls Tryz.prog 18 #[.agg #[.int .u8 e,.int .u32 s],.int .u32 n] w fun ee w'=>∃g,ee=.returned (.tuple #[.pointer (some ⟨g,0,none⟩),.int .i64 0])∧IsB w' w.heap.size g B∧Below w.heap.size w w'∧w.heap.size≤g:=by
 unfold newB at h
 obtain⟨q,hq,h⟩:=Option.bind_eq_some_iff.mp h
 obtain⟨p,hp,h⟩:=Option.bind_eq_some_iff.mp h
 obtain⟨q1,q2,q3,q4,q5,q6⟩:=q
 obtain⟨p1,p2⟩:=p
 split at h
 ·rename_i hc
  obtain⟨h1,h2,h3,h4,h5⟩:=hc
  dsimp only at h1 h2 h3 h4 h5
  subst h1 h2 h3 h4 h5
  cases h
  exact Qly q1 q2 q3 q4 q5 p1 w hq hp
 ·cases h
theorem add_ofT(b g:Nat)(B B':Bd)(r:Rec)(w:World)(hI:IsB w b g B)(hbg:b≤g)(hbw:b≤w.heap.size)(h:addB B r=some B') :
  Calls Tryz.prog 21 #[.pointer (some ⟨g,0,none⟩),.agg #[.bool r.f0,.int .u64 r.f1,.string r.f2,.string r.f3]] w fun e w'=>e=.returned (.tuple #[.int .u32 ((B.2.1.length:Int)%4294967296),.int .i64 0])∧IsB w' b g B'∧Below b w w'∧Tb g w w':=by
 unfold addB at h
 split at h
 ·rename_i hchk
  obtain⟨p,hp,h⟩:=Option.bind_eq_some_iff.mp h
  obtain⟨tl,htl,h⟩:=Option.bind_eq_some_iff.mp h
  obtain⟨q,hq,h⟩:=Option.bind_eq_some_iff.mp h
  obtain⟨q1,q2,q3,q4,q5,q6⟩:=q
  obtain⟨p1,p2⟩:=p
  split at h
  ·rename_i hc
   obtain⟨h1,h2,h3,h4,h5⟩:=hc
   dsimp only at h1 h2 h3 h4 h5 hq htl
   subst h1 h2 h3
   cases h
   have hk:=(Qlg hchk).1
   exact bd_Add b g B.1 (q1,q2,q3,q4,q5) B.2.1 p1 B.2.2 r.f0 r.f1 r.f2 r.f3 w hI hbg hbw hchk hp htl hq h4 (by omega) h5
  ·cases h
 ·cases h
theorem Qox(b g:Nat)(B B':Bd)(r:Rec)(w:World)(hI:IsB w b g B)(hbg:b≤g)(hbw:b≤w.heap.size)(h:addB B r=some B') :
  Calls Tryz.prog 21 #[.pointer (some ⟨g,0,none⟩),.agg #[.bool r.f0,.int .u64 r.f1,.string r.f2,.string r.f3]] w fun e w'=>e=.returned (.tuple #[.int .u32 ((B.2.1.length:Int)%4294967296),.int .i64 0])∧IsB w' b g B'∧Below b w w' :=
 (add_ofT b g B B' r w hI hbg hbw h).mono fun _ _ ⟨h1,h2,h3,_⟩=>⟨h1,h2,h3⟩
theorem Qoy:∀ {l:List Ent},Qoe l=true→l.Pairwise (fun x y=>cfE x y<0)
 | [],_=>List.Pairwise.nil
 | [a],_=>by simp
 | a :: b :: t,h=>by
  simp only[Qoe,Bool.and_eq_true]at h
  have ih:=Qoy h.2
  refine List.Pairwise.cons (fun x hx=>?_) ih
  have hab:cfE a b<0:=by simpa [ltE]using h.1
  rcases List.mem_cons.1 hx with rfl|hx
  ·exact hab
  ·have hbx:=List.rel_of_pairwise_cons ih hx
   have t1:ltOf cfE a b=true:=by simpa [Go.Proofs.ltOf]using hab
   have t2:ltOf cfE b x=true:=by simpa [Go.Proofs.ltOf]using hbx
   have:=swoE.trans a b x t1 t2
   simpa [Go.Proofs.ltOf]using this
theorem cfE_irr(x:Ent):¬cfE x x<0:=by
 have:=swoE.irrefl x
 simpa [Go.Proofs.ltOf]using this
theorem Qoz{u:Int}{l:List Ent}(h:Qoj u (Qnr l)=0):l.Nodup:=by
 have hr:Qoe (Qnr l)=true:=by
  unfold Qoj at h
  split at h
  ·cases h
  split at h
  ·cases h
  split at h
  ·cases h
  ·rename_i h1;simpa using h1
 have hp:=Qoy hr
 have:(Qnr l).Nodup:=hp.imp (fun {x y} hxy e=>by subst e;exact cfE_irr x hxy)
 exact(Qob l).nodup_iff.1 this
theorem Qpa(b g:Nat)(B:Bd)(o:List Int)(w:World)(hI:IsB w b g B)(hbw:b≤w.heap.size)(h:Qou B=some o) :
  Calls Tryz.prog 28 #[.pointer (some ⟨g,0,none⟩)] w fun e w'=>∃v:Value,e=.returned (.tuple #[v,.int .i64 0])∧R8 w' w.heap.size v o∧Below w.heap.size w w':=by
 unfold Qou at h
 obtain⟨sz,hsz,h⟩:=Option.bind_eq_some_iff.mp h
 split at h
 ·rename_i hc
  obtain⟨h1,h2,h3,h4,h5,h6⟩:=hc
  cases h
  obtain⟨z,rfl⟩:=Int.eq_ofNat_of_zero_le (show 0≤sz by omega)
  rw[Int.toNat_natCast]
  exact bd_Seal b g B.1 B.2.1 B.2.2 z w hI hbw (fun e=>h1 (by rw[e];rfl)) (Qoz h4) h2 h3 h4 hsz (by unfold Qot at h5;omega) (by omega)
 ·cases h
theorem Qpb(b g:Nat)(B:Bd)(o:List Int)(w:World)(hI:IsB w b g B)(hbw:b≤w.heap.size)(h:Qov B=some o) :
  Calls Tryz.prog 30 #[.pointer (some ⟨g,0,none⟩)] w fun e w'=>∃v:Value,e=.returned v∧R8 w' w.heap.size v o∧Below w.heap.size w w':=by
 unfold Qov at h
 obtain⟨sz,hsz,h⟩:=Option.bind_eq_some_iff.mp h
 split at h
 ·rename_i hc
  cases h
  obtain⟨z,rfl⟩:=Int.eq_ofNat_of_zero_le (show 0≤sz by omega)
  rw[Int.toNat_natCast]
  exact Qmb b g B.1 B.2.1 B.2.2 z w hI hsz (by omega) (by omega)
 ·cases h
end Go.Proofs.YtnnofopfbeklbaaGreat.C
end
