/- Merged texts. -/
import Derived.Test.YtnnofopfbeklbaaGreatMJ01
import Derived.Test.YtnnofopfbeklbaaGreatMJ02
import Derived.Test.YtnnofopfbeklbaaGreatMJ03
import Derived.Test.YtnnofopfbeklbaaGreatMJ06
import Derived.Test.YtnnofopfbeklbaaGreatMJ05
import Derived.Test.YtnnofopfbeklbaaGreatMJ10
import Derived.Test.YtnnofopfbeklbaaGreatMJ11
import Derived.Test.YtnnofopfbeklbaaGreatMJ07
import Derived.Test.YtnnofopfbeklbaaGreatMJ09
set_option linter.unusedVariables false
set_option linter.unusedSimpArgs false
set_option maxHeartbeats 8000000
set_option maxRecDepth 100000
section
namespace Go.Proofs.YtnnofopfbeklbaaGreat.C
open Go.RowKit Go.Proofs.YtnnofopfbeklbaaGreatW.PrintWords Go.Proofs.YtnnofopfbeklbaaGreatW.PrintLast Go.Proofs.YtnnofopfbeklbaaGreatW.PrintMore
def ltE(x y:Ent):Bool:=decide (cfE x y<0)
def Qtm:List Ent→Bool
 | []=>true
 | [_]=>true
 | a :: b :: t=>ltE a b && Qtm (b :: t)
theorem rdE(l:List Ent)(i:Nat)(h:i<l.length):Qkn l (i:Int)=l[i]:=by simp[Qkn,List.getElem?_eq_getElem h]
theorem Qtn(x y:Ent)(k:Nat)(hk:4≤k):Qdh.f k x.f0 x.f1 y.f0 y.f1=some (cfE x y):=by
 unfold Qdh.f;rw[Qrn,Option.bind_some,Qro,Option.bind_some,Qeh (g:=fun k=>Qah.f k [ci x.f0 y.f0,ci x.f1 y.f1]) (Qah.mono _) hk (or_is _ _),Option.bind_some,Qrp]
theorem Qto{l:List Ent}{i:Nat}(h:i+1<l.length):Qtm (l.drop i)=(ltE l[i] l[i+1] && Qtm (l.drop (i+1))):=by
 rw[List.drop_eq_getElem_cons (by omega),List.drop_eq_getElem_cons h];rfl
theorem Qtp(l:List Ent)(hl:l.length≤1099511627776):∀(d i k:Nat),i+d=l.length→1≤i→d+6≤k→Qdi.l0 k l (i:Int)=some (Qtm (l.drop (i-1)))
 | 0,i,k,h,hi,hk=>by
  obtain⟨k,rfl⟩:∃m,k=m+1:=⟨k-1,by omega⟩;unfold Qdi.l0;rw[if_neg (by omega)];have h1:(l.drop (i-1)).length≤1:=by rw[List.length_drop];omega
  match hd:l.drop (i-1),h1 with
  | [],_=>rfl
  | [_],_=>rfl
 | d+1,i,k,h,hi,hk=>by
  obtain⟨k,rfl⟩:∃m,k=m+1:=⟨k-1,by omega⟩;obtain⟨j,rfl⟩:∃j,i=j+1:=⟨i-1,by omega⟩;have w1:wrap64 (((j+1:Nat):Int)-1)=(j:Int):=by unfold wrap64;omega
  have w2:wrap64 (((j+1:Nat):Int)+1)=((j+2:Nat):Int):=by unfold wrap64;omega
  unfold Qdi.l0;rw[w1,w2,rdE l (j+1) (by omega),rdE l j (by omega)];rw[if_pos (by omega)];clear w1 w2;have hc:=Qtn l[j] l[j+1] k (by omega);have ih:=Qtp l hl d (j+2) k (by omega) (by omega) (by omega);rw[show j+2-1=j+1 by omega]at ih;rw[show j+1-1=j by omega,Qto (by omega)];simp only[if_pos (show(0:Int)≤(j:Int)by omega),if_pos (show(j:Int)<(l.length:Int)by omega),if_pos (show(0:Int)≤((j+1:Nat):Int)by omega),if_pos (show((j+1:Nat):Int)<(l.length:Int)by omega),hc,Option.bind_some,ih];unfold ltE
  by_cases h0:cfE l[j] l[j+1]<0
  ·simp[h0,show ¬(0≤cfE l[j] l[j+1])by omega]
  ·simp[h0,show(0≤cfE l[j] l[j+1])by omega]
theorem Qtq(l:List Ent)(hl:l.length≤1099511627776):Qdi.f (l.length+8) l=some (Qtm l):=by
 unfold Qdi.f
 rcases Nat.eq_zero_or_pos l.length with h0|h0
 ·have h1:l=[]:=List.eq_nil_of_length_eq_zero h0;subst h1;rfl
 ·exact Qtp l hl (l.length-1) 1 (l.length+8) (by omega) (by omega) (by omega)
def Qtr(used:Int)(l:List Ent):Int:=if l.length=0 then 4 else if 1048576<l.length then 3 else if Qtm l=false then 8 else if l.any (fun x=>decide (used≤x.f1))=true then 4 else 0
theorem Qts(used:Int)(tv:Value)(B:Nat)(w:World)(hv:w.heap[B]? = some (.cells #[.int .u32 used,tv] 127 (0,0))) :
  PredBelow Tryz.prog 159 #[.pointer (some ⟨B,0,none⟩)] (fun x=>.agg (encE x).toArray) (fun x=>decide (used≤x.f1)) w:=fun W x hb=>by
 have hB:=Qen hv;have hc:W.cell? ⟨B,0,none⟩=some (.int .u32 used):=(Qeo (Qfd hv hb) 0).trans rfl;have hne:B≠W.heap.size:=by have:=hb.size;omega
 have hu:=Tryz.underlying117;have hu2:=Tryz.underlying127;have hBW:B<W.heap.size:=Nat.lt_of_lt_of_le hB hb.size;show Calls Tryz.prog 159 #[.agg #[.int .u64 x.f0,.int .u32 x.f1],.pointer (some ⟨B,0,none⟩)] W _;have b1:=Qfe W (.cells #[.int .u64 x.f0,.int .u32 x.f1] 117);have hb1:Below W.heap.size W (W.alloc (.cells #[.int .u64 x.f0,.int .u32 x.f1] 117)):=Qdq (Below.refl _ _) _;have hca:(W.alloc (.cells #[.int .u64 x.f0,.int .u32 x.f1] 117)).cell? ⟨B,0,none⟩=some (.int .u32 used):=(Qeo (Qfa (Qfd hv hb) _) 0).trans rfl;have hcb:(W.alloc (.cells #[.int .u64 x.f0,.int .u32 x.f1] 117)).cell? ⟨W.heap.size,1,none⟩=some (.int .u32 x.f1):=(Qeo b1 1).trans rfl
 go_enter Tryz.func159,Tryz.ntmps159
 go_wp2;go_ret
 exact⟨rfl,hb.alloc hb.size _⟩
theorem Qtt(b:Nat)(used:Int)(A:Option Addr)(n c:Nat)(l:List Ent)(w:World)(hn:n=l.length)(hR:RE w b (.slice A n c) l)(hl:l.length≤1099511627776) :
  Calls Tryz.prog 111 #[.agg #[.int .u32 used,.slice A n c]] w fun e w'=>e=.returned (.int .i64 (Qtr used l))∧Below w.heap.size w w':=by
 have hu:=Tryz.underlying127;have hmf:∀(fn:Fn) (first cap:Array Value) (w:World),(Instr.makeFunc fn first cap).run Tryz.prog w=.ok (.func fn first cap) w:=fun _ _ _ _=>rfl
 have hb1:Below w.heap.size w (w.alloc (.cells #[.int .u32 used,.slice A n c] 127)):=Qdq (Below.refl _ _) _;have bk:=Qfe w (.cells #[.int .u32 used,.slice A n c] 127);have hc0:(w.alloc (.cells #[.int .u32 used,.slice A n c] 127)).cell? ⟨w.heap.size,0,none⟩=some (.int .u32 used):=(Qeo bk 0).trans rfl;have hc1:(w.alloc (.cells #[.int .u32 used,.slice A n c] 127)).cell? ⟨w.heap.size,1,none⟩=some (.slice A n c):=(Qeo bk 1).trans rfl;have HR:=QA hR;have HN:=QA hn;have hk:Calls Tryz.prog 111 #[.agg #[.int .u32 used,.slice A n c]] w fun e w'=>e=.returned (.int .i64 (if n=0 then 4 else if 1048576<n then 3 else if Qtm l=false then 8 else if l.any (fun x=>decide (used≤x.f1))=true then 4 else 0))∧Below w.heap.size w w':=by
  by_cases h0:n=0
  ·rw[if_pos h0];have e0:((n:Int) == 0)=true:=beq_iff_eq.2 (by omega);have E0:=QA h0;clear h0 hn hR hl
   go_enter Tryz.func111,Tryz.ntmps111
   go_wp2;go_ret
   exact⟨rfl,hb1⟩
  rw[if_neg h0];have e0:((n:Int) == 0)=false:=beq_eq_false_iff_ne.2 (by omega)
  by_cases h1:1048576<n
  ·rw[if_pos h1];have e1:decide ((1048576:Int)<(n:Int))=true:=decide_eq_true (by omega);clear hn hR hl h0
   go_enter Tryz.func111,Tryz.ntmps111
   go_wp2;go_ret
   exact⟨rfl,hb1⟩
  rw[if_neg h1];have e1:decide ((1048576:Int)<(n:Int))=false:=decide_eq_false (by omega);have hris:=Qtq l hl;have HRI:=QA hris;have hC:Kd.C k117 (w.alloc (.cells #[.int .u32 used,.slice A n c] 127)) A n l:=by
   have h:=Kd.R_reads' hR;rw[hn];exact Kd.C_alloc h.2.2 _
  have hcap:n≤c:=(Kd.R_reads' hR).2.1;have hpos:0<l.length:=by omega
  obtain⟨g,cap,hf,hbg,hgl,cells,hgc⟩:=Kd.R_form hR hpos
  injection hf with hf1 hf2 hf3
  subst hf1;obtain⟨r,hr⟩:∃r,r=Qtm l:=⟨_,rfl⟩;rw[← hr]at HRI ⊢;clear hr;have hcall:∀W,Kd.C k117 W (some ⟨g,0,none⟩) n l→Calls Tryz.prog 160 #[.slice (some ⟨g,0,none⟩) n c] W fun e w'=>e=.returned (.bool r)∧Below W.heap.size W w':=by
   intro W hCW;have hcw2:=hCW;rw[hn]at hCW ⊢;exact Qdi.calls _ _ c l r W hCW (by omega) HRI.out
  have HCL:=QA hcall;have HC:=QA hC;clear hris hcall hC hn hgc hf2 hf3
  cases r with
  | false =>
   rw[if_pos rfl];clear hR hl h0 h1
   go_enter Tryz.func111,Tryz.ntmps111
   go_wp2_with (go_at_call 160;refine(HCL.out _ HC.out).mono ?_;rintro e w1 ⟨rfl,hb2⟩)
   go_ret
   exact⟨rfl,Qdt hb1 hb1.size hb2⟩
  | true =>
   rw[if_neg (by decide)];obtain⟨q,hq⟩:∃q,q=l.any (fun x=>decide (used≤x.f1)):=⟨_,rfl⟩;rw[← hq];have eg:∀args w,(callFunc 159 args).run Tryz.prog w=.ok (.enter 159 args) w:=enters_of Tryz.func159 qq_7 rfl;have hany:∀W1:World,Below (w.alloc (.cells #[.int .u32 used,.slice (some ⟨g,0,none⟩) n c] 127)).heap.size (w.alloc (.cells #[.int .u32 used,.slice (some ⟨g,0,none⟩) n c] 127)) W1 →
     Calls Tryz.prog 161 #[.slice (some ⟨g,0,none⟩) n c,.func (.func 159) #[] #[.pointer (some ⟨w.heap.size,0,none⟩)]] W1 fun e w'=>e=.returned (.bool q)∧Below W1.heap.size W1 w':=by
    intro W1 hW1;have hRW:=Kd.R_below (Kd.R_below HR.out hb1) hW1;have hown:=RE.own hRW;have hH:=Qte (b:=b) (g:=g) (cap:=c) (l:=l) (by rw[← HN.out];rw[← HN.out]at hown;exact hown);have hcon:=AnyQ.slices_ContainsFunc Tryz.hasEnt 2 Tryz.isAgg117 Tryz.sizeOf117 encE (fun _=>rfl) (fun x=>decide (used≤x.f1)) 159 #[.pointer (some ⟨w.heap.size,0,none⟩)] eg g 0 n c l W1
     (Qts used _ w.heap.size W1 (Qfd bk hW1)) qq_20 qq_20 (by have:=hW1.size;rw[World.size_alloc]at this;omega) (fun j hj i v hv=>by
      have h2:=Qsx l j;have hjl:l[j]? = some l[j]!:=by rw[List.getElem?_eq_getElem hj,getElem!_pos l j hj]
      rw[hjl]at h2;generalize l[j]! = x at *;have key:(Qsu l)[2*j+i]? = some v:=by
       match i,hv with
       | 0,hv=>simp[encE]at hv;rw[← hv];exact h2.1
       | 1,hv=>simp[encE]at hv;rw[← hv];exact h2.2
       | i+2,hv=>simp[encE]at hv
      have hlt:j*2+i<l.length*2:=by
       have:=(List.getElem?_eq_some_iff.1 key).1;rw[Qsv]at this;omega
      rcases hown.2 with⟨hn',_⟩ |⟨g',cap',cur,he,hb',hh,hh1,hh2,hh3,hh4⟩
      ·cases hn'
      cases he
      have h5:(cur.toList.take (l.length*2))[j*2+i]? = (Qsu l)[j*2+i]?:=by rw[hh4]
      rw[List.getElem?_take_of_lt hlt]at h5;simp only[World.cell?,hh,Nat.zero_add];simp only[Option.isSome_none,Bool.false_eq_true,if_false];rw[← Array.getElem?_toList,h5,show j*2+i=2*j+i by omega,key])
    rw[List.take_of_length_le qq_20,← hq]at hcon;exact hcon
   have HA:=QA hany;clear hany hR hl h0 h1 hq eg
   cases q with
   | true =>
    rw[if_pos rfl]
    go_enter Tryz.func111,Tryz.ntmps111
    go_wp2_with (first
     |(go_at_call 160;refine(HCL.out _ HC.out).mono ?_;rintro e w1 ⟨rfl,hb2⟩;have hk2:=Qfd bk hb2;have hd1:w1.cell? ⟨w.heap.size,1,none⟩=some (.slice (some ⟨g,0,none⟩) n c):=(Qeo hk2 1).trans rfl)
     |(go_at_call 161;refine(HA.out _ hb2).mono ?_;rintro e w2 ⟨rfl,hb3⟩))
    go_ret
    exact⟨rfl,Qdt (Qdt hb1 hb1.size hb2) (Nat.le_trans hb1.size hb2.size) hb3⟩
   | false =>
    rw[if_neg (by decide)]
    go_enter Tryz.func111,Tryz.ntmps111
    go_wp2_with (first
     |(go_at_call 160;refine(HCL.out _ HC.out).mono ?_;rintro e w1 ⟨rfl,hb2⟩;have hk2:=Qfd bk hb2;have hd1:w1.cell? ⟨w.heap.size,1,none⟩=some (.slice (some ⟨g,0,none⟩) n c):=(Qeo hk2 1).trans rfl)
     |(go_at_call 161;refine(HA.out _ hb2).mono ?_;rintro e w2 ⟨rfl,hb3⟩))
    go_ret
    exact⟨rfl,Qdt (Qdt hb1 hb1.size hb2) (Nat.le_trans hb1.size hb2.size) hb3⟩
 refine hk.mono fun e w' ⟨he,hb⟩=>⟨?_,hb⟩
 rw[he];unfold Qtr;rw[HN.out]
def Qtu(used:Int)(l:List Ent):List Int:=Qqu ([4]++leb l.length 4++leb used 4++l.flatMap ent++(Qrx l).flatMap (fun x=>leb x 8))
theorem RU.tk{W W':World}{b g:Nat}{v:Value}{xs:List Int}{ys:List Int}{b':Nat}(h:RU W b v xs)(hI:IsBuf W b' g ys)(hT:Tk g W W'):RU W' b v xs:=by
 obtain⟨u,hu,_⟩:=hI;refine Kd.R_mono (Kd.R_step (Kd.R_bound h) (fun k hk _=>?_)) (fun _ _=>trivial);obtain⟨q,hq,cells,hc⟩:=hk.2.2.2;have hq':q=34:=by simpa [Kd.int,Kd.scalar]using hq
 subst hq';rw[hc];exact hT k cells _ hc (by decide) (Qer hc hu (by decide))
theorem Qtv{W:World}{B:Nat}{u:Int}{v:Value}(h:W.heap[B]? = some (.cells #[.int .u32 u,v] 127 (0,0))):W.cell? ⟨B,0,none⟩=some (.int .u32 u)∧W.cell? ⟨B,1,none⟩=some v :=
 ⟨(Qeo h 0).trans rfl,(Qeo h 1).trans rfl⟩
theorem Qtw{l:List Ent}(hwf:∀x∈l,(0≤x.f0∧x.f0<18446744073709551616)∧0≤x.f1∧x.f1<4294967296):∀x∈Qrx l,0≤x∧x<18446744073709551616:=by
 intro x hx;unfold Qrx at hx;obtain⟨k,hk,rfl⟩:=List.mem_map.1 hx;have hk':=List.mem_range.1 hk;have hkl:k*16<l.length:=by unfold chN at hk';omega
 unfold Qrw;rw[rdE l (k*16) hkl];exact(hwf _ (List.getElem_mem hkl)).1
theorem Qtx(l:List Ent):(Qrx l).length=chN l.length:=by simp[Qrx]
theorem Qty(x y:Int)(l:List Ent):([]++[4]++leb x 4++leb y 4++l.flatMap ent).length=9+12*l.length:=by
 rw[List.length_append,List.length_append,List.length_append,List.length_append,Qlb,Qlb,Qmr];rfl
theorem Qtz(x y:Int)(l:List Ent):([]++[4]++leb x 4++leb y 4++l.flatMap ent++(Qrx l).flatMap (fun x=>leb x 8)).length=9+12*l.length+8*(Qrx l).length:=by
 rw[List.length_append,Qty,Qmo]
theorem Qua(b:Nat)(used:Int)(A:Option Addr)(n c:Nat)(l:List Ent)(w:World)(hn:n=l.length)(hR:RE w b (.slice A n c) l)(hchk:Qtr used l=0)(hu0:0≤used)(hu1:used<4294967296)
  (hwf:∀x∈l,(0≤x.f0∧x.f0<18446744073709551616)∧0≤x.f1∧x.f1<4294967296) :
  Calls Tryz.prog 67 #[.agg #[.int .u32 used,.slice A n c]] w fun e w'=>∃v,e=.returned (.tuple #[v,.int .i64 0])∧R8 w' w.heap.size v (Qtu used l)∧Below w.heap.size w w':=by
 have hu:=Tryz.underlying127;have p:n≠0:=by intro h;unfold Qtr at hchk;rw[if_pos (by omega)]at hchk;cases hchk
 have q:n≤1048576:=by
  apply Decidable.byContradiction;intro h;unfold Qtr at hchk;rw[if_neg (by omega),if_pos (by omega)]at hchk
  cases hchk
 have hpos:0<l.length:=by omega
 obtain⟨g,cap,hf,hbg,hgl,cells,hgc⟩:=Kd.R_form hR hpos
 injection hf with hf1 hf2 hf3
 subst hf1;have hcap:n≤c:=(Kd.R_reads' hR).2.1;have hC:Kd.C k117 w (some ⟨g,0,none⟩) n l:=by
  have h:=Kd.R_reads' hR;rw[hn];exact h.2.2
 have HN:=QA hn;have HR:=QA hR;have HCK:=QA (Qtt b used (some ⟨g,0,none⟩) n c l w hn hR (by omega));have hck:Aside0 (Qtr used l=0):=⟨hchk⟩;have HC:=QA hC;have HWF:=QA hwf;have hbn:=Qfe w (.cells #[.int .u32 used,.slice (some ⟨g,0,none⟩) n c] 127);have hba:Below w.heap.size w (w.alloc (.cells #[.int .u32 used,.slice (some ⟨g,0,none⟩) n c] 127)):=Qdq (Below.refl _ _) _;have HRa:=QA (Kd.R_alloc hR (.cells #[.int .u32 used,.slice (some ⟨g,0,none⟩) n c] 127));have hmod:(n:Int)%4294967296=(n:Int):=by omega
 have HM:=QA hmod;obtain⟨c0,c1⟩:=Qtv hbn;clear hn hR hchk hC hwf hgc hf2 hf3 hmod hpos
 go_enter Tryz.func67,Tryz.ntmps67
 go_wp2_with (first
  |(go_at_call 111;refine(Qtt b used (some ⟨g,0,none⟩) n c l _ HN.out HRa.out qq_20).mono ?_;rw[hck.out];rintro ee w1 ⟨rfl,hb1⟩;have hk1:=Qfd hbn hb1;have hw1:=QA (Qdt hba hba.size hb1);have hs1':=QA (show w.heap.size<w1.heap.size from Qen hk1);have HI1:=QA (IsBuf.new w1 w.heap.size);have hk1':=Qfa hk1 (.cells #[.slice none 0 0] 167);clear hk1 hb1 hbn hba c0 c1;obtain⟨c0,c1⟩:=Qtv hk1'))
 obtain⟨W,hW⟩:∃W,W=w1.alloc (.cells #[.slice none 0 0] 167):=⟨_,rfl⟩;have hbW:Below w1.heap.size w1 W:=by rw[hW];exact Qdq (Below.refl _ _) _
 rw[← hW]at hk1' c0 c1 HI1 ⊢;clear hW;have hkd:=Qfd hk1' (Qdr (Below.refl W.heap.size W));have hId:=HI1.out.kept (Qdr (Below.refl W.heap.size W));obtain⟨j0,j1⟩:=Qtv hkd;have hg:=Nat.le_of_lt hs1'.out;have hzd:w.heap.size≤W.drew.heap.size:=Nat.le_trans hg hbW.size;have hne:=Nat.ne_of_lt hs1'.out;have hnn0:(0:Int)≤(n:Int):=by omega
 have hnn1:(n:Int)≤1048576:=by omega
 have j:(0:Int)≤(n:Int)%4294967296:=by omega
 have k:(n:Int)%4294967296<4294967296:=by omega
 go_region_held3 (fun w'=>w'.cell? ⟨w.heap.size,0,none⟩=some (.int .u32 used)∧w'.cell? ⟨w.heap.size,1,none⟩=some (.slice (some ⟨g,0,none⟩) n c)) (first|exact⟨j0,j1⟩|exact⟨i0,i1⟩|exact⟨i2,i3⟩|exact⟨i4,i5⟩) (first
  |(go_at_call 94;refine(Qlh w.heap.size w1.heap.size 4 [] W.drew (by decide) (by decide) hg hzd hId (by simp)).mono ?_;rintro ee w2 ⟨rfl,hI2,hb2⟩;have hk2:=hb2.2 _ _ _ hkd (by decide) hne;obtain⟨i0,i1⟩:=Qtv hk2)
  |(go_at_call_of 112 (Value.int .u32 used);refine(Qlj w.heap.size w1.heap.size used _ w3 hu0 hu1 hg (Nat.le_trans (Nat.le_trans hzd hb2.size) hb3.size) hI3 (by simp[Qlb])).mono ?_;rintro ee w4 ⟨rfl,hI4,hb4⟩;have hk4:=hb4.2 _ _ _ hk3 (by decide) hne;obtain⟨i4,i5⟩:=Qtv hk4)
  |(go_at_call 112;refine(Qlj w.heap.size w1.heap.size ((n:Int)%4294967296) ([]++[4]) w2 j k hg (Nat.le_trans hzd hb2.size) hI2 (by simp)).mono ?_;rintro ee w3 ⟨rfl,hI3,hb3⟩;have hk3:=hb3.2 _ _ _ hk2 (by decide) hne;obtain⟨i2,i3⟩:=Qtv hk3))
 have hz4:w.heap.size≤w4.heap.size:=Nat.le_trans (Nat.le_trans (Nat.le_trans hzd hb2.size) hb3.size) hb4.size;have a:=QA (show Below w.heap.size w w4 from((((hw1.out.trans (Qld hbW hg)).trans (Qld (Qdr (Below.refl W.heap.size W)) (Nat.le_trans hg hbW.size))).trans hb2.1).trans hb3.1).trans hb4.1);clear i0 i1 i2 i3 j0 j1 c0 c1 hk2 hk3 hb2 hb3 hb4 hI2 hI3 hkd hId;have hlt:(Qrx l).length≤65536:=by rw[Qtx];unfold chN;have:=HN.out;omega
 have hCw:∀W',Below w.heap.size w W'→Kd.C k117 W' (some ⟨g,0,none⟩) l.length l:=by
  intro W' hb;have:=Kd.C_below HC.out hb;rw[HN.out]at this;exact this
 have HCW:=QA hCw;clear hCw;have htab:∀(xs:List Int) (W':World),xs.length≤100→Below w.heap.size w W'→IsBuf W' w.heap.size w1.heap.size xs→w.heap.size≤W'.heap.size →
   Calls Tryz.prog 113 #[.pointer (some ⟨w1.heap.size,0,none⟩),.slice (some ⟨g,0,none⟩) n c] W' fun e w'=>(∃v,e=.returned v)∧IsBuf w' w.heap.size w1.heap.size (xs++l.flatMap ent)∧Bw w.heap.size w1.heap.size W' w':=by
  intro xs W' hxs hb hI hz;rw[HN.out];exact Qms w.heap.size w1.heap.size (some ⟨g,0,none⟩) c l xs W' (fun W2 h2=>HCW.out W2 (hb.trans h2.1)) HWF.out hg hz hI qq_20
 have HT:=QA htab;clear htab
 go_wp2_with (first
  |(go_at_call 113;refine(HT.out _ w4 (by simp[Qlb]) a.out hI4 hz4).mono ?_;rintro ee w5 ⟨⟨_,rfl⟩,hI5,hb5⟩;have hk5:=hb5.2 _ _ _ hk4 (by decide) hne;clear i4 i5;obtain⟨i6,i7⟩:=Qtv hk5;have hz5:w.heap.size≤w5.heap.size:=Nat.le_trans hz4 hb5.size;have d:=QA (a.out.trans hb5.1))
  |(go_at_call 115;refine(Qsa ⟨g,0,none⟩ c n l w5 HN.out (by have:=HCW.out w5 d.out;rw[← HN.out]at this;exact this) hcap (by omega)).mono ?_;rintro ee w6 ⟨⟨v6,rfl,hR6⟩,hb6⟩;obtain⟨A6,c6,rfl⟩:=Kd.R_slice hR6;have hI6:=hI5.kept hb6;have m:=QA (Qdt d.out hz5 hb6);have hz6:w.heap.size≤w6.heap.size:=Nat.le_trans hz5 hb6.size)
  |(go_at_call 114;refine(Qmp w.heap.size w1.heap.size A6 c6 (Qrx l) _ w6 (fun W2 h2=>(Kd.R_reads' (RU.tk hR6 hI6 h2.2)).2.2) (Qtw HWF.out) hg hz6 hI6 (by rw[Qty];have:=HN.out;omega)).mono ?_;rintro ee w7 ⟨⟨_,rfl⟩,hI7,hb7⟩;have hz7:w.heap.size≤w7.heap.size:=Nat.le_trans hz6 hb7.size;have o:=QA (m.out.trans hb7.1))
  |(go_at_call 97;refine(Qlo w.heap.size w1.heap.size _ w7 hI7 (by rw[Qtz];have:=HN.out;omega)).mono ?_;rintro ee w8 ⟨v8,rfl,hR8,hb8⟩;obtain⟨A8,n8,c8,rfl,r,hlc8,hC8⟩:=R8.reads hR8)
  |(go_at_call 96;refine(Qra A8 n8 c8 _ w8 hC8 (by rw[Qtz];have:=HN.out;omega)).mono ?_;rintro ee w9 ⟨v9,rfl,hR9,hb9⟩))
 refine bodyPost_ret (results_tmp2 rfl _ _ _) rfl ?_;have hz8:w.heap.size≤w8.heap.size:=Nat.le_trans hz7 hb8.size;refine⟨v9,rfl,?_,(o.out.trans (Qld hb8 hz7)).trans (Qld hb9 hz8)⟩;have hL:=R8.low hR9 hz8;unfold Qtu;rw[HM.out,HN.out]at hL;exact hL
theorem bd_Seal(b g:Nat)(R:Room5)(fr:List Int)(tb:List S117)(sz:Nat)(w:World)(hI:IsBd w b g R fr tb)(hbw:b≤w.heap.size)(htb:tb≠[])(hnd:tb.Nodup)(htl:tb.length≤1099511627776)
  (hwf:∀x∈tb,(0≤x.f0∧x.f0<18446744073709551616)∧0≤x.f1∧x.f1<4294967296) (hchk:Qtr ((fr.length:Int)%4294967296) (Qsz tb)=0)
  (hsz:Qam.f R.1 R.2.1=some (sz:Int)) (hle:fr.length+(Qtu ((fr.length:Int)%4294967296) (Qsz tb)).length≤sz) (hs2:sz≤70368744177664) :
  Calls Tryz.prog 28 #[.pointer (some ⟨g,0,none⟩)] w fun e w'=>∃v:Value,e=.returned (.tuple #[v,.int .i64 0])∧R8 w' w.heap.size v (fr++Qtu ((fr.length:Int)%4294967296) (Qsz tb)++List.replicate (sz-(fr++Qtu ((fr.length:Int)%4294967296) (Qsz tb)).length) 255)∧Below w.heap.size w w':=by
 have hu:=Tryz.underlying127;have hu3:=Tryz.underlying108;obtain⟨F,hF⟩:∃F,F=Qtu ((fr.length:Int)%4294967296) (Qsz tb):=⟨_,rfl⟩;rw[← hF]at hle ⊢;have HF:=QA hF;have HI:=QA hI;obtain⟨fv,tv,hv,hR,hT⟩:=hI;obtain⟨AT,cT,rfl⟩:=Kd.R_slice hT;obtain⟨nT,hnT⟩:∃nT,nT=tb.length:=⟨_,rfl⟩;rw[← hnT]at hv hT;obtain⟨A,n,c,rfl,hn,hlc,hC⟩:=R8.reads hR;have hv':Qrk w g R (.slice A n c) (.slice AT nT cT):=hv;have hpos:0<nT:=by rw[hnT];exact List.length_pos_iff.2 htb
 have hb0:((nT:Int) == 0)=false:=beq_eq_false_iff_ne.2 (by omega);have hvd:Qrk w.drew g R (.slice A n c) (.slice AT nT cT):=hv';obtain⟨g0,g1,g2,g3,g4,g5,g6⟩:=Qrl hv';obtain⟨d0,d1,d2,d3,d4,d5,d6⟩:=Qrl hvd;have HNT:=QA hnT;have HT:=QA hT;have HV:=QA hvd;have HND:=QA hnd;have HWF:=QA hwf;have HCK:=QA hchk;have HSZ:=QA hsz;have j:(0:Int)≤(n:Int)%4294967296:=by omega
 have k:(n:Int)%4294967296<4294967296:=by omega
 have hTd:RE w.drew b (.slice AT nT cT) tb:=Kd.R_drew hT;have HTD:=QA hTd;clear hF hR hT hv hC hv' hvd hnT hnd hwf hchk hsz hTd htb
 go_enter Tryz.func28,Tryz.ntmps28
 go_wp2_with fail
 go_region_held3 (fun w'=>w'.cell? ⟨g,5,none⟩=some (.slice A n c)∧w'.cell? ⟨g,6,none⟩=some (.slice AT nT cT)) (first|exact⟨d5,d6⟩|exact⟨i5,i6⟩|exact⟨k5,k6⟩) (first
  |(go_at_call 68;refine(Qtl b _ tb w.drew HTD.out HND.out htl).mono ?_;rintro e w1 ⟨v1,rfl,hR1,hb1⟩;have hv1:Qrk w1 g R (.slice A n c) (.slice AT nT cT):=Qfd (w:=w.drew) HV.out hb1;obtain⟨i0,i1,i2,i3,i4,i5,i6⟩:=Qrl hv1;obtain⟨A1,c1,rfl⟩:=Kd.R_slice hR1)
  |(go_at_call 67;refine(Qua w.drew.heap.size ((n:Int)%4294967296) A1 _ c1 (Qsz tb) w1 rfl hR1 (by rw[hn.out];exact HCK.out) j k (fun x hx=>HWF.out x ((Qtj tb).mem_iff.1 hx))).mono ?_;rintro e w2 ⟨v2,rfl,hR2,hb2⟩;have hv2:Qrk w2 g R (.slice A n c) (.slice AT nT cT):=Qfd hv1 hb2;obtain⟨k0,k1,k2,k3,k4,k5,k6⟩:=Qrl hv2;obtain⟨A2,n2,c2,rfl,l,hl2,hC2⟩:=R8.reads hR2))
 have a:=QA (show Below w.heap.size w w2 from((Qdr (Below.refl _ _)).trans hb1).trans (Qld hb2 hb1.size));have HI2:=QA (HI.out.kept a.out);have hR2':R8 w2 w1.heap.size (.slice A2 n2 c2) F:=by rw[HF.out,← hn.out];exact hR2
 have hC2':Kd.C (Kd.int .u8) w2 A2 n2 F:=by
  have h:=Kd.R_reads' hR2';rw[h.1];exact h.2.2
 have d:n2=F.length:=(Kd.R_reads' hR2').1;have m:=QA hC2';have HN2:=QA d;have hz2:b≤w2.heap.size:=Nat.le_trans hbw a.out.size;clear hR1 hb1 hR2 hb2 hv1 hv2 l hC2 i0 i1 i2 i3 i4 i5 i6 d0 d1 d2 d3 d4 d5 d6 g0 g1 g2 g3 g4 g5 g6 hR2' hC2' d
 go_wp2_with (first
  |(go_at_call 29;refine(Qrh b g R fr tb w2 HI2.out (by omega)).mono ?_;rintro e w3 ⟨v3,rfl,hR3,hb3⟩;have o:=QA (Kd.C_below m.out hb3))
  |(at_builtin;go_loud (refine Kd.R_append_rows (Kd.int .u8) (Rr:=fun x cs=>cs=[.int .u8 x]) (w0:=w3) w2.heap.size rfl (.tmp 33) (.tmp 34) 52 5 (.int .u8 0) 1 rfl Tryz.underlying52 Qkb rfl (by decide) (by omega) v3 fr F A2 n2 c2 (fun _=>True) (fun _=>False) rfl rfl hR3 o.out (fun _ _ h=>h) (fun _ hk=>hk.elim) (fun _ _=>trivial) (Below.refl _ _) hb3.size ?bL ?_;(case bL=>have:=HN2.out;omega);intro v4 w4 hR4 hb4 p hat4))
  |(go_at_call 69;go_loud (refine(Qri b w2.heap.size g R fr tb (fr++F) v4 sz w4 (HI2.out.kept (hb3.trans hb4)) hR4 (Nat.le_trans hb3.size hb4.size) HSZ.out (by rw[List.length_append];exact hle) hs2).mono ?_;rintro e w5 ⟨v5,rfl,hR5,hb5⟩)))
 refine bodyPost_ret (results_tmp2 rfl _ _ _) rfl ?_;refine⟨v5,rfl,?_,?_⟩
 ·exact R8.low hR5 a.out.size
 ·exact a.out.trans (Qld ((hb3.trans hb4).trans hb5) a.out.size)
abbrev Rec:=S39
abbrev Bd:=Room5 × List Int × List Ent
def newB(e s n:Int):Option Bd :=
 (Qcy.f e s n).bind fun q=>(Qcp.f e s n).bind fun p =>
  if q.2.2.2.2.2=0∧p.2=0∧q.1=e∧q.2.1=s∧q.2.2.1=n then some ((e,s,n,q.2.2.2.1,q.2.2.2.2.1),p.1,[])else none
def addB (B:Bd) (r:Rec):Option Bd :=
 if chk r.f0 r.f2 r.f3=0 then
  (Qcq.f r.f0 r.f1 r.f2 r.f3).bind fun p=>(Qdd.f B.1.1 B.1.2.1 p.1.length).bind fun tl =>
   (Qdc.f B.1.1 B.1.2.1 B.1.2.2.1 B.1.2.2.2.1 B.1.2.2.2.2 p.1.length).bind fun q =>
    if p.2=0∧tl=false∧q.2.2.2.2.2=0∧B.2.1.length+p.1.length≤70368744177664∧B.2.2.length≤1099511627776 then
     some ((q.1,q.2.1,q.2.2.1,q.2.2.2.1,q.2.2.2.2.1),B.2.1++p.1,B.2.2++[⟨Qnk 0 (bytesOf r.f2),(B.2.1.length:Int)%4294967296⟩])
    else none
 else none
def wfE(x:Ent):Prop:=(0≤x.f0∧x.f0<18446744073709551616)∧0≤x.f1∧x.f1<4294967296
instance (x:Ent):Decidable (wfE x):=by unfold wfE;exact inferInstance
def Qub(B:Bd):Int:=(B.2.1.length:Int)%4294967296
def Quc(B:Bd):Option (List Int) :=
 (Qam.f B.1.1 B.1.2.1).bind fun sz =>
  if B.2.2.length≠0∧B.2.2.length≤1099511627776∧(∀x∈B.2.2,wfE x)∧Qtr (Qub B) (Qsz B.2.2)=0∧((B.2.1.length+(Qtu (Qub B) (Qsz B.2.2)).length:Nat):Int)≤sz∧sz≤70368744177664 then
   some (B.2.1++Qtu (Qub B) (Qsz B.2.2)++List.replicate (sz.toNat-(B.2.1++Qtu (Qub B) (Qsz B.2.2)).length) 255)
  else none
def Qud(B:Bd):Option (List Int) :=
 (Qam.f B.1.1 B.1.2.1).bind fun sz=>if(B.2.1.length:Int)≤sz∧sz≤70368744177664 then some (B.2.1++List.replicate (sz.toNat-B.2.1.length) 255)else none
abbrev IsB(W:World)(b g:Nat)(B:Bd):Prop:=IsBd W b g B.1 B.2.1 B.2.2
theorem Que(e s n:Int)(B:Bd)(w:World)(h:newB e s n=some B) :
  Calls Tryz.prog 18 #[.agg #[.int .u8 e,.int .u32 s],.int .u32 n] w fun ee w'=>∃g,ee=.returned (.tuple #[.pointer (some ⟨g,0,none⟩),.int .i64 0])∧IsB w' w.heap.size g B∧Below w.heap.size w w'∧w.heap.size≤g:=by
 unfold newB at h;obtain⟨q,hq,h⟩:=Option.bind_eq_some_iff.mp h;obtain⟨p,hp,h⟩:=Option.bind_eq_some_iff.mp h;obtain⟨q1,q2,q3,q4,q5,q6⟩:=q;obtain⟨p1,p2⟩:=p;split at h
 ·rename_i hc;obtain⟨h1,h2,h3,h4,h5⟩:=hc;dsimp only at h1 h2 h3 h4 h5;subst h1 h2 h3 h4 h5
  cases h
  exact Qrg q1 q2 q3 q4 q5 p1 w hq hp
 ·cases h
theorem add_ofT(b g:Nat)(B B':Bd)(r:Rec)(w:World)(hI:IsB w b g B)(hbg:b≤g)(hbw:b≤w.heap.size)(h:addB B r=some B') :
  Calls Tryz.prog 21 #[.pointer (some ⟨g,0,none⟩),.agg #[.bool r.f0,.int .u64 r.f1,.string r.f2,.string r.f3]] w fun e w'=>e=.returned (.tuple #[.int .u32 ((B.2.1.length:Int)%4294967296),.int .i64 0])∧IsB w' b g B'∧Below b w w'∧Tb g w w':=by
 unfold addB at h;split at h
 ·rename_i hchk;obtain⟨p,hp,h⟩:=Option.bind_eq_some_iff.mp h;obtain⟨tl,htl,h⟩:=Option.bind_eq_some_iff.mp h;obtain⟨q,hq,h⟩:=Option.bind_eq_some_iff.mp h;obtain⟨q1,q2,q3,q4,q5,q6⟩:=q;obtain⟨p1,p2⟩:=p;split at h
  ·rename_i hc;obtain⟨h1,h2,h3,h4,h5⟩:=hc;dsimp only at h1 h2 h3 h4 h5 hq htl;subst h1 h2 h3
   cases h
   have hk:=(Qqo hchk).1;exact bd_Add b g B.1 (q1,q2,q3,q4,q5) B.2.1 p1 B.2.2 r.f0 r.f1 r.f2 r.f3 w hI hbg hbw hchk hp htl hq h4 (by omega) h5
  ·cases h
 ·cases h
theorem Quf(b g:Nat)(B B':Bd)(r:Rec)(w:World)(hI:IsB w b g B)(hbg:b≤g)(hbw:b≤w.heap.size)(h:addB B r=some B') :
  Calls Tryz.prog 21 #[.pointer (some ⟨g,0,none⟩),.agg #[.bool r.f0,.int .u64 r.f1,.string r.f2,.string r.f3]] w fun e w'=>e=.returned (.tuple #[.int .u32 ((B.2.1.length:Int)%4294967296),.int .i64 0])∧IsB w' b g B'∧Below b w w' :=
 (add_ofT b g B B' r w hI hbg hbw h).mono fun _ _ ⟨h1,h2,h3,_⟩=>⟨h1,h2,h3⟩
theorem Qug:∀ {l:List Ent},Qtm l=true→l.Pairwise (fun x y=>cfE x y<0)
 | [],_=>List.Pairwise.nil
 | [a],_=>by simp
 | a :: b :: t,h=>by
  simp only[Qtm,Bool.and_eq_true]at h;have ih:=Qug h.2;refine List.Pairwise.cons (fun x hx=>?_) ih;have hab:cfE a b<0:=by simpa [ltE]using h.1
  rcases List.mem_cons.1 hx with rfl|hx
  ·exact hab
  ·have hbx:=List.rel_of_pairwise_cons ih hx;have t1:ltOf cfE a b=true:=by simpa [Go.Proofs.ltOf]using hab
   have t2:ltOf cfE b x=true:=by simpa [Go.Proofs.ltOf]using hbx
   have:=swoE.trans a b x t1 t2
   simpa [Go.Proofs.ltOf]using this
theorem cfE_irr(x:Ent):¬cfE x x<0:=by
 have:=swoE.irrefl x
 simpa [Go.Proofs.ltOf]using this
theorem Quh{u:Int}{l:List Ent}(h:Qtr u (Qsz l)=0):l.Nodup:=by
 have hr:Qtm (Qsz l)=true:=by
  unfold Qtr at h;split at h
  ·cases h
  split at h
  ·cases h
  split at h
  ·cases h
  ·rename_i h1;simpa using h1
 have hp:=Qug hr;have:(Qsz l).Nodup:=hp.imp (fun {x y} hxy e=>by subst e;exact cfE_irr x hxy);exact(Qtj l).nodup_iff.1 this
theorem Qui(b g:Nat)(B:Bd)(o:List Int)(w:World)(hI:IsB w b g B)(hbw:b≤w.heap.size)(h:Quc B=some o) :
  Calls Tryz.prog 28 #[.pointer (some ⟨g,0,none⟩)] w fun e w'=>∃v:Value,e=.returned (.tuple #[v,.int .i64 0])∧R8 w' w.heap.size v o∧Below w.heap.size w w':=by
 unfold Quc at h;obtain⟨sz,hsz,h⟩:=Option.bind_eq_some_iff.mp h;split at h
 ·rename_i hc;obtain⟨h1,h2,h3,h4,h5,h6⟩:=hc
  cases h
  obtain⟨z,rfl⟩:=Int.eq_ofNat_of_zero_le (show 0≤sz by omega);rw[Int.toNat_natCast];exact bd_Seal b g B.1 B.2.1 B.2.2 z w hI hbw (fun e=>h1 (by rw[e];rfl)) (Quh h4) h2 h3 h4 hsz (by unfold Qub at h5;omega) (by omega)
 ·cases h
theorem Quj(b g:Nat)(B:Bd)(o:List Int)(w:World)(hI:IsB w b g B)(hbw:b≤w.heap.size)(h:Qud B=some o) :
  Calls Tryz.prog 30 #[.pointer (some ⟨g,0,none⟩)] w fun e w'=>∃v:Value,e=.returned v∧R8 w' w.heap.size v o∧Below w.heap.size w w':=by
 unfold Qud at h;obtain⟨sz,hsz,h⟩:=Option.bind_eq_some_iff.mp h;split at h
 ·rename_i hc
  cases h
  obtain⟨z,rfl⟩:=Int.eq_ofNat_of_zero_le (show 0≤sz by omega);rw[Int.toNat_natCast];exact Qrj b g B.1 B.2.1 B.2.2 z w hI hsz (by omega) (by omega)
 ·cases h
def lim:Nat:=70368744177664
def encG (e s:Int) (into:List Int):Nat→List Rec→List Int→Option Bd→Option (List Int)
 | _,[],out,none=>some out
 | _,[],out,some B=>(Qud B).bind fun o=>if out.length+o.length≤lim then some (out++o)else none
 | i,r :: rs,out,ob =>
  if i<into.length then
   match ob with
   | none=>if i=0 then(newB e s (rd into (i:Int))).bind fun B=>(addB B r).bind fun B'=>encG e s into (i+1) rs out (some B')else none
   | some B =>
    if i=0 then none
    else if rd into (i:Int)=rd into ((i:Int)-1)then(addB B r).bind fun B'=>encG e s into (i+1) rs out (some B')
    else(Quc B).bind fun o=>if out.length+o.length≤lim then(newB e s (rd into (i:Int))).bind fun B1=>(addB B1 r).bind fun B'=>encG e s into (i+1) rs (out++o) (some B')else none
  else none
def Qcu.f(k:Nat)(a0_0 a0_1:Int)(l1:List Rec):Option (List Int × Int) :=
 (Qcv.f k a0_0 a0_1 l1).bind fun p=>if p.2.2=0 then(if l1.length≤1099511627776 then(encG a0_0 a0_1 p.1 0 l1 [] none).bind fun o=>some (o,0)else none)else some ([],p.2.2)
def OpenAt(W:World)(b:Nat)(vo pb:Value)(ob:Option Bd)(i:Nat):Prop :=
 match ob with
 | none=>pb=.pointer none∧i=0
 | some B=>∃g b2,pb=.pointer (some ⟨g,0,none⟩)∧b≤b2∧b2≤g∧b2≤W.heap.size∧(∀k,vo.ownBlock=some k→k<b2)∧IsB W b2 g B∧i≠0
theorem Quk{W W':World}{b b2:Nat}{v:Value}{xs:List Int}(h:R8 W b v xs)(hb:Below b2 W W')(hlt:∀k,v.ownBlock=some k→k<b2):R8 W' b v xs:=by
 refine Kd.R_mono (Kd.R_step (ok:=fun k=>v.ownBlock=some k) ?_ (fun k hk _=>hb.block k (hlt k hk))) (fun _ _=>trivial);exact Kd.R_mono (Kd.R_tight rfl h) (fun k hk=>hk.symm)
theorem Qul{l:List Rec}{i:Nat}(h:i<l.length):l.drop i=Qki l (i:Int) :: l.drop (i+1):=by
 rw[List.drop_eq_getElem_cons h];simp[Qki,List.getElem?_eq_getElem h]
theorem enc_of(k:Nat)(e s:Int)(A1:Option Addr)(c1 n1:Nat)(l1:List Rec)(into sizes o:List Int)(w:World)(p:n1=l1.length)(hr1:Kd.C k39 w A1 n1 l1)(hc1:n1≤c1)(hl1:l1.length≤1099511627776)
  (hp:Qcv.f k e s l1=some (into,sizes,0)) (h:encG e s into 0 l1 [] none=some o) :
  Calls Tryz.prog 33 #[.agg #[.int .u8 e,.int .u32 s],.slice A1 n1 c1] w fun ee w'=>∃v,ee=.returned (.tuple #[v,.int .i64 0])∧R8 w' w.heap.size v o∧Below w.heap.size w w':=by
 have hu:=Tryz.underlying27;have hu2:=Tryz.underlying39;have HN:=QA p;have HC:=QA hr1;have HP:=QA hp;have HE:=QA h;have hl1':n1≤1099511627776:=by omega
 clear p hr1 hp h hl1;have hba:Below w.heap.size w (w.alloc (.cells #[.int .u8 e,.int .u32 s] 27)):=Qdq (Below.refl _ _) _;have hbn:=Qfe w (.cells #[.int .u8 e,.int .u32 s] 27);have HCa:=QA (Kd.C_alloc HC.out (.cells #[.int .u8 e,.int .u32 s] 27));have hplan:Calls Tryz.prog 73 #[.agg #[.int .u8 e,.int .u32 s],.slice A1 n1 c1] (w.alloc (.cells #[.int .u8 e,.int .u32 s] 27)) fun ee w'=>∃q t:Value,ee=.returned (.tuple #[q,t,.int .i64 0])∧Kd.R (Kd.int .u32) 22 w' (w.alloc (.cells #[.int .u8 e,.int .u32 s] 27)).heap.size (fun _=>True) q into∧Kd.R (Kd.int .i64) 3 w' (w.alloc (.cells #[.int .u8 e,.int .u32 s] 27)).heap.size (fun _=>True) t sizes∧Below (w.alloc (.cells #[.int .u8 e,.int .u32 s] 27)).heap.size (w.alloc (.cells #[.int .u8 e,.int .u32 s] 27)) w':=by
  have hC:=HCa.out;rw[HN.out]at hC ⊢;exact Qcv.calls k e s A1 c1 l1 into sizes 0 _ hC qq_20 HP.out
 have HPL:=QA hplan;clear hplan;obtain⟨c0,D⟩:=box2 hbn
 go_enter Tryz.func33,Tryz.ntmps33
 go_wp2_with (go_at_call 73;refine HPL.out.mono ?_;rintro ee w2 ⟨vi,vz,rfl,hRi,hRz,hb2⟩;obtain⟨Ai,ci,rfl⟩:=Kd.R_slice hRi)
 have hk2:=Qfd hbn hb2;have HBW:=QA (Qdt hba hba.size hb2);have hlt2:w.heap.size<w2.heap.size:=Qen hk2;obtain⟨b,hbdef⟩:∃b,b=w2.heap.size:=⟨_,rfl⟩;have hCi:Kd.C (Kd.int .u32) w2 Ai into.length into:=(Kd.R_reads' hRi).2.2;have hcell:∀ {W:World} {a:Addr} {v:Value},Below b w2 W→w2.cell? a=some v→W.cell? a=some v:=fun {W a v} hb h=>(hb.cell (by rw[hbdef];exact World.block_lt_of_cell? w2 _ h)).trans h
 have HCI:=QA hCi;have HK2:=QA hk2;have HBD:=QA hbdef;have hC2:Kd.C k39 w2 A1 n1 l1:=Kd.C_below HCa.out hb2;have E:=QA hC2;obtain⟨ni,hni⟩:∃ni,ni=into.length:=⟨_,rfl⟩;rw[← hni];have HNI:=QA hni;clear hbn hb2 hk2 hRi hRz hCi c0 D hba hbdef hC2 hni
 go_loopw [9,10,27] (fun v9 G I wr=>∃(vo pb:Value) (i:Nat) (iv:Int) (out:List Int) (ob:Option Bd),vo=v9∧pb=G∧I=.int .i64 iv∧Aside0 (iv=(i:Int))∧i≤n1∧Aside0 (encG e s into i (l1.drop i) out ob=some o)∧Aside0 (R8 wr b vo out)∧Aside0 (OpenAt wr b vo pb ob i)∧Aside0 (Below b w2 wr)) (fun _ _ i _=>((n1:Int)-intOf i).toNat)
 case atStart=>exact⟨_,_,0,0,[],none,rfl,rfl,rfl,⟨rfl⟩,Nat.zero_le _,HE,⟨Kd.R_nil _ _ _ _ _⟩,⟨⟨rfl,rfl⟩⟩,⟨Below.refl _ _⟩⟩
 case round =>
  obtain⟨vo,pb,i,iv,out,ob,rfl,rfl,rfl,HI,hin,HG,HO,HOP,HB⟩:=hrel
  by_cases hlt:i<n1
  ·have h0:0≤iv:=by have:=HI.out;omega
   have h1:iv<(n1:Int):=by have:=HI.out;omega
   have hb1:decide (iv<(n1:Int))=true:=decide_eq_true h1;obtain⟨ad,rfl,x0,x1,x2,x3⟩:=Qkj E.out iv h0 h1;replace x0:=hcell HB.out x0;replace x1:=hcell HB.out x1;replace x2:=hcell HB.out x2;replace x3:=hcell HB.out x3;obtain⟨r,hr⟩:∃r,r=Qki l1 iv:=⟨_,rfl⟩;rw[← hr]at x0 x1 x2 x3;have hg:encG e s into i (r :: l1.drop (i+1)) out ob=some o:=by
    have h:=HG.out;rw[Qul qq_20,← HI.out,← hr]at h;exact h
   clear hr;have hi2:i<ni:=by
    rw[HNI.out];unfold encG at hg;split at hg
    ·assumption
    ·cases hg
   by_cases hz:i=0
   ·have hob:ob=none∧pb=.pointer none:=by
     have h:=HOP.out
     cases ob with
     | none=>exact⟨rfl,h.1⟩
     | some B=>obtain⟨_,_,_,_,_,_,_,_,hn⟩:=h;exact absurd hz hn
    obtain⟨rfl,rfl⟩:=hob;have hz0:(iv == 0)=true:=beq_iff_eq.2 (by have:=HI.out;omega);have hiv:iv=((0:Nat):Int):=by have:=HI.out;omega
    unfold encG at hg;rw[if_pos (by rw[← HNI.out];exact hi2)]at hg;dsimp only at hg;rw[if_pos hz]at hg;obtain⟨B,hB1,hg⟩:=Option.bind_eq_some_iff.mp hg;obtain⟨B',hB2',hg⟩:=Option.bind_eq_some_iff.mp hg;rw[← HI.out]at hB1;obtain⟨adi,rfl,y0⟩:=Kd.at_int HCI.out iv h0 (by have:=HNI.out;have:=HI.out;omega);have hci1:iv<(ni:Int):=by have:=HI.out;omega
    obtain⟨k0,k1⟩:=box2 HK2.out;have hb':Below wr.heap.size wr (wr.alloc (.cells #[.bool r.f0,.int .u64 r.f1,.string r.f2,.string r.f3] 39)):=Qdq (Below.refl _ _) _;have hbz:b≤wr.heap.size:=by rw[HBD.out];exact HB.out.size
    have hB3:=HB.out.trans (Qld hb' hbz);have y1:=hcell hB3 y0;have k2:=hcell hB3 k0;have k3:=hcell hB3 k1;have bk:=Qfe wr (.cells #[.bool r.f0,.int .u64 r.f1,.string r.f2,.string r.f3] 39);have HG':=QA hg;have j:=QA hB1;have l:=QA hB2';have HZ:=QA hz;have HIV:=QA hiv;clear hg hB1 hB2' hz hiv y0 k0 k1;go_wp2
    go_quiet (fail)
    obtain⟨W3,hW3⟩:∃W3,W3=(wr.alloc (.cells #[.bool r.f0,.int .u64 r.f1,.string r.f2,.string r.f3] 39)).drewN nq:=⟨_,rfl⟩;have hbq:Below (wr.alloc (.cells #[.bool r.f0,.int .u64 r.f1,.string r.f2,.string r.f3] 39)).heap.size (wr.alloc (.cells #[.bool r.f0,.int .u64 r.f1,.string r.f2,.string r.f3] 39)) W3:=by rw[hW3];exact Qds (Below.refl _ _) _
    have hB4:Below wr.heap.size wr W3:=Qdt hb' hb'.size hbq;have bk4:=Qfd bk hbq;have z1:=Qdu hbq y1;have z2:=Qdu hbq k2;have z3:=Qdu hbq k3;rw[← hW3];clear hW3 y1 k2 k3 bk hb' hbq hB3;go_wp2
    go_region_held3 (fun w'=>w'.cell? ⟨w.heap.size,0,none⟩=some (.int .u8 e)∧w'.cell? ⟨w.heap.size,1,none⟩=some (.int .u32 s)∧w'.cell? (adi.add iv.toNat)=some (.int .u32 (YtnnofopfbeklbaaGreatW.PrintWords.rd into iv))) (first|exact⟨z2,z3,z1⟩|exact⟨t2,t3,t1⟩) (first
     |(go_at_call 18;refine(Que e s (YtnnofopfbeklbaaGreatW.PrintWords.rd into iv) B W3.drew j.out).mono ?_;rintro ee w4 ⟨g,rfl,hIB,hb4,u⟩;have t1:=Qdu hb4 z1;have t2:=Qdu hb4 z2;have t3:=Qdu hb4 z3))
    have bk5:=Qfd (w:=W3.drew) bk4 hb4;obtain⟨q0,q1,q2,q3⟩:=box4 bk5;have hsz4:W3.drew.heap.size≤w4.heap.size:=hb4.size;have HIB:=QA hIB;clear z1 z2 z3 t1 t2 t3 hIB bk4
    go_wp2_with (go_at_call 21;refine(Quf W3.drew.heap.size g B B' r w4 HIB.out u hsz4 l.out).mono ?_;rintro ee w6 ⟨rfl,hIB6,hb6⟩)
    go_roundw
    case rel =>
     have hw3:wr.heap.size≤W3.drew.heap.size:=hB4.size;have hol:∀k,vo.ownBlock=some k→k<W3.drew.heap.size:=fun k hk=>Nat.lt_of_lt_of_le (Kd.R_lt HO.out k hk) hw3
     have hO3:=R8.kept HO.out hB4;have hO4:R8 w4 b vo out:=R8.kept (W:=W3.drew) hO3 hb4;have hO6:=Quk hO4 hb6 hol;have hs6:W3.drew.heap.size≤w6.heap.size:=Nat.le_trans hsz4 hb6.size;refine⟨vo,_,i+1,iv+1,out,some B',rfl,rfl,by go_num,⟨by have:=HI.out;omega⟩,hlt,HG',⟨hO6⟩,⟨g,W3.drew.heap.size,rfl,Nat.le_trans hbz hw3,u,hs6,hol,hIB6,by omega⟩,⟨?_⟩⟩;exact HB.out.trans ((Qld hB4 hbz).trans ((Qdr (Below.refl _ _)).trans ((Qld hb4 (Nat.le_trans hbz hw3)).trans (Qld hb6 (Nat.le_trans hbz hw3)))))
    case measure=>simp[intOf];omega
   ·obtain⟨B,rfl⟩:∃B,ob=some B:=by
     have h:=HOP.out
     cases ob with
     | none=>exact absurd h.2 hz
     | some B=>exact⟨B,rfl⟩
    obtain⟨g,b2,rfl,hbb2,hb2g,hb2z,hol,hIB0,_⟩:=HOP.out;have HIB0:=QA hIB0;have hz0:(iv == 0)=false:=beq_eq_false_iff_ne.2 (by have:=HI.out;omega);obtain⟨jv,hjv⟩:∃jv,jv=iv-1:=⟨_,rfl⟩;have hj0:0≤jv:=by have:=HI.out;omega
    unfold encG at hg;rw[if_pos (by rw[← HNI.out];exact hi2)]at hg;dsimp only at hg;rw[if_neg hz,← HI.out,← hjv]at hg;have HOL:=QA hol;have HZ:=QA hz;clear hIB0 hol hz HOP
    by_cases heq:YtnnofopfbeklbaaGreatW.PrintWords.rd into iv=YtnnofopfbeklbaaGreatW.PrintWords.rd into jv
    ·rw[if_pos heq]at hg;obtain⟨B',hB2',hg⟩:=Option.bind_eq_some_iff.mp hg;have HG':=QA hg;have l:=QA hB2';have hne:(YtnnofopfbeklbaaGreatW.PrintWords.rd into iv != YtnnofopfbeklbaaGreatW.PrintWords.rd into jv)=false:=by rw[heq];simp
     clear heq hg hB2';obtain⟨adi,rfl,y0⟩:=Kd.at_int HCI.out iv h0 (by have:=HNI.out;have:=HI.out;omega);obtain⟨adj,ej,yj0⟩:=Kd.at_int HCI.out jv hj0 (by have:=HNI.out;have:=HI.out;omega)
     cases ej
     have hci1:iv<(ni:Int):=by have:=HI.out;omega
     have hcj1:jv<(ni:Int):=by omega
     obtain⟨k0,k1⟩:=box2 HK2.out;have hb':Below wr.heap.size wr (wr.alloc (.cells #[.bool r.f0,.int .u64 r.f1,.string r.f2,.string r.f3] 39)):=Qdq (Below.refl _ _) _;have hbz:b≤wr.heap.size:=by rw[HBD.out];exact HB.out.size
     have hB3:=HB.out.trans (Qld hb' hbz);have y1:=hcell hB3 y0;have yj1:=hcell hB3 yj0;have k2:=hcell hB3 k0;have k3:=hcell hB3 k1;have bk:=Qfe wr (.cells #[.bool r.f0,.int .u64 r.f1,.string r.f2,.string r.f3] 39);have HJ:=QA hjv;have hwr:IntKind.i64.wrap (iv-1)=jv:=by rw[IntWalk.i64_in _ (by omega)];exact hjv.symm
     clear hjv y0 yj0 k0 k1;go_wp2
     go_quiet (fail)
     obtain⟨W3,hW3⟩:∃W3,W3=(wr.alloc (.cells #[.bool r.f0,.int .u64 r.f1,.string r.f2,.string r.f3] 39)).drewN nq:=⟨_,rfl⟩;have hbq:Below (wr.alloc (.cells #[.bool r.f0,.int .u64 r.f1,.string r.f2,.string r.f3] 39)).heap.size (wr.alloc (.cells #[.bool r.f0,.int .u64 r.f1,.string r.f2,.string r.f3] 39)) W3:=by rw[hW3];exact Qds (Below.refl _ _) _
     have hB4:Below wr.heap.size wr W3:=Qdt hb' hb'.size hbq;have bk4:=Qfd bk hbq;have z1:=Qdu hbq y1;have z2:=Qdu hbq k2;have z3:=Qdu hbq k3;rw[← hW3];clear hW3 y1 yj1 k2 k3 bk hb' hbq hB3 hwr;obtain⟨q0,q1,q2,q3⟩:=box4 bk4;have hs3:b2≤W3.heap.size:=Nat.le_trans hb2z hB4.size;have HIB3:=QA (IsBd.kept HIB0.out hB4);clear z1 z2 z3 bk4
     go_wp2_with (go_at_call 21;refine(Quf b2 g B B' r W3 HIB3.out hb2g hs3 l.out).mono ?_;rintro ee w6 ⟨rfl,hIB6,hb6⟩)
     go_roundw
     case rel =>
      have hO6:=Quk (R8.kept HO.out hB4) hb6 HOL.out;refine⟨vo,_,i+1,iv+1,out,some B',rfl,rfl,by go_num,⟨by have:=HI.out;omega⟩,hlt,HG',⟨hO6⟩,⟨g,b2,rfl,hbb2,hb2g,Nat.le_trans hs3 hb6.size,HOL.out,hIB6,by omega⟩,⟨?_⟩⟩;exact HB.out.trans ((Qld hB4 hbz).trans (Qld hb6 hbb2))
     case measure=>simp[intOf];omega
    ·rw[if_neg heq]at hg;obtain⟨oo,hseal,hg⟩:=Option.bind_eq_some_iff.mp hg;have hoo:out.length+oo.length≤lim:=by
      apply Decidable.byContradiction;intro hn;rw[if_neg hn]at hg
      cases hg
     rw[if_pos hoo]at hg;obtain⟨B1,hB1,hg⟩:=Option.bind_eq_some_iff.mp hg;obtain⟨B',hB2',hg⟩:=Option.bind_eq_some_iff.mp hg;have HG':=QA hg;have j:=QA hB1;have HBA:=QA hB2';have HSL:=QA hseal;have hoo':out.length+oo.length≤70368744177664:=hoo;have hne:(YtnnofopfbeklbaaGreatW.PrintWords.rd into iv != YtnnofopfbeklbaaGreatW.PrintWords.rd into jv)=true:=by simp[heq]
     clear heq hg hB1 hB2' hseal hoo;obtain⟨adi,rfl,y0⟩:=Kd.at_int HCI.out iv h0 (by have:=HNI.out;have:=HI.out;omega);obtain⟨adj,ej,yj0⟩:=Kd.at_int HCI.out jv hj0 (by have:=HNI.out;have:=HI.out;omega)
     cases ej
     have hci1:iv<(ni:Int):=by have:=HI.out;omega
     have hcj1:jv<(ni:Int):=by omega
     obtain⟨k0,k1⟩:=box2 HK2.out;have hb':Below wr.heap.size wr (wr.alloc (.cells #[.bool r.f0,.int .u64 r.f1,.string r.f2,.string r.f3] 39)):=Qdq (Below.refl _ _) _;have hbz:b≤wr.heap.size:=by rw[HBD.out];exact HB.out.size
     have hB3:=HB.out.trans (Qld hb' hbz);have y1:=hcell hB3 y0;have yj1:=hcell hB3 yj0;have k2:=hcell hB3 k0;have k3:=hcell hB3 k1;have bk:=Qfe wr (.cells #[.bool r.f0,.int .u64 r.f1,.string r.f2,.string r.f3] 39);have HJ:=QA hjv;have hwr:IntKind.i64.wrap (iv-1)=jv:=by rw[IntWalk.i64_in _ (by omega)];exact hjv.symm
     clear hjv yj0;go_wp2
     go_quiet (fail)
     obtain⟨W3,hW3⟩:∃W3,W3=(wr.alloc (.cells #[.bool r.f0,.int .u64 r.f1,.string r.f2,.string r.f3] 39)).drewN nq:=⟨_,rfl⟩;have hbq:Below (wr.alloc (.cells #[.bool r.f0,.int .u64 r.f1,.string r.f2,.string r.f3] 39)).heap.size (wr.alloc (.cells #[.bool r.f0,.int .u64 r.f1,.string r.f2,.string r.f3] 39)) W3:=by rw[hW3];exact Qds (Below.refl _ _) _
     have hB4:Below wr.heap.size wr W3:=Qdt hb' hb'.size hbq;have bk4:=Qfd bk hbq;have z1:=Qdu hbq y1;have z2:=Qdu hbq k2;have z3:=Qdu hbq k3;rw[← hW3];clear hW3 y1 yj1 k2 k3 bk hb' hbq hB3 hwr z1 z2 z3;have hs3:b2≤W3.heap.size:=Nat.le_trans hb2z hB4.size;have HIB3:=QA (IsBd.kept HIB0.out hB4);have J:=QA (R8.kept HO.out hB4)
     go_wp2_with (first
      |(go_at_call 28;refine(Qui b2 g B oo W3 HIB3.out hs3 HSL.out).mono ?_;rintro ee w4 ⟨v4,rfl,hR4,hb4⟩;obtain⟨A4,n4,c4,rfl,m,hl4,hC4⟩:=R8.reads hR4;have n:=QA hC4;have d:=QA (R8.kept J.out hb4);have bk5:=Qfd bk4 hb4;clear hR4 hC4 bk4)
      |(at_builtin;go_loud (refine Kd.R_append_rows (Kd.int .u8) (Rr:=fun x cs=>cs=[.int .u8 x]) (w0:=w4) b rfl (.tmp 53) (.tmp 54) 52 5 (.int .u8 0) 1 rfl Tryz.underlying52 Qkb rfl (by decide) (by omega) vo out oo A4 n4 c4 (fun _=>True) (fun _=>False) rfl rfl d.out n.out (fun _ _ h=>h) (fun _ hk=>hk.elim) (fun _ _=>trivial) (Below.refl _ _) (Nat.le_trans hbz (Nat.le_trans hB4.size hb4.size)) ?bL ?_;(case bL=>have:=m.out;omega);intro v5 w5 hR5 hb5 y hat5)))
     have c:=QA (show Below b w2 w5 from((HB.out.trans (Qld hB4 hbz)).trans (Qld hb4 (Nat.le_trans hbz hB4.size))).trans hb5);have bk6:=Qeq bk5 y (R8.clean d.out bk5 (by decide));have z1:=hcell (W:=w5.drew) (c.out.trans (Qdr (Below.refl _ _))) y0;have z2:=hcell (W:=w5.drew) (c.out.trans (Qdr (Below.refl _ _))) k0;have z3:=hcell (W:=w5.drew) (c.out.trans (Qdr (Below.refl _ _))) k1;have z:=QA hR5;have hb5z:b≤w5.drew.heap.size:=by rw[HBD.out];exact c.out.size
     clear hR5 hat5 hb5 hb4 y0 k0 k1 bk5
     go_region_held3 (fun w'=>w'.cell? ⟨w.heap.size,0,none⟩=some (.int .u8 e)∧w'.cell? ⟨w.heap.size,1,none⟩=some (.int .u32 s)∧w'.cell? (adi.add iv.toNat)=some (.int .u32 (YtnnofopfbeklbaaGreatW.PrintWords.rd into iv))) (first|exact⟨z2,z3,z1⟩|exact⟨t2,t3,t1⟩) (first
      |(go_at_call 18;refine(Que e s (YtnnofopfbeklbaaGreatW.PrintWords.rd into iv) B1 w5.drew j.out).mono ?_;rintro ee w6 ⟨g6,rfl,hIB,hb6,A⟩;have t1:=Qdu hb6 z1;have t2:=Qdu hb6 z2;have t3:=Qdu hb6 z3))
     have bk7:=Qfd (w:=w5.drew) bk6 hb6;obtain⟨q0,q1,q2,q3⟩:=box4 bk7;have hsz6:w5.drew.heap.size≤w6.heap.size:=hb6.size;have HIB:=QA hIB;clear z1 z2 z3 t1 t2 t3 hIB bk6
     go_wp2_with (go_at_call 21;refine(Quf w5.drew.heap.size g6 B1 B' r w6 HIB.out A hsz6 HBA.out).mono ?_;rintro ee w7 ⟨rfl,hIB7,hb7⟩)
     go_roundw
     case rel =>
      have hol5:∀k,v5.ownBlock=some k→k<w5.drew.heap.size:=fun k hk=>Kd.R_lt z.out k hk
      have hO6:R8 w6 b v5 (out++oo):=R8.kept (W:=w5.drew) z.out hb6;have hO7:=Quk hO6 hb7 hol5;refine⟨v5,_,i+1,iv+1,out++oo,some B',rfl,rfl,by go_num,⟨by have:=HI.out;omega⟩,hlt,HG',⟨hO7⟩,⟨g6,w5.drew.heap.size,rfl,hb5z,A,Nat.le_trans hsz6 hb7.size,hol5,hIB7,by omega⟩,⟨?_⟩⟩;exact c.out.trans ((Qdr (Below.refl _ _)).trans ((Qld hb6 hb5z).trans (Qld hb7 hb5z)))
     case measure=>simp[intOf];omega
  ·have hin':i=n1:=by omega
   have hge:¬iv<(n1:Int):=by have:=HI.out;omega
   have hb1:decide (iv<(n1:Int))=false:=decide_eq_false hge;have hbz:b≤wr.heap.size:=by rw[HBD.out];exact HB.out.size
   have hwb:w.heap.size≤b:=by rw[HBD.out];omega
   have hg:encG e s into i [] out ob=some o:=by
    have h:=HG.out;rw[List.drop_of_length_le qq_20]at h;exact h
   cases ob with
   | none =>
    obtain⟨rfl,_⟩:=HOP.out;simp only[encG]at hg;have ho:out=o:=Option.some.inj hg;have HOO:=QA ho;clear ho hg HOP hin';go_wp2;refine bodyPost_ret (results_tmp2 rfl _ _ _) rfl ?_;refine⟨_,rfl,?_,HBW.out.trans (Qld HB.out hwb)⟩;rw[← HOO.out];exact R8.low HO.out hwb
   | some B =>
    obtain⟨g,b2,rfl,hbb2,hb2g,hb2z,hol,hIB0,_⟩:=HOP.out;simp only[encG]at hg;obtain⟨oo,hopen,hg⟩:=Option.bind_eq_some_iff.mp hg;have hoo:out.length+oo.length≤lim:=by
     apply Decidable.byContradiction;intro hn;rw[if_neg hn]at hg
     cases hg
    rw[if_pos hoo]at hg;have hoo':out.length+oo.length≤70368744177664:=hoo;have ho:out++oo=o:=Option.some.inj hg;have HOO:=QA ho;have HOPN:=QA hopen;have HIB0:=QA hIB0;clear ho hg HOP hin' hopen hIB0 hol hoo
    go_wp2_with (first
     |(go_at_call 30;refine(Quj b2 g B oo wr HIB0.out hb2z HOPN.out).mono ?_;rintro ee w4 ⟨v4,rfl,hR4,hb4⟩;obtain⟨A4,n4,c4,rfl,m,hl4,hC4⟩:=R8.reads hR4;have n:=QA hC4;have d:=QA (R8.kept HO.out hb4);clear hR4 hC4)
     |(at_builtin;go_loud (refine Kd.R_append_rows (Kd.int .u8) (Rr:=fun x cs=>cs=[.int .u8 x]) (w0:=w4) b rfl (.tmp 71) (.tmp 73) 52 5 (.int .u8 0) 1 rfl Tryz.underlying52 Qkb rfl (by decide) (by omega) vo out oo A4 n4 c4 (fun _=>True) (fun _=>False) rfl rfl d.out n.out (fun _ _ h=>h) (fun _ hk=>hk.elim) (fun _ _=>trivial) (Below.refl _ _) (Nat.le_trans hbz hb4.size) ?bL ?_;(case bL=>have:=m.out;omega);intro v5 w5 hR5 hb5 y hat5)))
    refine bodyPost_ret (results_tmp2 rfl _ _ _) rfl ?_;refine⟨_,rfl,?_,HBW.out.trans (Qld ((HB.out.trans (Qld hb4 hbz)).trans hb5) hwb)⟩;rw[← HOO.out];exact R8.low hR5 hwb
theorem enc_not(k:Nat)(e s er:Int)(A1:Option Addr)(c1 n1:Nat)(l1:List Rec)(into sizes:List Int)(w:World)(a:n1=l1.length)(hr1:Kd.C k39 w A1 n1 l1)(hc1:n1≤c1)
  (hp:Qcv.f k e s l1=some (into,sizes,er)) (her:er≠0) :
  Calls Tryz.prog 33 #[.agg #[.int .u8 e,.int .u32 s],.slice A1 n1 c1] w fun ee w'=>∃v,ee=.returned (.tuple #[v,.int .i64 er])∧R8 w' w.heap.size v []∧Below w.heap.size w w':=by
 have hu:=Tryz.underlying27;have HN:=QA a;have HC:=QA hr1;have HP:=QA hp;have hnb:(er == 0)=false:=beq_eq_false_iff_ne.2 her;have hnc:(er != 0)=true:=bne_iff_ne.2 her;clear a hr1 hp her;have hba:Below w.heap.size w (w.alloc (.cells #[.int .u8 e,.int .u32 s] 27)):=Qdq (Below.refl _ _) _;have hbn:=Qfe w (.cells #[.int .u8 e,.int .u32 s] 27);have HCa:=QA (Kd.C_alloc HC.out (.cells #[.int .u8 e,.int .u32 s] 27));have hplan:Calls Tryz.prog 73 #[.agg #[.int .u8 e,.int .u32 s],.slice A1 n1 c1] (w.alloc (.cells #[.int .u8 e,.int .u32 s] 27)) fun ee w'=>∃b c:Value,ee=.returned (.tuple #[b,c,.int .i64 er])∧Below (w.alloc (.cells #[.int .u8 e,.int .u32 s] 27)).heap.size (w.alloc (.cells #[.int .u8 e,.int .u32 s] 27)) w':=by
  have hC:=HCa.out;rw[HN.out]at hC ⊢;exact(Qcv.calls k e s A1 c1 l1 into sizes er _ hC qq_20 HP.out).mono fun _ _ ⟨v0,v1,h1,_,_,h4⟩=>⟨v0,v1,h1,h4⟩
 have HPL:=QA hplan;clear hplan;obtain⟨c0,d⟩:=box2 hbn
 go_enter Tryz.func33,Tryz.ntmps33
 go_wp2_with (go_at_call 73;refine HPL.out.mono ?_;rintro ee w2 ⟨vi,vz,rfl,hb2⟩)
 refine bodyPost_ret (results_tmp2 rfl _ _ _) rfl ?_;exact⟨_,rfl,Kd.R_nil _ _ _ _ _,Qdt hba hba.size hb2⟩
theorem Qcu.calls(k:Nat)(a0_0:Int)(a0_1:Int)(A1:Option Addr)(c1:Nat)(l1:List S39)(r1:List Int)(r2:Int)(w:World)(hr1:Kd.C k39 w A1 l1.length l1)(hc1:l1.length≤c1)(h:Qcu.f k a0_0 a0_1 l1=some (r1,r2)) :
  Calls Tryz.prog 33 #[.agg #[.int .u8 a0_0,.int .u32 a0_1],.slice A1 l1.length c1] w fun e w'=>∃v0_:Value,e=.returned (.tuple #[v0_,.int .i64 r2])∧Kd.R (Kd.int .u8) 5 w' w.heap.size (fun _=>True) v0_ r1∧Below w.heap.size w w':=by
 unfold Qcu.f at h;obtain⟨⟨into,sizes,er⟩,hp,h⟩:=Option.bind_eq_some_iff.mp h;dsimp only at h
 by_cases her:er=0
 ·subst her;rw[if_pos rfl]at h
  by_cases hl:l1.length≤1099511627776
  ·rw[if_pos hl]at h;obtain⟨o,ho,h⟩:=Option.bind_eq_some_iff.mp h;simp only[Option.some.injEq,Prod.mk.injEq]at h;obtain⟨rfl,rfl⟩:=h;exact enc_of k a0_0 a0_1 A1 c1 l1.length l1 into sizes _ w rfl hr1 hc1 hl hp ho
  ·rw[if_neg hl]at h;cases h
 ·rw[if_neg her]at h;simp only[Option.some.injEq,Prod.mk.injEq]at h;obtain⟨rfl,rfl⟩:=h;exact enc_not k a0_0 a0_1 _ A1 c1 l1.length l1 into sizes w rfl hr1 hc1 hp her
def recA:Rec:=⟨false,0,⟨#[97]⟩,⟨#[]⟩⟩
def frA:List Int:=match Qcq.f false 0 ⟨#[97]⟩ ⟨#[]⟩with|some p=>p.1|none=>[]
def oA:List Int:=h12++frA++List.replicate (4096-(h12++frA).length) 255
theorem encA0:Qcu.f 9 12 1 []=some ([],0):=by kernel_rfl
theorem encA1:Qcu.f 40 12 1 [recA]=some (oA,0):=by kernel_rfl
theorem oA_len:oA.length=4096:=by kernel_rfl
def Qar.f:Option Bool:=some true
theorem Qar.calls(r:Bool)(w:World)(h:Qar.f=some r) :
  Calls Tryz.prog 32 #[] w fun e w'=>e=.returned (.bool r)∧Below w.heap.size w w':=by
 obtain rfl:=Option.some.inj h;have hu:=Tryz.underlying27;have hu2:=Tryz.underlying39;have bn:=Qfe w (.cells #[.int .u8 12,.int .u32 1] 27);have hb0:Below w.heap.size w (w.alloc (.cells #[.int .u8 12,.int .u32 1] 27)):=Qdq (Below.refl _ _) _;obtain⟨c0,c1⟩:=box2 bn;have hnil:∀W:World,Kd.C k39 W none ([]:List Rec).length []:=fun W=>Kd.C_nil _ W
 have HNIL:=QA hnil;have hone:∀W:World,Kd.C k39 (W.alloc (.cells #[.bool false,.int .u64 0,.string ⟨#[97]⟩,.string ⟨#[]⟩] 39)) (some ⟨W.heap.size,0,none⟩) [recA].length [recA]:=fun W=>by
  have hR:Kd.R k39 39 (W.alloc (.cells #[.bool false,.int .u64 0,.string ⟨#[97]⟩,.string ⟨#[]⟩] 39)) W.heap.size (fun _=>True) (.slice (some ⟨W.heap.size,0,none⟩) 1 1) [recA]:=by
   refine⟨fun _ _=>trivial,[.bool false,.int .u64 0,.string ⟨#[97]⟩,.string ⟨#[]⟩],World.ownsRow_lit (base:=W.heap.size) (e:=39) (size:=4) W #[.bool false,.int .u64 0,.string ⟨#[97]⟩,.string ⟨#[]⟩] 1 (Nat.le_refl _) (by decide) rfl,rfl,fun j p hj=>?_⟩;obtain⟨hj1,rfl⟩:=List.getElem?_eq_some_iff.1 hj;obtain rfl:j=0:=by simpa using hj1
   exact Qkh _ _ _ recA
  exact(Kd.R_reads' hR).2.2
 have HONE:=QA hone;clear hnil hone
 go_enter Tryz.func32,Tryz.ntmps32
 go_wp2_with (first
  |(go_at_call_of 33 (Value.slice none 0 0);refine(Qcu.calls 9 12 1 none 0 [] [] 0 _ (HNIL.out _) (Nat.le_refl _) encA0).mono ?_;rintro e w1 ⟨v1,rfl,hR1,hb1⟩;obtain⟨A1,n1,g,rfl,c,hl1,hC1⟩:=R8.reads hR1;have a:n1=0:=c.out;subst a;have bk1:=Qfd bn hb1;clear c0 c1;obtain⟨c0,c1⟩:=box2 bk1)
  |(go_at_call 33;go_loud (refine(Qcu.calls 40 12 1 (some ⟨w1.heap.size,0,none⟩) 1 [recA] oA 0 _ (HONE.out w1) (Nat.le_refl _) encA1).mono ?_;rintro e w2 ⟨v2,rfl,hR2,hb2⟩;obtain⟨A2,n2,c2,rfl,d,hl2,hC2⟩:=R8.reads hR2;have b:n2=4096:=d.out.trans oA_len;subst b))
  |(go_at_call 15;refine(Qap.calls true _ rfl).mono ?_;rintro e w3 ⟨rfl,hb3⟩))
 go_ret
 have hb12:=(Qdt hb0 hb0.size hb1);have hz1:w.heap.size≤w1.heap.size:=hb12.size;have hb2':Below w1.heap.size w1 w2:=Qdt (Qdq (Below.refl _ _) _) (by rw[World.size_alloc];omega) hb2;exact⟨rfl,Qdt (Qdt hb12 hz1 hb2') (Nat.le_trans hz1 hb2'.size) hb3⟩
end Go.Proofs.YtnnofopfbeklbaaGreat.C
end
section
namespace Go.Proofs.YtnnofopfbeklbaaGreat.C
open Go.RowKit Go.Proofs.YtnnofopfbeklbaaGreatW.PrintWords Go.Proofs.YtnnofopfbeklbaaGreatW.PrintLast Go.Proofs.YtnnofopfbeklbaaGreatW.PrintMore
attribute [local go_sem] Qjk Qjl Qjm Qjn Qjo Qjp Qjq Qjr
def Qcx.f(k:Nat)(a0_0:Int)(a0_1:Int)(l1:List Int):Option (List Int × Int × Int):=(Qal.f a0_0 a0_1).bind fun t724=>(if t724=0 then((Qan.f l1).bind fun bt725=>(if bt725.2.2=0 then((Qcw.f k bt725.1).bind fun t730=>((Qcu.f k a0_0 a0_1 t730).bind fun bt733=>(some (bt733.1,0,bt733.2))))else(some (([]:List Int),bt725.2.1,bt725.2.2))))else(some (([]:List Int),0,t724)))
def Qcx.T7:Bool × List (List Nat × List Nat):=(true,[([],[]),([],[]),([1],[1]),([0,2,2],[0,2]),([3],[3]),([4],[4]),([4],[4]),([5,3,0,1,2,3,4,5],[5]),([6,7,0,1,2,3,4,5,6,7],[6])])
def Qcx.B7:List Nat:=[0,0,2,7,15,31,31,63,255]
theorem Qcx.tab7:rtab .any (Qjb Tryz.f43 7)=Qcx.T7:=by kernel_rfl
theorem Qcx.bits7:Qiv Qcx.T7.2 Qcx.B7=true:=by kernel_rfl
theorem Qcx.calls(k:Nat)(b:Int)(c:Int)(A1:Option Addr)(c1:Nat)(l1:List Int)(r1:List Int)(r2:Int)(r3:Int)(w:World)(hr1:Kd.C (Kd.int .u8) w A1 l1.length l1)(hc1:l1.length≤c1)(h:Qcx.f k b c l1=some (r1,r2,r3)) :
  Calls Tryz.prog 43 #[.agg #[.int .u8 b,.int .u32 c],.slice A1 l1.length c1] w fun e w'=>∃D:Value,e=.returned (.tuple #[D,.int .i64 r2,.int .i64 r3])∧Kd.R (Kd.int .u8) 5 w' w.heap.size (fun _=>True) D r1∧Below w.heap.size w w':=by
 have hu27:=Tryz.underlying27;have E:=QA hr1;have G:=QA hc1;clear hr1 hc1;have HB:=QA (Below.refl w.heap.size w);have H:((Qal.f b c).bind fun l=>(if l=0 then((Qan.f l1).bind fun bt725=>(if bt725.2.2=0 then((Qcw.f k bt725.1).bind fun m=>((Qcu.f k b c m).bind fun bt733=>(some (bt733.1,0,bt733.2))))else(some (([]:List Int),bt725.2.1,bt725.2.2))))else(some (([]:List Int),0,l))))=some (r1,r2,r3):=h;clear h;replace H:=Option.bind_eq_some_iff.mp H;obtain⟨l,I,H⟩:=H;replace H:(if l=0 then((Qan.f l1).bind fun bt725=>(if bt725.2.2=0 then((Qcw.f k bt725.1).bind fun m=>((Qcu.f k b c m).bind fun bt733=>(some (bt733.1,0,bt733.2))))else(some (([]:List Int),bt725.2.1,bt725.2.2))))else(some (([]:List Int),0,l)))=some (r1,r2,r3):=H;have A3:=QA I;clear I
 by_cases c4:l=0
 ·rw[if_pos c4]at H;have O:(l == 0)=true:=beq_iff_eq.mpr c4;have P:(l != 0)=false:=bne_eq_false_iff_eq.mpr c4;clear c4;replace H:=Option.bind_eq_some_iff.mp H;obtain⟨⟨t,u,p⟩,J,H⟩:=H;replace H:(if p=0 then((Qcw.f k t).bind fun m=>((Qcu.f k b c m).bind fun bt733=>(some (bt733.1,0,bt733.2))))else(some (([]:List Int),u,p)))=some (r1,r2,r3):=H;have A5:=QA J;clear J
  by_cases c6:p=0
  ·rw[if_pos c6]at H;have T:(p == 0)=true:=beq_iff_eq.mpr c6;have U:(p != 0)=false:=bne_eq_false_iff_eq.mpr c6;clear c6;replace H:=Option.bind_eq_some_iff.mp H;obtain⟨m,L,H⟩:=H;replace H:((Qcu.f k b c m).bind fun bt733=>(some (bt733.1,0,bt733.2)))=some (r1,r2,r3):=H;have A7:=QA L;clear L;replace H:=Option.bind_eq_some_iff.mp H;obtain⟨⟨z,A⟩,M,H⟩:=H;replace H:(some (z,0,A))=some (r1,r2,r3):=H;have A8:=QA M;clear M;simp only[Option.some.injEq,Prod.mk.injEq]at H;obtain⟨rfl,rfl,rfl⟩:=H
   go_enter Tryz.func43,Tryz.ntmps43
   try go_wp2_with (first |((with_reducible refine Qgt (N:=2) rfl ?_);refine qq_e 2 #[.int .u8 b,.int .u32 c] 27 ?_;intro d hg w9 hbox hb;have n_:=qn4 (Qgi qq_b hb) (hbox) (qq_s hg:w.heap.size≤d) (qq_s hg:w.heap.size≤d);clear HB;obtain⟨HB,a,x,y⟩:=n_;clear hb hbox hg;obtain⟨X,Y⟩:=qc2 a.out;have ae:=Qep a.out) |((with_reducible refine Qjs (f:=85) rfl ?_);refine Qhs (some 11) rfl rfl Tryz.func85 qq_7 rfl #[.agg #[.int .u8 b,.int .u32 c]] rfl qq_1 ?_;(with_reducible refine(Qal.calls b c l _ A3.out).mono ?_);rintro e aj ⟨rfl,hb⟩;refine⟨_,rfl,?_⟩;have n_:=qn2 (Qfd (g:=d) (o:=.cells #[.int .u8 b,.int .u32 c] 27 (0,0)) qq_0 hb) (Qgi qq_b hb);clear a HB;obtain⟨a,HB⟩:=n_;(try clear hb);(try clear hb2);(try clear hk);(try clear hi)) |((with_reducible refine Qjs (f:=86) rfl ?_);refine Qhs (some 17) rfl rfl Tryz.func86 qq_7 rfl #[.slice A1 l1.length c1] rfl qq_1 ?_;(with_reducible refine(Qan.calls _ _ l1 t u p _ ?side1 ?side2 A5.out).mono ?_);(case side1=>repeat(first|exact(Kd.C_below E.out HB.out) |(with_reducible refine Kd.C_alloc ?_ _) |(with_reducible refine Kd.C_drewN ?_ _) |(with_reducible refine Kd.C_drew ?_)));(case side2=>exact G.out);rintro e ad ⟨W,rfl,q,hb⟩;refine⟨_,rfl,?_⟩;have n_:=qn3 (Kd.R_lower q (Qgh qq_b)) (Qfd (g:=d) (o:=.cells #[.int .u8 b,.int .u32 c] 27 (0,0)) qq_0 hb) (Qgi qq_b hb);clear a HB;obtain⟨j,a,HB⟩:=n_;(try clear hb);(try clear hb2);(try clear hk);(try clear hi);(try clear q)))
   have n_:=qn3 (Kd.R_drew j.out) (Qfb a.out) (Qgp HB.out);clear j a HB;obtain⟨j,a,HB⟩:=n_;obtain⟨Ao14,co14,eo14⟩:=Kd.R_slice j.out
   (first|subst eo14 |(injection eo14 with f1_ f2_ f3_;have f4_:=f1_.symm;have f5_:=f3_.symm;clear f1_ f2_ f3_;subst f4_;subst f5_))
   refine Qhg (n:=9) (S:=fun w'=>w'.cell? ⟨d,0,none⟩=some (.int .u8 b)∧w'.cell? ⟨d,1,none⟩=some (.int .u32 c)) (ds:=[]) (bm 9 0) qq_7 rfl rfl ⟨(Qeo a.out 0).trans rfl,(Qeo a.out 1).trans rfl⟩ (fun s=>?_);refine Qiz Qcx.tab7 Qcx.bits7 (fun HT_ HW_=>?_);generalize ad.drew=w13 at j a HB s ⊢;refine Qhj (i:=1) (N:=some 27) (v:=?_) (a':=?_) (bm 9 2) rfl rfl (Qir HT_.out qq_7) (fun _ _ _ h=>h) (Or.inl ⟨by rfl,?_⟩) ?_ ?_;rotate_left
   ·intro w';go_simp;with_reducible rfl
   rotate_left
   ·exact qq_2
   refine Qhi (i:=0) (N:=some 26) (v:=?_) (a':=?_) (bm 9 3) rfl rfl (Qiy HT_.out HW_.out qq_7) (fun _ _ _ h=>h) (Or.inl ⟨by rfl,?_⟩) s ?_ ?_;rotate_left
   ·rintro w' ⟨s0,s1⟩;go_simp;with_reducible rfl
   rotate_left
   ·exact qq_2
   refine one_ (i:=2) (N:=some 28) (bm 9 7) rfl rfl (Qis HT_.out qq_7) (by decide) (fun K hK=>?_);refine Qhr Tryz.func87 qq_7 rfl #[.slice Ao14 t.length co14] (by rfl) rfl rfl qq_1 ?_;with_reducible refine(Qcw.calls k _ _ t m _ ?side1 ?side2 A7.out).mono ?_
   (case side1=>repeat(first|exact(Kd.R_reads' j.out).2.2 |(with_reducible refine Kd.C_alloc ?_ _) |(with_reducible refine Kd.C_drewN ?_ _) |(with_reducible refine Kd.C_drew ?_)))
   (case side2=>exact(Kd.R_reads' j.out).2.1)
   rintro e ak ⟨ah,rfl,q,hb⟩;refine⟨_,rfl,?_⟩;have n_:=qn4 (Kd.R_below qq_5 hb) (Kd.R_lower q (Qgh qq_b)) (Qfd (g:=d) (o:=.cells #[.int .u8 b,.int .u32 c] 27 (0,0)) qq_0 hb) (Qgi qq_b hb);clear j a HB;obtain⟨j,r,a,HB⟩:=n_
   (try clear hb)
   (try clear hb2)
   (try clear hk)
   (try clear hi)
   (try clear q)
   obtain⟨Ao16,co16,eo16⟩:=Kd.R_slice r.out
   (first|subst eo16 |(injection eo16 with f1_ f2_ f3_;have f4_:=f1_.symm;have f5_:=f3_.symm;clear f1_ f2_ f3_;subst f4_;subst f5_))
   refine hK.out _ _ ⟨(Qeo a.out 0).trans rfl,(Qeo a.out 1).trans rfl⟩ (fun s=>?_);clear hK K;refine nzp_ 28 ?_;refine one_ (i:=3) (N:=some 29) (bm 9 15) rfl rfl (Qis HT_.out qq_7) (by decide) (fun K hK=>?_);refine Qhr Tryz.func33 qq_7 rfl #[.agg #[.int .u8 b,.int .u32 c],.slice Ao16 m.length co16] (by rfl) rfl rfl qq_1 ?_;with_reducible refine(Qcu.calls k b c _ _ m z A _ ?side1 ?side2 A8.out).mono ?_
   (case side1=>repeat(first|exact(Kd.R_reads' r.out).2.2 |(with_reducible refine Kd.C_alloc ?_ _) |(with_reducible refine Kd.C_drewN ?_ _) |(with_reducible refine Kd.C_drew ?_)))
   (case side2=>exact(Kd.R_reads' r.out).2.1)
   rintro e al ⟨ai,rfl,q,hb⟩;refine⟨_,rfl,?_⟩;have n_:=qn5 (Kd.R_below qq_5 hb) (Kd.R_below qq_5 hb) (Kd.R_lower q (Qgh qq_b)) (Qfd (g:=d) (o:=.cells #[.int .u8 b,.int .u32 c] 27 (0,0)) qq_0 hb) (Qgi qq_b hb);clear j r a HB;obtain⟨j,r,B,a,HB⟩:=n_
   (try clear hb)
   (try clear hb2)
   (try clear hk)
   (try clear hi)
   (try clear q)
   refine hK.out _ _ ⟨(Qeo a.out 0).trans rfl,(Qeo a.out 1).trans rfl⟩ (fun s=>?_);clear hK K;refine nzp_ 29 ?_;refine Qhj (i:=4) (N:=some 25) (v:=?_) (a':=?_) (bm 9 31) rfl rfl (Qir HT_.out qq_7) (fun _ _ _ h=>h) (Or.inl ⟨by rfl,?_⟩) ?_ ?_;rotate_left
   ·intro w';go_simp;with_reducible rfl
   rotate_left
   ·exact qq_2
   refine Qhj (i:=5) (N:=some 30) (v:=?_) (a':=?_) (bm 9 63) rfl rfl (Qir HT_.out qq_7) (fun _ _ _ h=>h) (Or.inl ⟨by rfl,?_⟩) ?_ ?_;rotate_left
   ·intro w';go_simp;with_reducible rfl
   rotate_left
   ·exact qq_2
   refine Qhj (i:=6) (N:=some 31) (v:=?_) (a':=?_) (bm 9 127) rfl rfl (Qir HT_.out qq_7) (fun _ _ _ h=>h) (Or.inl ⟨by rfl,?_⟩) ?_ ?_;rotate_left
   ·intro w';go_simp;with_reducible rfl
   rotate_left
   ·exact qq_2
   refine Qhj (i:=7) (N:=some 4) (v:=?_) (a':=?_) (bm 9 255) rfl rfl (Qir HT_.out qq_7) (fun _ _ _ h=>h) (Or.inl ⟨by rfl,?_⟩) ?_ ?_;rotate_left
   ·intro w';go_simp;with_reducible rfl
   rotate_left
   ·exact qq_2
   refine Qhj (i:=8) (N:=some 6) (v:=?_) (a':=?_) (bm 9 511) rfl rfl (Qir HT_.out qq_7) (fun _ _ _ h=>h) (Or.inl ⟨by rfl,?_⟩) ?_ ?_;rotate_left
   ·intro w';go_simp;with_reducible rfl
   rotate_left
   ·exact qq_2
   refine Qhl (Qiu HT_.out qq_7) ?_
   try go_wp2
   go_ret3
   exact⟨_,by first|rfl |(simp[Qjz,Qka]<;>rfl) |(simp[*,Qjz,Qka]<;>rfl),by(with_reducible repeat(first|apply Kd.R_alloc|apply Kd.R_drewN|apply Kd.R_drew));exact B.out,qq_b⟩
  ·rw[if_neg c6]at H;have T:(p == 0)=false:=beq_eq_false_iff_ne.mpr c6;have U:(p != 0)=true:=bne_iff_ne.mpr c6;simp only[Option.some.injEq,Prod.mk.injEq]at H;obtain⟨rfl,rfl,rfl⟩:=H
   go_enter Tryz.func43,Tryz.ntmps43
   go_wp2_with (first |((with_reducible refine Qgt (N:=2) rfl ?_);refine qq_e 2 #[.int .u8 b,.int .u32 c] 27 ?_;intro d hg am hbox hb;have n_:=qn4 (Qgi qq_b hb) (hbox) (qq_s hg:w.heap.size≤d) (qq_s hg:w.heap.size≤d);clear HB;obtain⟨HB,a,x,y⟩:=n_;clear hb hbox hg;obtain⟨Z,aa⟩:=qc2 a.out;have af:=Qep a.out) |((with_reducible refine Qjs (f:=85) rfl ?_);refine Qhs (some 11) rfl rfl Tryz.func85 qq_7 rfl #[.agg #[.int .u8 b,.int .u32 c]] rfl qq_1 ?_;(with_reducible refine(Qal.calls b c l _ A3.out).mono ?_);rintro e an ⟨rfl,hb⟩;refine⟨_,rfl,?_⟩;have n_:=qn2 (Qfd (g:=d) (o:=.cells #[.int .u8 b,.int .u32 c] 27 (0,0)) qq_0 hb) (Qgi qq_b hb);clear a HB;obtain⟨a,HB⟩:=n_;(try clear hb);(try clear hb2);(try clear hk);(try clear hi)) |((with_reducible refine Qjs (f:=86) rfl ?_);refine Qhs (some 17) rfl rfl Tryz.func86 qq_7 rfl #[.slice A1 l1.length c1] rfl qq_1 ?_;(with_reducible refine(Qan.calls _ _ l1 t u p _ ?side1 ?side2 A5.out).mono ?_);(case side1=>repeat(first|exact(Kd.C_below E.out HB.out) |(with_reducible refine Kd.C_alloc ?_ _) |(with_reducible refine Kd.C_drewN ?_ _) |(with_reducible refine Kd.C_drew ?_)));(case side2=>exact G.out);rintro e ao ⟨W,rfl,q,hb⟩;refine⟨_,rfl,?_⟩;have n_:=qn3 (Kd.R_lower q (Qgh qq_b)) (Qfd (g:=d) (o:=.cells #[.int .u8 b,.int .u32 c] 27 (0,0)) qq_0 hb) (Qgi qq_b hb);clear a HB;obtain⟨j,a,HB⟩:=n_;(try clear hb);(try clear hb2);(try clear hk);(try clear hi);(try clear q)))
   go_ret3
   exact⟨_,by first|rfl |(simp[Qjz,Qka]<;>rfl) |(simp[*,Qjz,Qka]<;>rfl),by first|exact Kd.R_nil _ _ _ _ _|exact Kd.N_nil _ _ _ _ _|exact Kd.V_nil _ _ _ _ _|exact Kd.Q_nil _ _ _ _ _|exact Kd.S_nil _ _ _ _ _,qq_b⟩
 ·rw[if_neg c4]at H;have O:(l == 0)=false:=beq_eq_false_iff_ne.mpr c4;have P:(l != 0)=true:=bne_iff_ne.mpr c4;simp only[Option.some.injEq,Prod.mk.injEq]at H;obtain⟨rfl,rfl,rfl⟩:=H
  go_enter Tryz.func43,Tryz.ntmps43
  go_wp2_with (first |((with_reducible refine Qgt (N:=2) rfl ?_);refine qq_e 2 #[.int .u8 b,.int .u32 c] 27 ?_;intro d hg ap hbox hb;have n_:=qn4 (Qgi qq_b hb) (hbox) (qq_s hg:w.heap.size≤d) (qq_s hg:w.heap.size≤d);clear HB;obtain⟨HB,a,x,y⟩:=n_;clear hb hbox hg;obtain⟨ab,ac⟩:=qc2 a.out;have ag:=Qep a.out) |((with_reducible refine Qjs (f:=85) rfl ?_);refine Qhs (some 11) rfl rfl Tryz.func85 qq_7 rfl #[.agg #[.int .u8 b,.int .u32 c]] rfl qq_1 ?_;(with_reducible refine(Qal.calls b c l _ A3.out).mono ?_);rintro e aq ⟨rfl,hb⟩;refine⟨_,rfl,?_⟩;have n_:=qn2 (Qfd (g:=d) (o:=.cells #[.int .u8 b,.int .u32 c] 27 (0,0)) qq_0 hb) (Qgi qq_b hb);clear a HB;obtain⟨a,HB⟩:=n_;(try clear hb);(try clear hb2);(try clear hk);(try clear hi)))
  go_ret3
  exact⟨_,by first|rfl |(simp[Qjz,Qka]<;>rfl) |(simp[*,Qjz,Qka]<;>rfl),by first|exact Kd.R_nil _ _ _ _ _|exact Kd.N_nil _ _ _ _ _|exact Kd.V_nil _ _ _ _ _|exact Kd.Q_nil _ _ _ _ _|exact Kd.S_nil _ _ _ _ _,qq_b⟩
def Qat.f(k:Nat)  : Option (Bool):=(Qcx.f k 12 1 ([]:List Int)).bind fun bt737=>((Qar.f).bind fun t742=>(if t742=true then(if(bt737.1.length:Int)=0 then(if bt737.2.1=0 then(some (bt737.2.2 == 0))else(some false))else(some false))else(some false)))
theorem Qat.calls(k:Nat) (r:Bool)(w:World)(h:Qat.f k  = some r) :
  Calls Tryz.prog 42 #[] w fun e w'=>e=.returned (.bool r)∧Below w.heap.size w w':=by
 have hu27:=Tryz.underlying27;have HB:=QA (Below.refl w.heap.size w);have H:((Qcx.f k 12 1 ([]:List Int)).bind fun bt737=>((Qar.f).bind fun j=>(if j=true then(if(bt737.1.length:Int)=0 then(if bt737.2.1=0 then(some (bt737.2.2 == 0))else(some false))else(some false))else(some false))))=some r:=h;clear h;replace H:=Option.bind_eq_some_iff.mp H;obtain⟨⟨b,c,g⟩,m,H⟩:=H;replace H:((Qar.f).bind fun j=>(if j=true then(if(b.length:Int)=0 then(if c=0 then(some (g == 0))else(some false))else(some false))else(some false)))=some r:=H;have A1:=QA m;clear m;replace H:=Option.bind_eq_some_iff.mp H;obtain⟨j,n,H⟩:=H;replace H:(if j=true then(if(b.length:Int)=0 then(if c=0 then(some (g == 0))else(some false))else(some false))else(some false))=some r:=H;have A2:=QA n;clear n
 by_cases c3:j=true
 ·subst c3;have H1:(if(b.length:Int)=0 then(if c=0 then(some (g == 0))else(some false))else(some false))=some r:=by rw[if_pos rfl]at H;exact H
  clear H;have H:=H1;clear H1
  by_cases c4:(b.length:Int)=0
  ·rw[if_pos c4]at H;have o:((b.length:Int) == 0)=true:=beq_iff_eq.mpr c4;have p:((b.length:Int) != 0)=false:=bne_eq_false_iff_eq.mpr c4;clear c4
   by_cases c5:c=0
   ·rw[if_pos c5]at H;have q:(c == 0)=true:=beq_iff_eq.mpr c5;have s:(c != 0)=false:=bne_eq_false_iff_eq.mpr c5;clear c5;obtain rfl:=Option.some.inj H
    go_enter Tryz.func42,Tryz.ntmps42
    go_wp2_with (first |((with_reducible refine Qjs (f:=43) rfl ?_);refine Qhs (some 6) rfl rfl Tryz.func43 qq_7 rfl #[.agg #[.int .u8 12,.int .u32 1],.slice none 0 0] rfl qq_1 ?_;(refine(Qcx.calls k 12 1 _ _ ([]:List Int) b c g _ ?side1 ?side2 A1.out).mono ?_);(case side1=>exact Kd.C_nil _ _);(case side2=>exact Nat.le_refl _);rintro e w6 ⟨l,rfl,d,hb⟩;refine⟨_,rfl,?_⟩;have n_:=qn2 (Kd.R_lower d (Qgh qq_b)) (Qgi qq_b hb);clear HB;obtain⟨a,HB⟩:=n_;(try clear hb);(try clear hb2);(try clear hk);(try clear hi);(try clear d)) |((with_reducible refine Qjs (f:=32) rfl ?_);refine Qhs (some 10) rfl rfl Tryz.func32 qq_7 rfl #[] rfl qq_1 ?_;(with_reducible refine(Qar.calls  true _ A2.out).mono ?_);rintro e w7 ⟨rfl,hb⟩;refine⟨_,rfl,?_⟩;have n_:=qn2 (Kd.R_below qq_5 hb) (Qgi qq_b hb);clear a HB;obtain⟨a,HB⟩:=n_;(try clear hb);(try clear hb2);(try clear hk);(try clear hi);obtain⟨Ao8,co8,eo8⟩:=Kd.R_slice a.out;subst eo8))
    go_ret
    exact⟨by first|rfl |(simp[Qjz,Qka]<;>rfl) |(simp[*,Qjz,Qka]<;>rfl),qq_b⟩
   ·rw[if_neg c5]at H;have q:(c == 0)=false:=beq_eq_false_iff_ne.mpr c5;have s:(c != 0)=true:=bne_iff_ne.mpr c5;obtain rfl:=Option.some.inj H
    go_enter Tryz.func42,Tryz.ntmps42
    go_wp2_with (first |((with_reducible refine Qjs (f:=43) rfl ?_);refine Qhs (some 6) rfl rfl Tryz.func43 qq_7 rfl #[.agg #[.int .u8 12,.int .u32 1],.slice none 0 0] rfl qq_1 ?_;(refine(Qcx.calls k 12 1 _ _ ([]:List Int) b c g _ ?side1 ?side2 A1.out).mono ?_);(case side1=>exact Kd.C_nil _ _);(case side2=>exact Nat.le_refl _);rintro e w9 ⟨l,rfl,d,hb⟩;refine⟨_,rfl,?_⟩;have n_:=qn2 (Kd.R_lower d (Qgh qq_b)) (Qgi qq_b hb);clear HB;obtain⟨a,HB⟩:=n_;(try clear hb);(try clear hb2);(try clear hk);(try clear hi);(try clear d)) |((with_reducible refine Qjs (f:=32) rfl ?_);refine Qhs (some 10) rfl rfl Tryz.func32 qq_7 rfl #[] rfl qq_1 ?_;(with_reducible refine(Qar.calls  true _ A2.out).mono ?_);rintro e u ⟨rfl,hb⟩;refine⟨_,rfl,?_⟩;have n_:=qn2 (Kd.R_below qq_5 hb) (Qgi qq_b hb);clear a HB;obtain⟨a,HB⟩:=n_;(try clear hb);(try clear hb2);(try clear hk);(try clear hi);obtain⟨Ao11,co11,eo11⟩:=Kd.R_slice a.out;subst eo11))
    go_ret
    exact⟨by first|rfl |(simp[Qjz,Qka]<;>rfl) |(simp[*,Qjz,Qka]<;>rfl),qq_b⟩
  ·rw[if_neg c4]at H;have o:((b.length:Int) == 0)=false:=beq_eq_false_iff_ne.mpr c4;have p:((b.length:Int) != 0)=true:=bne_iff_ne.mpr c4;have t:¬(b=[]):=fun h_=>c4 (by rw[h_];rfl)
   obtain rfl:=Option.some.inj H
   go_enter Tryz.func42,Tryz.ntmps42
   go_wp2_with (first |((with_reducible refine Qjs (f:=43) rfl ?_);refine Qhs (some 6) rfl rfl Tryz.func43 qq_7 rfl #[.agg #[.int .u8 12,.int .u32 1],.slice none 0 0] rfl qq_1 ?_;(refine(Qcx.calls k 12 1 _ _ ([]:List Int) b c g _ ?side1 ?side2 A1.out).mono ?_);(case side1=>exact Kd.C_nil _ _);(case side2=>exact Nat.le_refl _);rintro e v ⟨l,rfl,d,hb⟩;refine⟨_,rfl,?_⟩;have n_:=qn2 (Kd.R_lower d (Qgh qq_b)) (Qgi qq_b hb);clear HB;obtain⟨a,HB⟩:=n_;(try clear hb);(try clear hb2);(try clear hk);(try clear hi);(try clear d)) |((with_reducible refine Qjs (f:=32) rfl ?_);refine Qhs (some 10) rfl rfl Tryz.func32 qq_7 rfl #[] rfl qq_1 ?_;(with_reducible refine(Qar.calls  true _ A2.out).mono ?_);rintro e x ⟨rfl,hb⟩;refine⟨_,rfl,?_⟩;have n_:=qn2 (Kd.R_below qq_5 hb) (Qgi qq_b hb);clear a HB;obtain⟨a,HB⟩:=n_;(try clear hb);(try clear hb2);(try clear hk);(try clear hi);obtain⟨Ao14,co14,eo14⟩:=Kd.R_slice a.out;subst eo14))
   go_ret
   exact⟨by first|rfl |(simp[Qjz,Qka]<;>rfl) |(simp[*,Qjz,Qka]<;>rfl),qq_b⟩
 ·replace c3:=Bool.eq_false_iff.mpr c3;subst c3;have H1:(some false)=some r:=by rw[if_neg (show ¬(false=true)by decide)]at H;exact H
  clear H;have H:=H1;clear H1;obtain rfl:=Option.some.inj H
  go_enter Tryz.func42,Tryz.ntmps42
  go_wp2_with (first |((with_reducible refine Qjs (f:=43) rfl ?_);refine Qhs (some 6) rfl rfl Tryz.func43 qq_7 rfl #[.agg #[.int .u8 12,.int .u32 1],.slice none 0 0] rfl qq_1 ?_;(refine(Qcx.calls k 12 1 _ _ ([]:List Int) b c g _ ?side1 ?side2 A1.out).mono ?_);(case side1=>exact Kd.C_nil _ _);(case side2=>exact Nat.le_refl _);rintro e y ⟨l,rfl,d,hb⟩;refine⟨_,rfl,?_⟩;have n_:=qn2 (Kd.R_lower d (Qgh qq_b)) (Qgi qq_b hb);clear HB;obtain⟨a,HB⟩:=n_;(try clear hb);(try clear hb2);(try clear hk);(try clear hi);(try clear d)) |((with_reducible refine Qjs (f:=32) rfl ?_);refine Qhs (some 10) rfl rfl Tryz.func32 qq_7 rfl #[] rfl qq_1 ?_;(with_reducible refine(Qar.calls  false _ A2.out).mono ?_);rintro e z ⟨rfl,hb⟩;refine⟨_,rfl,?_⟩;have n_:=qn2 (Kd.R_below qq_5 hb) (Qgi qq_b hb);clear a HB;obtain⟨a,HB⟩:=n_;(try clear hb);(try clear hb2);(try clear hk);(try clear hi)))
  go_ret
  exact⟨by first|rfl |(simp[Qjz,Qka]<;>rfl) |(simp[*,Qjz,Qka]<;>rfl),qq_b⟩
def migrate_Prefix.T5:Bool × List (List Nat × List Nat):=(true,[([],[]),([],[]),([1],[1]),([0,2,2],[0,2]),([3],[3]),([4],[4]),([4],[4]),([5,3,0,1,2,3,4,5],[5]),([6,7,0,1,2,3,4,5,6,7],[6])])
def migrate_Prefix.B5:List Nat:=[0,0,2,7,15,31,31,63,255]
end Go.Proofs.YtnnofopfbeklbaaGreat.C
end
section
namespace Go.Proofs.YtnnofopfbeklbaaGreat.CodecP
open Go.RowKit Go.Proofs.YtnnofopfbeklbaaGreat.C Go.Proofs.YtnnofopfbeklbaaGreatW.PrintWords Go.Proofs.YtnnofopfbeklbaaGreatW.PrintLast Go.Proofs.YtnnofopfbeklbaaGreatW.PrintMore
theorem Qvg(a b:Nat)(ha:a<4294967296)(hb:b<4294967296):Go.bits .or .u32 (a:Int) (b:Int)=((a ||| b:Nat):Int):=by
 have hx:a ||| b<2^32:=Nat.or_lt_two_pow (by omega) (by omega)
 have h1:(BitVec.ofInt 32 (a:Int)).toNat=a:=by
  rw[BitVec.ofInt_natCast,BitVec.toNat_ofNat];exact Nat.mod_eq_of_lt (by omega)
 have h2:(BitVec.ofInt 32 (b:Int)).toNat=b:=by
  rw[BitVec.ofInt_natCast,BitVec.toNat_ofNat];exact Nat.mod_eq_of_lt (by omega)
 show IntKind.u32.wrap ((BitVec.ofInt 32 (a:Int) ||| BitVec.ofInt 32 (b:Int)).toNat:Int)=_;rw[BitVec.toNat_or,h1,h2,IntKind.wrap_u32];omega
theorem Qvh(a b:Nat)(ha:a<4294967296)(hb:b<4294967296):Go.bits .xor .u32 (a:Int) (b:Int)=((a ^^^ b:Nat):Int):=by
 have hx:a ^^^ b<2^32:=Nat.xor_lt_two_pow (by omega) (by omega);have h1:(BitVec.ofInt 32 (a:Int)).toNat=a:=by
  rw[BitVec.ofInt_natCast,BitVec.toNat_ofNat];exact Nat.mod_eq_of_lt (by omega)
 have h2:(BitVec.ofInt 32 (b:Int)).toNat=b:=by
  rw[BitVec.ofInt_natCast,BitVec.toNat_ofNat];exact Nat.mod_eq_of_lt (by omega)
 show IntKind.u32.wrap ((BitVec.ofInt 32 (a:Int) ^^^ BitVec.ofInt 32 (b:Int)).toNat:Int)=_;rw[BitVec.toNat_xor,h1,h2,IntKind.wrap_u32];omega
def rotM(x n:Nat):Nat:=(x%2^(32-n))*2^n+x/2^(32-n)
theorem Qvi(x n:Nat)(hx:x<2^32)(hn:n≤32):rotM x n<2^32:=by
 unfold rotM;have hp:(2:Nat)^(32-n)*2^n=2^32:=by rw[← Nat.pow_add];congr 1;omega
 have h1:x%2^(32-n)<2^(32-n):=Nat.mod_lt _ (Nat.two_pow_pos _);have h2:x/2^(32-n)<2^n:=by rw[Nat.div_lt_iff_lt_mul (Nat.two_pow_pos _),Nat.mul_comm,hp];exact hx
 have h3:(x%2^(32-n))*2^n+2^n≤2^(32-n)*2^n:=by
  rw[← Nat.succ_mul];exact Nat.mul_le_mul_right _ h1
 omega
theorem Qvj(x i:Nat)(hx:x<2^32)(hi:i<32):(2*rotM x i)%2^32+rotM x i/2^31=rotM x (i+1):=by
 unfold rotM;obtain⟨m,hm⟩:∃m,m=31-i:=⟨_,rfl⟩;rw[show 32-i=m+1 by omega,show 32-(i+1)=m by omega];have hp:(2:Nat)^m*2^i=2^31:=by rw[← Nat.pow_add];congr 1;omega
 rw[Nat.pow_succ 2 m,Nat.pow_succ 2 i];generalize hP:(2:Nat)^m=P at *;generalize hQ:(2:Nat)^i=Q at *;have hP0:0<P:=by rw[← hP];exact Nat.two_pow_pos _
 have hQ0:0<Q:=by rw[← hQ];exact Nat.two_pow_pos _
 obtain⟨a,ha⟩:∃a,a=x/(P*2):=⟨_,rfl⟩;obtain⟨b,hb⟩:∃b,b=x%(P*2):=⟨_,rfl⟩;have hxab:x=P*2*a+b:=by rw[ha,hb];exact(Nat.div_add_mod x (P*2)).symm
 have hbl:b<P*2:=by rw[hb];exact Nat.mod_lt _ (by omega)
 have haQ:a<Q:=by
  rw[ha,Nat.div_lt_iff_lt_mul (by omega),Nat.mul_comm,Nat.mul_assoc,Nat.mul_comm 2 Q,← Nat.mul_assoc,hp];omega
 obtain⟨c,hc⟩:∃c,c=b/P:=⟨_,rfl⟩;obtain⟨d,hd⟩:∃d,d=b%P:=⟨_,rfl⟩;have hbcd:b=P*c+d:=by rw[hc,hd];exact(Nat.div_add_mod b P).symm
 have hdl:d<P:=by rw[hd];exact Nat.mod_lt _ hP0
 have hcl:c<2:=by rw[hc,Nat.div_lt_iff_lt_mul hP0,Nat.mul_comm];exact hbl
 have hxP:x/P=2*a+c:=by
  rw[hxab,hbcd,show P*2*a+(P*c+d)=P*(2*a+c)+d by rw[Nat.mul_add,Nat.mul_assoc,Nat.add_assoc],Nat.mul_add_div hP0,Nat.div_eq_of_lt hdl];rfl
 have hxm:x%P=d:=by
  rw[hxab,hbcd,show P*2*a+(P*c+d)=P*(2*a+c)+d by rw[Nat.mul_add,Nat.mul_assoc,Nat.add_assoc],Nat.mul_add_mod,Nat.mod_eq_of_lt hdl]
 rw[← ha,← hb,hxP,hxm];have he:d*Q+a<2^31:=by
  have:d*Q+Q≤P*Q:=by rw[← Nat.succ_mul];exact Nat.mul_le_mul_right _ hdl
  omega
 have hbq:b*Q+a=2^31*c+(d*Q+a):=by
  rw[hbcd,Nat.add_mul,Nat.mul_assoc,Nat.mul_comm c Q,← Nat.mul_assoc,hp,Nat.add_assoc]
 rw[hbq,show d*(Q*2)=2*(d*Q)by rw[← Nat.mul_assoc,Nat.mul_comm]];generalize d*Q=q at *;clear hp hbq hxab hbcd hbl;have:c=0∨c=1:=by omega
 rcases this with rfl|rfl<;>omega
theorem Qvk(x n:Nat)(hx:x<2^32)(h0:0<n)(hn:n<32):rotT (x:Int) (n:Int)=(rotM x n:Nat):=by
 have hand:Go.bits .and .u64 (IntKind.u64.wrap (n:Int)) 31=(n:Int):=by
  rw[IntWalk.u64_in _ (by omega),show(31:Int)=((31:Nat):Int) from rfl,bits_and_u64_nat _ _ (by omega) (by decide)];have:=Nat.and_two_pow_sub_one_eq_mod n 5;rw[show(31:Nat)=2^5-1 from rfl,this,Nat.mod_eq_of_lt (by omega)]
 have h:=Qpy (x:Int) (n:Int) ⟨by omega,by omega,hand⟩;unfold Qac.f at h;rw[hand,if_pos (by omega),IntWalk.u64_in _ (by omega),if_pos (by omega),Option.some_inj]at h;rw[← h];unfold shl shr rotM;have e1:min (n:Int).toNat IntKind.u32.bits=n:=by simp[IntKind.bits];omega
 have e2:min ((32:Int)-(n:Int)).toNat IntKind.u32.bits=32-n:=by simp[IntKind.bits]<;>omega
 rw[e1,e2,IntKind.wrap_u32];have e3:((x:Int)*2^n)%4294967296=(((x%2^(32-n))*2^n:Nat):Int):=by
  rw[← Nat.mul_mod_mul_right,← Nat.pow_add,show 32-n+n=32 by omega];rw[Int.natCast_emod,Int.natCast_mul,Int.natCast_pow];rfl
 have e4:(x:Int)/2^(32-n)=((x/2^(32-n):Nat):Int):=by rw[Int.natCast_ediv,Int.natCast_pow];rfl
 rw[e3,e4];have hp:(2:Nat)^(32-n)*2^n=2^32:=by rw[← Nat.pow_add];congr 1;omega
 have h1:x%2^(32-n)<2^(32-n):=Nat.mod_lt _ (Nat.two_pow_pos _);have h2:x/2^(32-n)<2^n:=by rw[Nat.div_lt_iff_lt_mul (Nat.two_pow_pos _),Nat.mul_comm,hp];exact hx
 have h3:(x%2^(32-n))*2^n+2^n≤2^(32-n)*2^n:=by
  rw[← Nat.succ_mul];exact Nat.mul_le_mul_right _ h1
 have hq:=Nat.two_pow_pos n;rw[Qvg _ _ (by omega) (by omega)]
 congr 1
 rw[Nat.mul_comm,← Nat.two_pow_add_eq_or_of_lt h2]
theorem Qvl(x n:Nat)(hx:x<2^32)(hn:n≤32):Qun (x:Int) n=(rotM x n:Nat):=by
 have key:∀(d i:Nat),i+d=n→Qbb.l0 (d+1) ((rotM x i:Nat):Int) (n:Int) (i:Int)=some ((rotM x n:Nat):Int):=by
  intro d
  induction d with
  | zero =>
   intro i h;unfold Qbb.l0;obtain rfl:i=n:=by omega
   rw[if_neg (by omega)]
  | succ d ih =>
   intro i h;unfold Qbb.l0;rw[if_pos (by omega),show wrap64 ((i:Int)+1)=((i+1:Nat):Int)by unfold wrap64;omega];have hl:=Qvi x i hx (by omega);have hs:=Qvj x i hx (by omega);have e:IntKind.u64.wrap ((Int.tmod (IntKind.u64.wrap (2*((rotM x i:Nat):Int))) 4294967296)+(IntKind.u64.wrap (Int.tdiv ((rotM x i:Nat):Int) 2147483648)))=((rotM x (i+1):Nat):Int):=by
    rw[← hs,Int.tdiv_eq_ediv_of_nonneg (by omega),IntWalk.u64_in (2*((rotM x i:Nat):Int)) (by omega),Int.tmod_eq_emod_of_nonneg (by omega)];generalize rotM x i=y at *;rw[IntWalk.u64_in ((y:Int)/2147483648) (by omega),IntWalk.u64_in _ (by omega)];omega
   rw[e];exact ih (i+1) (by omega)
 have h0:rotM x 0=x:=by simp[rotM,Nat.mod_eq_of_lt hx,Nat.div_eq_of_lt hx]
 have:=key n 0 (by omega);rw[h0]at this;unfold Qun Qbb.f;rw[show((0:Nat):Int)=0 from rfl]at this;rw[this];rfl
def R32(x:Int):Prop:=0≤x∧x<4294967296
theorem Qvm(x:Int)(n:Nat)(hx:R32 x)(h0:0<n)(hn:n<32):Qun x n=rotT x (n:Int)∧R32 (rotT x (n:Int)):=by
 obtain⟨y,rfl⟩:=Int.eq_ofNat_of_zero_le hx.1;have hy:=hx.2;have:=Qvi y n (by omega) (by omega);rw[Qvl y n (by omega) (by omega),Qvk y n (by omega) h0 hn];unfold R32;exact⟨rfl,by omega⟩
theorem em32(x:Int):R32 (x%4294967296):=by unfold R32;omega
theorem tm32{x:Int}(h:0≤x):Int.tmod x 4294967296=x%4294967296:=Int.tmod_eq_emod_of_nonneg h
theorem Qvn(x y:Int)(hx:R32 x)(hy:R32 y):Qup x y=Qqa x y∧R32 (Qqa x y):=by
 unfold Qup Qaz.f Qqa;have hx1:=hx.1;have hx2:=hx.2;have hy1:=hy.1;have hy2:=hy.2;have h1:IntKind.u64.wrap (x+(IntKind.u64.wrap (y*2246822519)))=x+y*2246822519:=by rw[IntWalk.u64_in (y*2246822519) (by omega),IntWalk.u64_in _ (by omega)]
 have h2:IntKind.u32.wrap (x+IntKind.u32.wrap (y*2246822519))=(x+y*2246822519)%4294967296:=by simp only[IntKind.wrap_u32];omega
 rw[show(14:Nat)=13+1 from rfl,show(13:Int)=((13:Nat):Int) from rfl,h1,tm32 (by omega),Quo _ 13 (by omega),h2];obtain⟨e1,e2,e3⟩:=Qvm ((x+y*2246822519)%4294967296) 13 (em32 _) (by omega) (by omega);rw[e1];generalize rotT ((x+y*2246822519)%4294967296) ((13:Nat):Int)=z at *;refine⟨?_,by rw[IntKind.wrap_u32];exact em32 _⟩;show Int.tmod (IntKind.u64.wrap (z*2654435761)) 4294967296=_;rw[IntWalk.u64_in _ (by omega),tm32 (by omega),IntKind.wrap_u32]
theorem Qvo(l:List Int)(hb:Bytes l)(hl:4≤l.length):numT l=leI (l.take 4):=by
 obtain⟨a,b,c,d,r,rfl⟩:∃a b c d r,l=a :: b :: c :: d :: r:=by
  match l,hl with
  | a :: b :: c :: d :: r,_=>exact⟨a,b,c,d,r,rfl⟩
 have ha:=hb a (by simp);have hb':=hb b (by simp);have hc:=hb c (by simp);have hd:=hb d (by simp);have h:=Qpz (a :: b :: c :: d :: r) hl;unfold Qdl.f at h;rw[if_pos (by simp only[List.length_cons];omega),if_pos (by simp only[List.length_cons];omega),if_pos (by simp only[List.length_cons];omega),if_pos (by simp only[List.length_cons];omega),Option.some_inj]at h;rw[← h];have r0:rd (a :: b :: c :: d :: r) 0=a:=rfl;have r1:rd (a :: b :: c :: d :: r) 1=b:=rfl;have r2:rd (a :: b :: c :: d :: r) 2=c:=rfl;have r3:rd (a :: b :: c :: d :: r) 3=d:=rfl;rw[r0,r1,r2,r3];simp only[List.take_succ_cons,List.take_zero,leI];obtain⟨a,rfl⟩:=Int.eq_ofNat_of_zero_le ha.1;obtain⟨b,rfl⟩:=Int.eq_ofNat_of_zero_le hb'.1;obtain⟨c,rfl⟩:=Int.eq_ofNat_of_zero_le hc.1;obtain⟨d,rfl⟩:=Int.eq_ofNat_of_zero_le hd.1;clear h r0 r1 r2 r3 hb hl;have e1:(((b:Int)%4294967296)*256)%4294967296=((2^8*b:Nat):Int):=by omega
 have e2:(((c:Int)%4294967296)*65536)%4294967296=((2^16*c:Nat):Int):=by omega
 have e3:(((d:Int)%4294967296)*16777216)%4294967296=((2^24*d:Nat):Int):=by omega
 have e0:(a:Int)%4294967296=(a:Int):=by omega
 rw[e0,e1,e2,e3,Qvg _ _ (by omega) (by omega)];have o1:a ||| 2^8*b=2^8*b+a:=by rw[Nat.or_comm,← Nat.two_pow_add_eq_or_of_lt (by omega)]
 rw[o1,Qvg _ _ (by omega) (by omega)];have o2:2^8*b+a ||| 2^16*c=2^16*c+(2^8*b+a):=by rw[Nat.or_comm,← Nat.two_pow_add_eq_or_of_lt (by omega)]
 rw[o2,Qvg _ _ (by omega) (by omega)];have o3:2^16*c+(2^8*b+a) ||| 2^24*d=2^24*d+(2^16*c+(2^8*b+a)):=by rw[Nat.or_comm,← Nat.two_pow_add_eq_or_of_lt (by omega)]
 rw[o3];omega
theorem numT_r(l:List Int)(hb:Bytes l)(hl:4≤l.length):R32 (numT l):=by
 rw[Qvo l hb hl];have:=leI_range (hb.take 4);rw[List.length_take,Nat.min_eq_left hl]at this;unfold R32;omega
theorem Qvp(s:ByteArray)(a:Nat)(h:a+4≤s.size):rval (s.extract a (a+4))=numT ((bytesOf s).drop a):=by
 rw[Qos s a (a+4) (by omega),Qvo _ ((Qok s).drop a) (by rw[List.length_drop,Qeb];omega),Nat.add_sub_cancel_left]
theorem Qvq(s:ByteArray)(a:Nat)(h:a+4≤s.size):R32 (numT ((bytesOf s).drop a)):=numT_r _ ((Qok s).drop a) (by rw[List.length_drop,Qeb];omega)
def RV32(v:V4):Prop:=R32 v.1∧R32 v.2.1∧R32 v.2.2.1∧R32 v.2.2.2
theorem Qvr(v:V4)(s:ByteArray)(hv:RV32 v)(h:16≤s.size):Quw v s=Qqb v (bytesOf s)∧RV32 (Qqb v (bytesOf s)):=by
 obtain⟨h1,h2,h3,h4⟩:=hv;have n0:=Qvp s 0 (by omega);have n1:=Qvp s 4 (by omega);have n2:=Qvp s 8 (by omega);have n3:=Qvp s 12 (by omega);have d0:=Qvq s 0 (by omega);have i0:=Qvn v.1 _ h1 d0;have i1:=Qvn v.2.1 _ h2 (Qvq s 4 (by omega));have i2:=Qvn v.2.2.1 _ h3 (Qvq s 8 (by omega));have i3:=Qvn v.2.2.2 _ h4 (Qvq s 12 (by omega));rw[List.drop_zero]at i0 n0;refine⟨?_,i0.2,i1.2,i2.2,i3.2⟩;unfold Quw Qqb;rw[Nat.zero_add]at n0;rw[n0,n1,n2,n3,i0.1,i1.1,i2.1,i3.1]
theorem Qvs:∀(m:Nat) (v:V4) (s:ByteArray),16*m≤s.size→RV32 v→(run3 m v s).1=Qqc m v (bytesOf s)∧bytesOf (run3 m v s).2=(bytesOf s).drop (16*m)∧RV32 (Qqc m v (bytesOf s))
 | 0,v,s,_,hv=>⟨rfl,by simp[run3],hv⟩
 | m+1,v,s,h,hv=>by
  have hsz:(s.extract 16 s.size).size=s.size-16:=by simp
  have hb:bytesOf (s.extract 16 s.size)=(bytesOf s).drop 16:=Qpf s 16;obtain⟨e1,e2⟩:=Qvr v s hv (by omega);obtain⟨h1,h2,h3⟩:=Qvs m (Quw v s) (s.extract 16 s.size) (by omega) (by rw[e1];exact e2);rw[hb,e1]at h1 h3;refine⟨?_,?_,h3⟩
  ·show(run3 m (Quw v s) (s.extract 16 s.size)).1=Qqc m (Qqb v (bytesOf s)) ((bytesOf s).drop 16);rw[e1];exact h1
  ·show bytesOf (run3 m (Quw v s) (s.extract 16 s.size)).2=_;rw[h2,hb,List.drop_drop]
   congr 1
   omega
theorem Qvt(sd:Int)(h:R32 sd):Qux sd=V0T sd∧RV32 (V0T sd):=by
 have h0:=h.1;have h1:=h.2;refine⟨?_,em32 _,em32 _,h,em32 _⟩;unfold Qux V0T;rw[IntWalk.u64_in sd (by omega),IntWalk.u64_in (sd+2654435761) (by omega),IntWalk.u64_in (sd+2654435761+2246822519) (by omega),IntWalk.u64_in (sd+2246822519) (by omega),IntWalk.u64_in (sd+4294967296) (by omega),IntWalk.u64_in (sd+4294967296-2654435761) (by omega),tm32 (by omega),tm32 (by omega),tm32 (by omega)];rw[show(sd+4294967296-2654435761)%4294967296=(sd-2654435761)%4294967296 by omega]
theorem Qvu(V:V4)(hV:RV32 V):sum3 V=sumT V∧R32 (sumT V):=by
 obtain⟨h1,h2,h3,h4⟩:=hV;obtain⟨a1,a2,a3⟩:=Qvm V.1 1 h1 (by omega) (by omega);obtain⟨b1,b2,b3⟩:=Qvm V.2.1 7 h2 (by omega) (by omega);obtain⟨c1,c2,c3⟩:=Qvm V.2.2.1 12 h3 (by omega) (by omega);obtain⟨d1,d2,d3⟩:=Qvm V.2.2.2 18 h4 (by omega) (by omega);unfold sum3 sumT;rw[a1,b1,c1,d1];rw[show((1:Nat):Int)=1 from rfl]at *;rw[show((7:Nat):Int)=7 from rfl]at *;rw[show((12:Nat):Int)=12 from rfl]at *;rw[show((18:Nat):Int)=18 from rfl]at *;generalize rotT V.1 1=a at *;generalize rotT V.2.1 7=b at *;generalize rotT V.2.2.1 12=c at *;generalize rotT V.2.2.2 18=d at *;rw[IntWalk.u64_in (a+b) (by omega),IntWalk.u64_in (a+b+c) (by omega),IntWalk.u64_in (a+b+c+d) (by omega),tm32 (by omega)];simp only[IntKind.wrap_u32];exact⟨by omega,em32 _⟩
theorem Qvv(sd:Int)(s:ByteArray)(h:R32 sd):(Quz sd s).1=(Qqd sd (bytesOf s)).1∧bytesOf (Quz sd s).2=(Qqd sd (bytesOf s)).2∧R32 (Qqd sd (bytesOf s)).1:=by
 unfold Quz Qqd;rw[Qeb]
 by_cases h16:16≤s.size
 ·rw[if_pos h16,if_neg (by omega)];obtain⟨i1,i2⟩:=Qvt sd h;obtain⟨r1,r2,r3⟩:=Qvs (s.size/16) (V0T sd) s (by omega) i2;obtain⟨s1,s2⟩:=Qvu _ r3;rw[i1];dsimp only;exact⟨by rw[r1,s1],r2,s2⟩
 ·rw[if_neg h16,if_pos (by omega)];have h0:=h.1;have h1:=h.2;dsimp only;refine⟨?_,rfl,em32 _⟩;rw[IntWalk.u64_in sd (by omega),IntWalk.u64_in _ (by omega),tm32 (by omega)]
theorem Qvw(h:Int)(s:ByteArray)(hh:R32 h)(hs:4≤s.size):Qva h s=Qqh h (bytesOf s)∧R32 (Qqh h (bytesOf s)):=by
 have n0:=Qvp s 0 (by omega);have d0:=Qvq s 0 (by omega);rw[List.drop_zero]at n0 d0;rw[Nat.zero_add]at n0;unfold Qva Qqh;rw[n0];generalize numT (bytesOf s)=x at *;have h0:=hh.1;have h1:=hh.2;have x0:=d0.1;have x1:=d0.2;rw[IntWalk.u64_in (x*3266489917) (by omega),IntWalk.u64_in (h+x*3266489917) (by omega),tm32 (x:=h+x*3266489917) (by omega)];obtain⟨e1,e2,e3⟩:=Qvm ((h+x*3266489917)%4294967296) 17 (em32 _) (by omega) (by omega);rw[e1];rw[show((17:Nat):Int)=17 from rfl]at *;generalize rotT ((h+x*3266489917)%4294967296) 17=z at *;rw[IntWalk.u64_in _ (by omega),tm32 (by omega)];exact⟨rfl,em32 _⟩
theorem Qvx:∀(m:Nat) (h:Int) (s:ByteArray),4*m≤s.size→R32 h→(Qvb m h s).1=Qqi m h (bytesOf s)∧bytesOf (Qvb m h s).2=(bytesOf s).drop (4*m)∧R32 (Qqi m h (bytesOf s))
 | 0,h,s,_,hv=>⟨rfl,by simp[Qvb],hv⟩
 | m+1,h,s,hs,hv=>by
  have hsz:(s.extract 4 s.size).size=s.size-4:=by simp
  have hb:bytesOf (s.extract 4 s.size)=(bytesOf s).drop 4:=Qpf s 4;obtain⟨e1,e2⟩:=Qvw h s hv (by omega);obtain⟨h1,h2,h3⟩:=Qvx m (Qva h s) (s.extract 4 s.size) (by omega) (by rw[e1];exact e2);rw[hb,e1]at h1 h3;refine⟨?_,?_,h3⟩
  ·show(Qvb m (Qva h s) (s.extract 4 s.size)).1=Qqi m (Qqh h (bytesOf s)) ((bytesOf s).drop 4);rw[e1];exact h1
  ·show bytesOf (Qvb m (Qva h s) (s.extract 4 s.size)).2=_;rw[h2,hb,List.drop_drop]
   congr 1
   omega
theorem Qvy(h x:Int)(hh:R32 h)(hx:0≤x∧x<256):one3 h x=oneT h x∧R32 (oneT h x):=by
 unfold one3 oneT;have h0:=hh.1;have h1:=hh.2;rw[IntWalk.u64_in x (by omega),IntWalk.u64_in (x*374761393) (by omega),IntWalk.u64_in (h+x*374761393) (by omega),tm32 (x:=h+x*374761393) (by omega),show x%4294967296=x by omega];obtain⟨e1,e2,e3⟩:=Qvm ((h+x*374761393)%4294967296) 11 (em32 _) (by omega) (by omega);rw[e1];rw[show((11:Nat):Int)=11 from rfl]at *;generalize rotT ((h+x*374761393)%4294967296) 11=z at *;rw[IntWalk.u64_in _ (by omega),tm32 (by omega)];exact⟨rfl,em32 _⟩
theorem Qvz:∀(l:List Int) (h:Int),Bytes l→R32 h→l.foldl one3 h=l.foldl oneT h∧R32 (l.foldl oneT h)
 | [],h,_,hh=>⟨rfl,hh⟩
 | x :: l,h,hb,hh=>by
  obtain⟨e1,e2⟩:=Qvy h x hh (hb x (by simp));have:=Qvz l (oneT h x) (fun y hy=>hb y (List.mem_cons_of_mem _ hy)) e2;rw[List.foldl_cons,List.foldl_cons,e1];exact this
theorem Qwa(x n:Nat)(hx:x<4294967296)(hn:n≤32):Qus (x:Int) n=((x ^^^ x/2^n:Nat):Int):=by
 have key:∀(d i:Nat),i+d=n→Qba.l0 (d+1) (x:Int) ((x/2^i:Nat):Int) (n:Int) (i:Int)=some ((x ^^^ x/2^n:Nat):Int):=by
  intro d
  induction d with
  | zero =>
   intro i h;unfold Qba.l0;obtain rfl:i=n:=by omega
   have:=Nat.div_le_self x (2^i);rw[if_neg (by omega),bits_xor_u64_nat _ _ (by omega) (by omega)]
  | succ d ih =>
   intro i h;unfold Qba.l0;have hq:=Nat.div_le_self x (2^i);rw[if_pos (by omega),show wrap64 ((i:Int)+1)=((i+1:Nat):Int)by unfold wrap64;omega,Int.tdiv_eq_ediv_of_nonneg (Int.natCast_nonneg _)];have e:IntKind.u64.wrap (((x/2^i:Nat):Int)/2)=((x/2^(i+1):Nat):Int):=by
    rw[Nat.pow_succ,← Nat.div_div_eq_div_mul];generalize x/2^i=y at *;rw[IntWalk.u64_in _ (by omega)];omega
   rw[e];exact ih (i+1) (by omega)
 have h:=key n 0 (by omega);unfold Qus Qba.f;rw[Nat.pow_zero,Nat.div_one,show((0:Nat):Int)=0 from rfl]at h;rw[h];rfl
theorem xor_r(x n:Nat)(hx:x<4294967296):x ^^^ x/2^n<4294967296:=by
 have:=Nat.div_le_self x (2^n);have h:=Nat.xor_lt_two_pow (x:=x) (y:=x/2^n) (n:=32) (by omega) (by omega);omega
theorem Qwb(x:Int)(n:Nat)(p q:Int)(hx:R32 x)(hn:n≤32)(hp:0≤p∧p<4294967296)(hq:q=((2^n:Nat):Int)):Int.tmod (IntKind.u64.wrap (Qus x n*p)) 4294967296=mixT x q p∧R32 (mixT x q p):=by
 obtain⟨y,rfl⟩:=Int.eq_ofNat_of_zero_le hx.1;have hy:=hx.2;have hr:=xor_r y n (by omega);have hdiv:=Nat.div_le_self y (2^n);subst hq;unfold mixT;rw[Qwa y n (by omega) hn,← Int.natCast_ediv,Qvh _ _ (by omega) (by omega)];generalize y ^^^ y/2^n=z at *;refine⟨?_,em32 _⟩;have hz:(z:Int)*p<18446744073709551616:=by
  have h1:(z:Int)*p≤(z:Int)*4294967295:=Int.mul_le_mul_of_nonneg_left (by omega) (by omega);omega
 have hz0:0≤(z:Int)*p:=Int.mul_nonneg (by omega) hp.1;rw[IntWalk.u64_in _ ⟨hz0,by omega⟩,tm32 hz0]
theorem Qwc(h:Int)(hh:R32 h):fin3 h=finT h∧R32 (finT h):=by
 unfold fin3 finT;obtain⟨a1,a2⟩:=Qwb h 15 2246822519 32768 hh (by omega) (by omega) (by decide);rw[a1];obtain⟨b1,b2⟩:=Qwb _ 13 3266489917 8192 a2 (by omega) (by omega) (by decide);rw[b1];generalize mixT (mixT h 32768 2246822519) 8192 3266489917=x at *;obtain⟨y,rfl⟩:=Int.eq_ofNat_of_zero_le b2.1;have hy:=b2.2;have hr:=xor_r y 16 (by omega);have hdiv:=Nat.div_le_self y (2^16);rw[Qwa y 16 (by omega) (by omega),show(65536:Int)=((2^16:Nat):Int)by decide,← Int.natCast_ediv,Qvh _ _ (by omega) (by omega)];exact⟨rfl,by unfold R32;omega⟩
theorem Qwd(sd:Int)(s:ByteArray)(hsd:R32 sd)(hs:s.size≤4611686018427387904):doc3 sd s=Qqk sd (bytesOf s)∧R32 (Qqk sd (bytesOf s)):=by
 obtain⟨s1,s2,s3⟩:=Qvv sd s hsd;unfold doc3 Qvd Qve Qqk;rw[Qeb];dsimp only;have hlen:(Quz sd s).2.size/4=(Qqd sd (bytesOf s)).2.length/4:=by rw[← s2,Qeb]
 have hl2:(Qqd sd (bytesOf s)).2.length=(Quz sd s).2.size:=by rw[← s2,Qeb]
 rw[s1];have e0:=s3.1;have e1:=s3.2;generalize (Qqd sd (bytesOf s)).1=h0 at *;rw[IntWalk.u64_in _ (by omega),tm32 (by omega)];have hm:=em32 (h0+(s.size:Int)%4294967296);generalize (h0+(s.size:Int)%4294967296)%4294967296=x at *;unfold Qvc Qqj;obtain⟨f1,f2,f3⟩:=Qvx ((Quz sd s).2.size/4) x (Quz sd s).2 (by omega) hm;rw[s2]at f1 f2 f3;rw[f1,f2,hl2];have hb:Bytes (Qqd sd (bytesOf s)).2:=by rw[← s2];exact Qok _
 obtain⟨o1,o2⟩:=Qvz ((Qqd sd (bytesOf s)).2.drop (4*((Quz sd s).2.size/4))) _ (hb.drop _) f3;rw[o1];exact Qwc _ o2
theorem doc_same(sd:Int)(s:ByteArray)(hsd:R32 sd)(hs:s.size≤4611686018427387904):IntKind.u32.wrap (doc3 sd s)=Qqk sd (bytesOf s):=by
 obtain⟨h1,h2⟩:=Qwd sd s hsd hs;have a:=h2.1;have b:=h2.2;rw[h1,IntWalk.u32_in _ (by omega)]
end Go.Proofs.YtnnofopfbeklbaaGreat.CodecP
end
