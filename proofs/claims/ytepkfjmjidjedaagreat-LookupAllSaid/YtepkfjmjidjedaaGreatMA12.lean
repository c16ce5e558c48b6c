/- Merged texts. -/
import Derived.Test.YtepkfjmjidjedaaGreatMA02
import Derived.Test.YtepkfjmjidjedaaGreatMA03
import Derived.Test.YtepkfjmjidjedaaGreatMA08
import Derived.Test.YtepkfjmjidjedaaGreatMA06
import Derived.Test.YtepkfjmjidjedaaGreatMA11
import Derived.Test.YtepkfjmjidjedaaGreatMA10
import Derived.Test.YtepkfjmjidjedaaGreatMA09
set_option linter.unusedVariables false
set_option linter.unusedSimpArgs false
set_option maxHeartbeats 8000000
set_option maxRecDepth 100000
section
namespace Go.Proofs.YtepkfjmjidjedaaGreat.C
open Go.RowKit Go.Proofs.YtepkfjmjidjedaaGreatW.PrintWords Go.Proofs.YtepkfjmjidjedaaGreatW.PrintLast Go.Proofs.YtepkfjmjidjedaaGreatW.PrintMore
def ltE(x y:Ent):Bool:=decide (cfE x y<0)
def Qnh:List Ent→Bool
 | []=>true
 | [_]=>true
 | a :: b :: t=>ltE a b && Qnh (b :: t)
theorem rdE(l:List Ent)(i:Nat)(h:i<l.length):Qio l (i:Int)=l[i]:=by simp[Qio,List.getElem?_eq_getElem h]
theorem Qni(x y:Ent)(k:Nat)(hk:4≤k):Qcd.f k x.f0 x.f1 y.f0 y.f1=some (cfE x y):=by
 unfold Qcd.f;rw[Qma,Option.bind_some,Qmb,Option.bind_some,Qcy (g:=fun k=>Qai.f k [ci x.f0 y.f0,ci x.f1 y.f1]) (Qai.mono _) hk (or_is _ _),Option.bind_some,Qmc]
theorem Qnj{l:List Ent}{i:Nat}(h:i+1<l.length):Qnh (l.drop i)=(ltE l[i] l[i+1] && Qnh (l.drop (i+1))):=by
 rw[List.drop_eq_getElem_cons (by omega),List.drop_eq_getElem_cons h];rfl
theorem Qnk(l:List Ent)(hl:l.length≤1099511627776):∀(d i k:Nat),i+d=l.length→1≤i→d+6≤k→Qcf.l0 k l (i:Int)=some (Qnh (l.drop (i-1)))
 | 0,i,k,h,hi,hk=>by
  obtain⟨k,rfl⟩:∃m,k=m+1:=⟨k-1,by omega⟩;unfold Qcf.l0;rw[if_neg (by omega)];have h1:(l.drop (i-1)).length≤1:=by rw[List.length_drop];omega
  match hd:l.drop (i-1),h1 with
  | [],_=>rfl
  | [_],_=>rfl
 | d+1,i,k,h,hi,hk=>by
  obtain⟨k,rfl⟩:∃m,k=m+1:=⟨k-1,by omega⟩;obtain⟨j,rfl⟩:∃j,i=j+1:=⟨i-1,by omega⟩;have w1:wrap64 (((j+1:Nat):Int)-1)=(j:Int):=by unfold wrap64;omega
  have w2:wrap64 (((j+1:Nat):Int)+1)=((j+2:Nat):Int):=by unfold wrap64;omega
  unfold Qcf.l0;rw[w1,w2,rdE l (j+1) (by omega),rdE l j (by omega)];rw[if_pos (by omega)];clear w1 w2;have hc:=Qni l[j] l[j+1] k (by omega);have ih:=Qnk l hl d (j+2) k (by omega) (by omega) (by omega);rw[show j+2-1=j+1 by omega]at ih;rw[show j+1-1=j by omega,Qnj (by omega)];simp only[if_pos (show(0:Int)≤(j:Int)by omega),if_pos (show(j:Int)<(l.length:Int)by omega),if_pos (show(0:Int)≤((j+1:Nat):Int)by omega),if_pos (show((j+1:Nat):Int)<(l.length:Int)by omega),hc,Option.bind_some,ih];unfold ltE
  by_cases h0:cfE l[j] l[j+1]<0
  ·simp[h0,show ¬(0≤cfE l[j] l[j+1])by omega]
  ·simp[h0,show(0≤cfE l[j] l[j+1])by omega]
theorem Qnl(l:List Ent)(hl:l.length≤1099511627776):Qcf.f (l.length+8) l=some (Qnh l):=by
 unfold Qcf.f
 rcases Nat.eq_zero_or_pos l.length with h0|h0
 ·have h1:l=[]:=List.eq_nil_of_length_eq_zero h0;subst h1;rfl
 ·exact Qnk l hl (l.length-1) 1 (l.length+8) (by omega) (by omega) (by omega)
def Qnm(used:Int)(l:List Ent):Int:=if l.length=0 then 4 else if 1048576<l.length then 3 else if Qnh l=false then 8 else if l.any (fun x=>decide (used≤x.f1))=true then 4 else 0
theorem Qnn(used:Int)(tv:Value)(B:Nat)(w:World)(hv:w.heap[B]? = some (.cells #[.int .u32 used,tv] 169 (0,0))) :
  PredBelow Tryz.prog 199 #[.pointer (some ⟨B,0,none⟩)] (fun x=>.agg (encE x).toArray) (fun x=>decide (used≤x.f1)) w:=fun W x hb=>by
 have hB:=Qde hv;have hc:W.cell? ⟨B,0,none⟩=some (.int .u32 used):=(Qdf (Qds hv hb) 0).trans rfl;have hne:B≠W.heap.size:=by have:=hb.size;omega
 have hu:=Tryz.underlying177;have hu2:=Tryz.underlying169;have hBW:B<W.heap.size:=Nat.lt_of_lt_of_le hB hb.size;show Calls Tryz.prog 199 #[.agg #[.int .u64 x.f0,.int .u32 x.f1],.pointer (some ⟨B,0,none⟩)] W _;have b1:=Qdt W (.cells #[.int .u64 x.f0,.int .u32 x.f1] 177);have hb1:Below W.heap.size W (W.alloc (.cells #[.int .u64 x.f0,.int .u32 x.f1] 177)):=Qci (Below.refl _ _) _;have hca:(W.alloc (.cells #[.int .u64 x.f0,.int .u32 x.f1] 177)).cell? ⟨B,0,none⟩=some (.int .u32 used):=(Qdf (Qdp (Qds hv hb) _) 0).trans rfl;have hcb:(W.alloc (.cells #[.int .u64 x.f0,.int .u32 x.f1] 177)).cell? ⟨W.heap.size,1,none⟩=some (.int .u32 x.f1):=(Qdf b1 1).trans rfl
 go_enter Tryz.func199,Tryz.ntmps199
 go_wp2;go_ret
 exact⟨rfl,hb.alloc hb.size _⟩
theorem Qno(b:Nat)(used:Int)(A:Option Addr)(n c:Nat)(l:List Ent)(w:World)(hn:n=l.length)(hR:RE w b (.slice A n c) l)(hl:l.length≤1099511627776) :
  Calls Tryz.prog 140 #[.agg #[.int .u32 used,.slice A n c]] w fun e w'=>e=.returned (.int .i64 (Qnm used l))∧Below w.heap.size w w':=by
 have hu:=Tryz.underlying169;have hmf:∀(fn:Fn) (first cap:Array Value) (w:World),(Instr.makeFunc fn first cap).run Tryz.prog w=.ok (.func fn first cap) w:=fun _ _ _ _=>rfl
 have hb1:Below w.heap.size w (w.alloc (.cells #[.int .u32 used,.slice A n c] 169)):=Qci (Below.refl _ _) _;have bk:=Qdt w (.cells #[.int .u32 used,.slice A n c] 169);have hc0:(w.alloc (.cells #[.int .u32 used,.slice A n c] 169)).cell? ⟨w.heap.size,0,none⟩=some (.int .u32 used):=(Qdf bk 0).trans rfl;have hc1:(w.alloc (.cells #[.int .u32 used,.slice A n c] 169)).cell? ⟨w.heap.size,1,none⟩=some (.slice A n c):=(Qdf bk 1).trans rfl;have HR:=QA hR;have HN:=QA hn;have hk:Calls Tryz.prog 140 #[.agg #[.int .u32 used,.slice A n c]] w fun e w'=>e=.returned (.int .i64 (if n=0 then 4 else if 1048576<n then 3 else if Qnh l=false then 8 else if l.any (fun x=>decide (used≤x.f1))=true then 4 else 0))∧Below w.heap.size w w':=by
  by_cases h0:n=0
  ·rw[if_pos h0];have e0:((n:Int) == 0)=true:=beq_iff_eq.2 (by omega);have E0:=QA h0;clear h0 hn hR hl
   go_enter Tryz.func140,Tryz.ntmps140
   go_wp2;go_ret
   exact⟨rfl,hb1⟩
  rw[if_neg h0];have e0:((n:Int) == 0)=false:=beq_eq_false_iff_ne.2 (by omega)
  by_cases h1:1048576<n
  ·rw[if_pos h1];have e1:decide ((1048576:Int)<(n:Int))=true:=decide_eq_true (by omega);clear hn hR hl h0
   go_enter Tryz.func140,Tryz.ntmps140
   go_wp2;go_ret
   exact⟨rfl,hb1⟩
  rw[if_neg h1];have e1:decide ((1048576:Int)<(n:Int))=false:=decide_eq_false (by omega);have hris:=Qnl l hl;have HRI:=QA hris;have hC:Kd.C k177 (w.alloc (.cells #[.int .u32 used,.slice A n c] 169)) A n l:=by
   have h:=Kd.R_reads' hR;rw[hn];exact Kd.C_alloc h.2.2 _
  have hcap:n≤c:=(Kd.R_reads' hR).2.1;have hpos:0<l.length:=by omega
  obtain⟨g,cap,hf,hbg,hgl,cells,hgc⟩:=Kd.R_form hR hpos
  injection hf with hf1 hf2 hf3
  subst hf1;obtain⟨r,hr⟩:∃r,r=Qnh l:=⟨_,rfl⟩;rw[← hr]at HRI ⊢;clear hr;have hcall:∀W,Kd.C k177 W (some ⟨g,0,none⟩) n l→Calls Tryz.prog 200 #[.slice (some ⟨g,0,none⟩) n c] W fun e w'=>e=.returned (.bool r)∧Below W.heap.size W w':=by
   intro W hCW;have hcw2:=hCW;rw[hn]at hCW ⊢;exact Qcf.calls _ _ c l r W hCW (by omega) HRI.out
  have HCL:=QA hcall;have HC:=QA hC;clear hris hcall hC hn hgc hf2 hf3
  cases r with
  | false =>
   rw[if_pos rfl];clear hR hl h0 h1
   go_enter Tryz.func140,Tryz.ntmps140
   go_wp2_with (go_at_call 200;refine(HCL.out _ HC.out).mono ?_;rintro e w1 ⟨rfl,hb2⟩)
   go_ret
   exact⟨rfl,Qcl hb1 hb1.size hb2⟩
  | true =>
   rw[if_neg (by decide)];obtain⟨q,hq⟩:∃q,q=l.any (fun x=>decide (used≤x.f1)):=⟨_,rfl⟩;rw[← hq];have eg:∀args w,(callFunc 199 args).run Tryz.prog w=.ok (.enter 199 args) w:=enters_of Tryz.func199 qq_5 rfl;have hany:∀W1:World,Below (w.alloc (.cells #[.int .u32 used,.slice (some ⟨g,0,none⟩) n c] 169)).heap.size (w.alloc (.cells #[.int .u32 used,.slice (some ⟨g,0,none⟩) n c] 169)) W1 →
     Calls Tryz.prog 201 #[.slice (some ⟨g,0,none⟩) n c,.func (.func 199) #[] #[.pointer (some ⟨w.heap.size,0,none⟩)]] W1 fun e w'=>e=.returned (.bool q)∧Below W1.heap.size W1 w':=by
    intro W1 hW1;have hRW:=Kd.R_below (Kd.R_below HR.out hb1) hW1;have hown:=RE.own hRW;have hH:=Qmz (b:=b) (g:=g) (cap:=c) (l:=l) (by rw[← HN.out];rw[← HN.out]at hown;exact hown);have hcon:=AnyQ.slices_ContainsFunc Tryz.hasEnt 2 Tryz.isAgg177 Tryz.sizeOf177 encE (fun _=>rfl) (fun x=>decide (used≤x.f1)) 199 #[.pointer (some ⟨w.heap.size,0,none⟩)] eg g 0 n c l W1
     (Qnn used _ w.heap.size W1 (Qds bk hW1)) qq_22 qq_22 (by have:=hW1.size;rw[World.size_alloc]at this;omega) (fun j hj i v hv=>by
      have h2:=Qms l j;have hjl:l[j]? = some l[j]!:=by rw[List.getElem?_eq_getElem hj,getElem!_pos l j hj]
      rw[hjl]at h2;generalize l[j]! = x at *;have key:(Qmp l)[2*j+i]? = some v:=by
       match i,hv with
       | 0,hv=>simp[encE]at hv;rw[← hv];exact h2.1
       | 1,hv=>simp[encE]at hv;rw[← hv];exact h2.2
       | i+2,hv=>simp[encE]at hv
      have hlt:j*2+i<l.length*2:=by
       have:=(List.getElem?_eq_some_iff.1 key).1;rw[Qmq]at this;omega
      rcases hown.2 with⟨hn',_⟩ |⟨g',cap',cur,he,hb',hh,hh1,hh2,hh3,hh4⟩
      ·cases hn'
      cases he
      have h5:(cur.toList.take (l.length*2))[j*2+i]? = (Qmp l)[j*2+i]?:=by rw[hh4]
      rw[List.getElem?_take_of_lt hlt]at h5;simp only[World.cell?,hh,Nat.zero_add];simp only[Option.isSome_none,Bool.false_eq_true,if_false];rw[← Array.getElem?_toList,h5,show j*2+i=2*j+i by omega,key])
    rw[List.take_of_length_le qq_22,← hq]at hcon;exact hcon
   have HA:=QA hany;clear hany hR hl h0 h1 hq eg
   cases q with
   | true =>
    rw[if_pos rfl]
    go_enter Tryz.func140,Tryz.ntmps140
    go_wp2_with (first
     |(go_at_call 200;refine(HCL.out _ HC.out).mono ?_;rintro e w1 ⟨rfl,hb2⟩;have hk2:=Qds bk hb2;have hd1:w1.cell? ⟨w.heap.size,1,none⟩=some (.slice (some ⟨g,0,none⟩) n c):=(Qdf hk2 1).trans rfl)
     |(go_at_call 201;refine(HA.out _ hb2).mono ?_;rintro e w2 ⟨rfl,hb3⟩))
    go_ret
    exact⟨rfl,Qcl (Qcl hb1 hb1.size hb2) (Nat.le_trans hb1.size hb2.size) hb3⟩
   | false =>
    rw[if_neg (by decide)]
    go_enter Tryz.func140,Tryz.ntmps140
    go_wp2_with (first
     |(go_at_call 200;refine(HCL.out _ HC.out).mono ?_;rintro e w1 ⟨rfl,hb2⟩;have hk2:=Qds bk hb2;have hd1:w1.cell? ⟨w.heap.size,1,none⟩=some (.slice (some ⟨g,0,none⟩) n c):=(Qdf hk2 1).trans rfl)
     |(go_at_call 201;refine(HA.out _ hb2).mono ?_;rintro e w2 ⟨rfl,hb3⟩))
    go_ret
    exact⟨rfl,Qcl (Qcl hb1 hb1.size hb2) (Nat.le_trans hb1.size hb2.size) hb3⟩
 refine hk.mono fun e w' ⟨he,hb⟩=>⟨?_,hb⟩
 rw[he];unfold Qnm;rw[HN.out]
def Qnp(used:Int)(l:List Ent):List Int:=Qla ([4]++leb l.length 4++leb used 4++l.flatMap ent++(Qmk l).flatMap (fun x=>leb x 8))
theorem RU.tk{W W':World}{b g:Nat}{v:Value}{xs:List Int}{ys:List Int}{b':Nat}(h:RU W b v xs)(hI:IsBuf W b' g ys)(hT:Tk g W W'):RU W' b v xs:=by
 obtain⟨u,hu,_⟩:=hI;refine Kd.R_mono (Kd.R_step (Kd.R_bound h) (fun k hk _=>?_)) (fun _ _=>trivial);obtain⟨q,hq,cells,hc⟩:=hk.2.2.2;have hq':q=32:=by simpa [Kd.int,Kd.scalar]using hq
 subst hq';rw[hc];exact hT k cells _ hc (by decide) (Qdi hc hu (by decide))
theorem Qnq{W:World}{B:Nat}{u:Int}{v:Value}(h:W.heap[B]? = some (.cells #[.int .u32 u,v] 169 (0,0))):W.cell? ⟨B,0,none⟩=some (.int .u32 u)∧W.cell? ⟨B,1,none⟩=some v :=
 ⟨(Qdf h 0).trans rfl,(Qdf h 1).trans rfl⟩
theorem Qnr{l:List Ent}(hwf:∀x∈l,(0≤x.f0∧x.f0<18446744073709551616)∧0≤x.f1∧x.f1<4294967296):∀x∈Qmk l,0≤x∧x<18446744073709551616:=by
 intro x hx;unfold Qmk at hx;obtain⟨k,hk,rfl⟩:=List.mem_map.1 hx;have hk':=List.mem_range.1 hk;have hkl:k*16<l.length:=by unfold chN at hk';omega
 unfold Qmj;rw[rdE l (k*16) hkl];exact(hwf _ (List.getElem_mem hkl)).1
theorem Qns(l:List Ent):(Qmk l).length=chN l.length:=by simp[Qmk]
theorem Qnt(x y:Int)(l:List Ent):([]++[4]++leb x 4++leb y 4++l.flatMap ent).length=9+12*l.length:=by
 rw[List.length_append,List.length_append,List.length_append,List.length_append,Qiq,Qiq,Qkg];rfl
theorem Qnu(x y:Int)(l:List Ent):([]++[4]++leb x 4++leb y 4++l.flatMap ent++(Qmk l).flatMap (fun x=>leb x 8)).length=9+12*l.length+8*(Qmk l).length:=by
 rw[List.length_append,Qnt,Qkd]
theorem Qnv(b:Nat)(used:Int)(A:Option Addr)(n c:Nat)(l:List Ent)(w:World)(hn:n=l.length)(hR:RE w b (.slice A n c) l)(hchk:Qnm used l=0)(hu0:0≤used)(hu1:used<4294967296)
  (hwf:∀x∈l,(0≤x.f0∧x.f0<18446744073709551616)∧0≤x.f1∧x.f1<4294967296) :
  Calls Tryz.prog 86 #[.agg #[.int .u32 used,.slice A n c]] w fun e w'=>∃v,e=.returned (.tuple #[v,.int .i64 0])∧R8 w' w.heap.size v (Qnp used l)∧Below w.heap.size w w':=by
 have hu:=Tryz.underlying169;have p:n≠0:=by intro h;unfold Qnm at hchk;rw[if_pos (by omega)]at hchk;cases hchk
 have q:n≤1048576:=by
  apply Decidable.byContradiction;intro h;unfold Qnm at hchk;rw[if_neg (by omega),if_pos (by omega)]at hchk
  cases hchk
 have hpos:0<l.length:=by omega
 obtain⟨g,cap,hf,hbg,hgl,cells,hgc⟩:=Kd.R_form hR hpos
 injection hf with hf1 hf2 hf3
 subst hf1;have hcap:n≤c:=(Kd.R_reads' hR).2.1;have hC:Kd.C k177 w (some ⟨g,0,none⟩) n l:=by
  have h:=Kd.R_reads' hR;rw[hn];exact h.2.2
 have HN:=QA hn;have HR:=QA hR;have HCK:=QA (Qno b used (some ⟨g,0,none⟩) n c l w hn hR (by omega));have hck:Aside0 (Qnm used l=0):=⟨hchk⟩;have HC:=QA hC;have HWF:=QA hwf;have hbn:=Qdt w (.cells #[.int .u32 used,.slice (some ⟨g,0,none⟩) n c] 169);have hba:Below w.heap.size w (w.alloc (.cells #[.int .u32 used,.slice (some ⟨g,0,none⟩) n c] 169)):=Qci (Below.refl _ _) _;have HRa:=QA (Kd.R_alloc hR (.cells #[.int .u32 used,.slice (some ⟨g,0,none⟩) n c] 169));have hmod:(n:Int)%4294967296=(n:Int):=by omega
 have HM:=QA hmod;obtain⟨c0,c1⟩:=Qnq hbn;clear hn hR hchk hC hwf hgc hf2 hf3 hmod hpos
 go_enter Tryz.func86,Tryz.ntmps86
 go_wp2_with (first
  |(go_at_call 140;refine(Qno b used (some ⟨g,0,none⟩) n c l _ HN.out HRa.out qq_22).mono ?_;rw[hck.out];rintro ee w1 ⟨rfl,hb1⟩;have hk1:=Qds hbn hb1;have hw1:=QA (Qcl hba hba.size hb1);have hs1':=QA (show w.heap.size<w1.heap.size from Qde hk1);have HI1:=QA (IsBuf.new w1 w.heap.size);have hk1':=Qdp hk1 (.cells #[.slice none 0 0] 207);clear hk1 hb1 hbn hba c0 c1;obtain⟨c0,c1⟩:=Qnq hk1'))
 obtain⟨W,hW⟩:∃W,W=w1.alloc (.cells #[.slice none 0 0] 207):=⟨_,rfl⟩;have hbW:Below w1.heap.size w1 W:=by rw[hW];exact Qci (Below.refl _ _) _
 rw[← hW]at hk1' c0 c1 HI1 ⊢;clear hW;have hkd:=Qds hk1' (Qcj (Below.refl W.heap.size W));have hId:=HI1.out.kept (Qcj (Below.refl W.heap.size W));obtain⟨j0,j1⟩:=Qnq hkd;have hg:=Nat.le_of_lt hs1'.out;have hzd:w.heap.size≤W.drew.heap.size:=Nat.le_trans hg hbW.size;have hne:=Nat.ne_of_lt hs1'.out;have hnn0:(0:Int)≤(n:Int):=by omega
 have hnn1:(n:Int)≤1048576:=by omega
 have j:(0:Int)≤(n:Int)%4294967296:=by omega
 have k:(n:Int)%4294967296<4294967296:=by omega
 go_region_held3 (fun w'=>w'.cell? ⟨w.heap.size,0,none⟩=some (.int .u32 used)∧w'.cell? ⟨w.heap.size,1,none⟩=some (.slice (some ⟨g,0,none⟩) n c)) (first|exact⟨j0,j1⟩|exact⟨i0,i1⟩|exact⟨i2,i3⟩|exact⟨i4,i5⟩) (first
  |(go_at_call 141;refine(Qiw w.heap.size w1.heap.size 4 [] W.drew (by decide) (by decide) hg hzd hId (by simp)).mono ?_;rintro ee w2 ⟨rfl,hI2,hb2⟩;have hk2:=hb2.2 _ _ _ hkd (by decide) hne;obtain⟨i0,i1⟩:=Qnq hk2)
  |(go_at_call_of 142 (Value.int .u32 used);refine(Qiy w.heap.size w1.heap.size used _ w3 hu0 hu1 hg (Nat.le_trans (Nat.le_trans hzd hb2.size) hb3.size) hI3 (by simp[Qiq])).mono ?_;rintro ee w4 ⟨rfl,hI4,hb4⟩;have hk4:=hb4.2 _ _ _ hk3 (by decide) hne;obtain⟨i4,i5⟩:=Qnq hk4)
  |(go_at_call 142;refine(Qiy w.heap.size w1.heap.size ((n:Int)%4294967296) ([]++[4]) w2 j k hg (Nat.le_trans hzd hb2.size) hI2 (by simp)).mono ?_;rintro ee w3 ⟨rfl,hI3,hb3⟩;have hk3:=hb3.2 _ _ _ hk2 (by decide) hne;obtain⟨i2,i3⟩:=Qnq hk3))
 have hz4:w.heap.size≤w4.heap.size:=Nat.le_trans (Nat.le_trans (Nat.le_trans hzd hb2.size) hb3.size) hb4.size;have a:=QA (show Below w.heap.size w w4 from((((hw1.out.trans (Qis hbW hg)).trans (Qis (Qcj (Below.refl W.heap.size W)) (Nat.le_trans hg hbW.size))).trans hb2.1).trans hb3.1).trans hb4.1);clear i0 i1 i2 i3 j0 j1 c0 c1 hk2 hk3 hb2 hb3 hb4 hI2 hI3 hkd hId;have hlt:(Qmk l).length≤65536:=by rw[Qns];unfold chN;have:=HN.out;omega
 have hCw:∀W',Below w.heap.size w W'→Kd.C k177 W' (some ⟨g,0,none⟩) l.length l:=by
  intro W' hb;have:=Kd.C_below HC.out hb;rw[HN.out]at this;exact this
 have HCW:=QA hCw;clear hCw;have htab:∀(xs:List Int) (W':World),xs.length≤100→Below w.heap.size w W'→IsBuf W' w.heap.size w1.heap.size xs→w.heap.size≤W'.heap.size →
   Calls Tryz.prog 143 #[.pointer (some ⟨w1.heap.size,0,none⟩),.slice (some ⟨g,0,none⟩) n c] W' fun e w'=>(∃v,e=.returned v)∧IsBuf w' w.heap.size w1.heap.size (xs++l.flatMap ent)∧Bw w.heap.size w1.heap.size W' w':=by
  intro xs W' hxs hb hI hz;rw[HN.out];exact Qkh w.heap.size w1.heap.size (some ⟨g,0,none⟩) c l xs W' (fun W2 h2=>HCW.out W2 (hb.trans h2.1)) HWF.out hg hz hI qq_22
 have HT:=QA htab;clear htab
 go_wp2_with (first
  |(go_at_call 143;refine(HT.out _ w4 (by simp[Qiq]) a.out hI4 hz4).mono ?_;rintro ee w5 ⟨⟨_,rfl⟩,hI5,hb5⟩;have hk5:=hb5.2 _ _ _ hk4 (by decide) hne;clear i4 i5;obtain⟨i6,i7⟩:=Qnq hk5;have hz5:w.heap.size≤w5.heap.size:=Nat.le_trans hz4 hb5.size;have d:=QA (a.out.trans hb5.1))
  |(go_at_call 145;refine(Qmn ⟨g,0,none⟩ c n l w5 HN.out (by have:=HCW.out w5 d.out;rw[← HN.out]at this;exact this) hcap (by omega)).mono ?_;rintro ee w6 ⟨⟨v6,rfl,hR6⟩,hb6⟩;obtain⟨A6,c6,rfl⟩:=Kd.R_slice hR6;have hI6:=hI5.kept hb6;have m:=QA (Qcl d.out hz5 hb6);have hz6:w.heap.size≤w6.heap.size:=Nat.le_trans hz5 hb6.size)
  |(go_at_call 144;refine(Qke w.heap.size w1.heap.size A6 c6 (Qmk l) _ w6 (fun W2 h2=>(Kd.R_reads' (RU.tk hR6 hI6 h2.2)).2.2) (Qnr HWF.out) hg hz6 hI6 (by rw[Qnt];have:=HN.out;omega)).mono ?_;rintro ee w7 ⟨⟨_,rfl⟩,hI7,hb7⟩;have hz7:w.heap.size≤w7.heap.size:=Nat.le_trans hz6 hb7.size;have o:=QA (m.out.trans hb7.1))
  |(go_at_call 118;refine(Qjd w.heap.size w1.heap.size _ w7 hI7 (by rw[Qnu];have:=HN.out;omega)).mono ?_;rintro ee w8 ⟨v8,rfl,hR8,hb8⟩;obtain⟨A8,n8,c8,rfl,r,hlc8,hC8⟩:=R8.reads hR8)
  |(go_at_call 138;refine(Qlg A8 n8 c8 _ w8 hC8 (by rw[Qnu];have:=HN.out;omega)).mono ?_;rintro ee w9 ⟨v9,rfl,hR9,hb9⟩))
 refine bodyPost_ret (results_tmp2 rfl _ _ _) rfl ?_;have hz8:w.heap.size≤w8.heap.size:=Nat.le_trans hz7 hb8.size;refine⟨v9,rfl,?_,(o.out.trans (Qis hb8 hz7)).trans (Qis hb9 hz8)⟩;have hL:=R8.low hR9 hz8;unfold Qnp;rw[HM.out,HN.out]at hL;exact hL
theorem bd_Seal(b g:Nat)(R:Room5)(fr:List Int)(tb:List S177)(sz:Nat)(w:World)(hI:IsBd w b g R fr tb)(hbw:b≤w.heap.size)(htb:tb≠[])(hnd:tb.Nodup)(htl:tb.length≤1099511627776)
  (hwf:∀x∈tb,(0≤x.f0∧x.f0<18446744073709551616)∧0≤x.f1∧x.f1<4294967296) (hchk:Qnm ((fr.length:Int)%4294967296) (Qmu tb)=0)
  (hsz:Qaq.f R.1 R.2.1=some (sz:Int)) (hle:fr.length+(Qnp ((fr.length:Int)%4294967296) (Qmu tb)).length≤sz) (hs2:sz≤70368744177664) :
  Calls Tryz.prog 44 #[.pointer (some ⟨g,0,none⟩)] w fun e w'=>∃v:Value,e=.returned (.tuple #[v,.int .i64 0])∧R8 w' w.heap.size v (fr++Qnp ((fr.length:Int)%4294967296) (Qmu tb)++List.replicate (sz-(fr++Qnp ((fr.length:Int)%4294967296) (Qmu tb)).length) 255)∧Below w.heap.size w w':=by
 have hu:=Tryz.underlying169;have hu3:=Tryz.underlying165;obtain⟨F,hF⟩:∃F,F=Qnp ((fr.length:Int)%4294967296) (Qmu tb):=⟨_,rfl⟩;rw[← hF]at hle ⊢;have HF:=QA hF;have HI:=QA hI;obtain⟨fv,tv,hv,hR,hT⟩:=hI;obtain⟨AT,cT,rfl⟩:=Kd.R_slice hT;obtain⟨nT,hnT⟩:∃nT,nT=tb.length:=⟨_,rfl⟩;rw[← hnT]at hv hT;obtain⟨A,n,c,rfl,hn,hlc,hC⟩:=R8.reads hR;have hv':Qlx w g R (.slice A n c) (.slice AT nT cT):=hv;have hpos:0<nT:=by rw[hnT];exact List.length_pos_iff.2 htb
 have hb0:((nT:Int) == 0)=false:=beq_eq_false_iff_ne.2 (by omega);have hvd:Qlx w.drew g R (.slice A n c) (.slice AT nT cT):=hv';obtain⟨g0,g1,g2,g3,g4,g5,g6⟩:=Qly hv';obtain⟨d0,d1,d2,d3,d4,d5,d6⟩:=Qly hvd;have HNT:=QA hnT;have HT:=QA hT;have HV:=QA hvd;have HND:=QA hnd;have HWF:=QA hwf;have HCK:=QA hchk;have HSZ:=QA hsz;have j:(0:Int)≤(n:Int)%4294967296:=by omega
 have k:(n:Int)%4294967296<4294967296:=by omega
 have hTd:RE w.drew b (.slice AT nT cT) tb:=Kd.R_drew hT;have HTD:=QA hTd;clear hF hR hT hv hC hv' hvd hnT hnd hwf hchk hsz hTd htb
 go_enter Tryz.func44,Tryz.ntmps44
 go_wp2_with fail
 go_region_held3 (fun w'=>w'.cell? ⟨g,5,none⟩=some (.slice A n c)∧w'.cell? ⟨g,6,none⟩=some (.slice AT nT cT)) (first|exact⟨d5,d6⟩|exact⟨i5,i6⟩|exact⟨k5,k6⟩) (first
  |(go_at_call 87;refine(Qng b _ tb w.drew HTD.out HND.out htl).mono ?_;rintro e w1 ⟨v1,rfl,hR1,hb1⟩;have hv1:Qlx w1 g R (.slice A n c) (.slice AT nT cT):=Qds (w:=w.drew) HV.out hb1;obtain⟨i0,i1,i2,i3,i4,i5,i6⟩:=Qly hv1;obtain⟨A1,c1,rfl⟩:=Kd.R_slice hR1)
  |(go_at_call 86;refine(Qnv w.drew.heap.size ((n:Int)%4294967296) A1 _ c1 (Qmu tb) w1 rfl hR1 (by rw[hn.out];exact HCK.out) j k (fun x hx=>HWF.out x ((Qne tb).mem_iff.1 hx))).mono ?_;rintro e w2 ⟨v2,rfl,hR2,hb2⟩;have hv2:Qlx w2 g R (.slice A n c) (.slice AT nT cT):=Qds hv1 hb2;obtain⟨k0,k1,k2,k3,k4,k5,k6⟩:=Qly hv2;obtain⟨A2,n2,c2,rfl,l,hl2,hC2⟩:=R8.reads hR2))
 have a:=QA (show Below w.heap.size w w2 from((Qcj (Below.refl _ _)).trans hb1).trans (Qis hb2 hb1.size));have HI2:=QA (HI.out.kept a.out);have hR2':R8 w2 w1.heap.size (.slice A2 n2 c2) F:=by rw[HF.out,← hn.out];exact hR2
 have hC2':Kd.C (Kd.int .u8) w2 A2 n2 F:=by
  have h:=Kd.R_reads' hR2';rw[h.1];exact h.2.2
 have d:n2=F.length:=(Kd.R_reads' hR2').1;have m:=QA hC2';have HN2:=QA d;have hz2:b≤w2.heap.size:=Nat.le_trans hbw a.out.size;clear hR1 hb1 hR2 hb2 hv1 hv2 l hC2 i0 i1 i2 i3 i4 i5 i6 d0 d1 d2 d3 d4 d5 d6 g0 g1 g2 g3 g4 g5 g6 hR2' hC2' d
 go_wp2_with (first
  |(go_at_call 89;refine(Qln b g R fr tb w2 HI2.out (by omega)).mono ?_;rintro e w3 ⟨v3,rfl,hR3,hb3⟩;have o:=QA (Kd.C_below m.out hb3))
  |(at_builtin;go_loud (refine Kd.R_append_rows (Kd.int .u8) (Rr:=fun x cs=>cs=[.int .u8 x]) (w0:=w3) w2.heap.size rfl (.tmp 33) (.tmp 34) 47 5 (.int .u8 0) 1 rfl Tryz.underlying47 Qid rfl (by decide) (by omega) v3 fr F A2 n2 c2 (fun _=>True) (fun _=>False) rfl rfl hR3 o.out (fun _ _ h=>h) (fun _ hk=>hk.elim) (fun _ _=>trivial) (Below.refl _ _) hb3.size ?bL ?_;(case bL=>have:=HN2.out;omega);intro v4 w4 hR4 hb4 p hat4))
  |(go_at_call 88;go_loud (refine(Qlo b w2.heap.size g R fr tb (fr++F) v4 sz w4 (HI2.out.kept (hb3.trans hb4)) hR4 (Nat.le_trans hb3.size hb4.size) HSZ.out (by rw[List.length_append];exact hle) hs2).mono ?_;rintro e w5 ⟨v5,rfl,hR5,hb5⟩)))
 refine bodyPost_ret (results_tmp2 rfl _ _ _) rfl ?_;refine⟨v5,rfl,?_,?_⟩
 ·exact R8.low hR5 a.out.size
 ·exact a.out.trans (Qis ((hb3.trans hb4).trans hb5) a.out.size)
abbrev Rec:=S36
abbrev Bd:=Room5 × List Int × List Ent
def newB(e s n:Int):Option Bd :=
 (Qbq.f e s n).bind fun q=>(Qbh.f e s n).bind fun p =>
  if q.2.2.2.2.2=0∧p.2=0∧q.1=e∧q.2.1=s∧q.2.2.1=n then some ((e,s,n,q.2.2.2.1,q.2.2.2.2.1),p.1,[])else none
def addB (B:Bd) (r:Rec):Option Bd :=
 if chk r.f0 r.f2 r.f3=0 then
  (Qbi.f r.f0 r.f1 r.f2 r.f3).bind fun p=>(Qbv.f B.1.1 B.1.2.1 p.1.length).bind fun tl =>
   (Qbu.f B.1.1 B.1.2.1 B.1.2.2.1 B.1.2.2.2.1 B.1.2.2.2.2 p.1.length).bind fun q =>
    if p.2=0∧tl=false∧q.2.2.2.2.2=0∧B.2.1.length+p.1.length≤70368744177664∧B.2.2.length≤1099511627776 then
     some ((q.1,q.2.1,q.2.2.1,q.2.2.2.1,q.2.2.2.2.1),B.2.1++p.1,B.2.2++[⟨Qkt 0 (bytesOf r.f2),(B.2.1.length:Int)%4294967296⟩])
    else none
 else none
def wfE(x:Ent):Prop:=(0≤x.f0∧x.f0<18446744073709551616)∧0≤x.f1∧x.f1<4294967296
instance (x:Ent):Decidable (wfE x):=by unfold wfE;exact inferInstance
def Qnw(B:Bd):Int:=(B.2.1.length:Int)%4294967296
def Qnx(B:Bd):Option (List Int) :=
 (Qaq.f B.1.1 B.1.2.1).bind fun sz =>
  if B.2.2.length≠0∧B.2.2.length≤1099511627776∧(∀x∈B.2.2,wfE x)∧Qnm (Qnw B) (Qmu B.2.2)=0∧((B.2.1.length+(Qnp (Qnw B) (Qmu B.2.2)).length:Nat):Int)≤sz∧sz≤70368744177664 then
   some (B.2.1++Qnp (Qnw B) (Qmu B.2.2)++List.replicate (sz.toNat-(B.2.1++Qnp (Qnw B) (Qmu B.2.2)).length) 255)
  else none
def Qny(B:Bd):Option (List Int) :=
 (Qaq.f B.1.1 B.1.2.1).bind fun sz=>if(B.2.1.length:Int)≤sz∧sz≤70368744177664 then some (B.2.1++List.replicate (sz.toNat-B.2.1.length) 255)else none
abbrev IsB(W:World)(b g:Nat)(B:Bd):Prop:=IsBd W b g B.1 B.2.1 B.2.2
theorem Qnz(e s n:Int)(B:Bd)(w:World)(h:newB e s n=some B) :
  Calls Tryz.prog 45 #[.agg #[.int .u8 e,.int .u32 s],.int .u32 n] w fun ee w'=>∃g,ee=.returned (.tuple #[.pointer (some ⟨g,0,none⟩),.int .i64 0])∧IsB w' w.heap.size g B∧Below w.heap.size w w'∧w.heap.size≤g:=by
 unfold newB at h;obtain⟨q,hq,h⟩:=Option.bind_eq_some_iff.mp h;obtain⟨p,hp,h⟩:=Option.bind_eq_some_iff.mp h;obtain⟨q1,q2,q3,q4,q5,q6⟩:=q;obtain⟨p1,p2⟩:=p;split at h
 ·rename_i hc;obtain⟨h1,h2,h3,h4,h5⟩:=hc;dsimp only at h1 h2 h3 h4 h5;subst h1 h2 h3 h4 h5
  cases h
  exact Qlm q1 q2 q3 q4 q5 p1 w hq hp
 ·cases h
theorem add_ofT(b g:Nat)(B B':Bd)(r:Rec)(w:World)(hI:IsB w b g B)(hbg:b≤g)(hbw:b≤w.heap.size)(h:addB B r=some B') :
  Calls Tryz.prog 46 #[.pointer (some ⟨g,0,none⟩),.agg #[.bool r.f0,.int .u64 r.f1,.string r.f2,.string r.f3]] w fun e w'=>e=.returned (.tuple #[.int .u32 ((B.2.1.length:Int)%4294967296),.int .i64 0])∧IsB w' b g B'∧Below b w w'∧Tb g w w':=by
 unfold addB at h;split at h
 ·rename_i hchk;obtain⟨p,hp,h⟩:=Option.bind_eq_some_iff.mp h;obtain⟨tl,htl,h⟩:=Option.bind_eq_some_iff.mp h;obtain⟨q,hq,h⟩:=Option.bind_eq_some_iff.mp h;obtain⟨q1,q2,q3,q4,q5,q6⟩:=q;obtain⟨p1,p2⟩:=p;split at h
  ·rename_i hc;obtain⟨h1,h2,h3,h4,h5⟩:=hc;dsimp only at h1 h2 h3 h4 h5 hq htl;subst h1 h2 h3
   cases h
   have hk:=(Qkj hchk).1;exact bd_Add b g B.1 (q1,q2,q3,q4,q5) B.2.1 p1 B.2.2 r.f0 r.f1 r.f2 r.f3 w hI hbg hbw hchk hp htl hq h4 (by omega) h5
  ·cases h
 ·cases h
theorem Qoa(b g:Nat)(B B':Bd)(r:Rec)(w:World)(hI:IsB w b g B)(hbg:b≤g)(hbw:b≤w.heap.size)(h:addB B r=some B') :
  Calls Tryz.prog 46 #[.pointer (some ⟨g,0,none⟩),.agg #[.bool r.f0,.int .u64 r.f1,.string r.f2,.string r.f3]] w fun e w'=>e=.returned (.tuple #[.int .u32 ((B.2.1.length:Int)%4294967296),.int .i64 0])∧IsB w' b g B'∧Below b w w' :=
 (add_ofT b g B B' r w hI hbg hbw h).mono fun _ _ ⟨h1,h2,h3,_⟩=>⟨h1,h2,h3⟩
theorem Qob:∀ {l:List Ent},Qnh l=true→l.Pairwise (fun x y=>cfE x y<0)
 | [],_=>List.Pairwise.nil
 | [a],_=>by simp
 | a :: b :: t,h=>by
  simp only[Qnh,Bool.and_eq_true]at h;have ih:=Qob h.2;refine List.Pairwise.cons (fun x hx=>?_) ih;have hab:cfE a b<0:=by simpa [ltE]using h.1
  rcases List.mem_cons.1 hx with rfl|hx
  ·exact hab
  ·have hbx:=List.rel_of_pairwise_cons ih hx;have t1:ltOf cfE a b=true:=by simpa [Go.Proofs.ltOf]using hab
   have t2:ltOf cfE b x=true:=by simpa [Go.Proofs.ltOf]using hbx
   have:=swoE.trans a b x t1 t2
   simpa [Go.Proofs.ltOf]using this
theorem cfE_irr(x:Ent):¬cfE x x<0:=by
 have:=swoE.irrefl x
 simpa [Go.Proofs.ltOf]using this
theorem Qoc{u:Int}{l:List Ent}(h:Qnm u (Qmu l)=0):l.Nodup:=by
 have hr:Qnh (Qmu l)=true:=by
  unfold Qnm at h;split at h
  ·cases h
  split at h
  ·cases h
  split at h
  ·cases h
  ·rename_i h1;simpa using h1
 have hp:=Qob hr;have:(Qmu l).Nodup:=hp.imp (fun {x y} hxy e=>by subst e;exact cfE_irr x hxy);exact(Qne l).nodup_iff.1 this
theorem Qod(b g:Nat)(B:Bd)(o:List Int)(w:World)(hI:IsB w b g B)(hbw:b≤w.heap.size)(h:Qnx B=some o) :
  Calls Tryz.prog 44 #[.pointer (some ⟨g,0,none⟩)] w fun e w'=>∃v:Value,e=.returned (.tuple #[v,.int .i64 0])∧R8 w' w.heap.size v o∧Below w.heap.size w w':=by
 unfold Qnx at h;obtain⟨sz,hsz,h⟩:=Option.bind_eq_some_iff.mp h;split at h
 ·rename_i hc;obtain⟨h1,h2,h3,h4,h5,h6⟩:=hc
  cases h
  obtain⟨z,rfl⟩:=Int.eq_ofNat_of_zero_le (show 0≤sz by omega);rw[Int.toNat_natCast];exact bd_Seal b g B.1 B.2.1 B.2.2 z w hI hbw (fun e=>h1 (by rw[e];rfl)) (Qoc h4) h2 h3 h4 hsz (by unfold Qnw at h5;omega) (by omega)
 ·cases h
theorem Qoe(b g:Nat)(B:Bd)(o:List Int)(w:World)(hI:IsB w b g B)(hbw:b≤w.heap.size)(h:Qny B=some o) :
  Calls Tryz.prog 47 #[.pointer (some ⟨g,0,none⟩)] w fun e w'=>∃v:Value,e=.returned v∧R8 w' w.heap.size v o∧Below w.heap.size w w':=by
 unfold Qny at h;obtain⟨sz,hsz,h⟩:=Option.bind_eq_some_iff.mp h;split at h
 ·rename_i hc
  cases h
  obtain⟨z,rfl⟩:=Int.eq_ofNat_of_zero_le (show 0≤sz by omega);rw[Int.toNat_natCast];exact Qlp b g B.1 B.2.1 B.2.2 z w hI hsz (by omega) (by omega)
 ·cases h
def lim:Nat:=70368744177664
def encG (e s:Int) (into:List Int):Nat→List Rec→List Int→Option Bd→Option (List Int)
 | _,[],out,none=>some out
 | _,[],out,some B=>(Qny B).bind fun o=>if out.length+o.length≤lim then some (out++o)else none
 | i,r :: rs,out,ob =>
  if i<into.length then
   match ob with
   | none=>if i=0 then(newB e s (rd into (i:Int))).bind fun B=>(addB B r).bind fun B'=>encG e s into (i+1) rs out (some B')else none
   | some B =>
    if i=0 then none
    else if rd into (i:Int)=rd into ((i:Int)-1)then(addB B r).bind fun B'=>encG e s into (i+1) rs out (some B')
    else(Qnx B).bind fun o=>if out.length+o.length≤lim then(newB e s (rd into (i:Int))).bind fun B1=>(addB B1 r).bind fun B'=>encG e s into (i+1) rs (out++o) (some B')else none
  else none
def Qbm.f(k:Nat)(a0_0 a0_1:Int)(l1:List Rec):Option (List Int × Int) :=
 (Qbn.f k a0_0 a0_1 l1).bind fun p=>if p.2.2=0 then(if l1.length≤1099511627776 then(encG a0_0 a0_1 p.1 0 l1 [] none).bind fun o=>some (o,0)else none)else some ([],p.2.2)
def OpenAt(W:World)(b:Nat)(vo pb:Value)(ob:Option Bd)(i:Nat):Prop :=
 match ob with
 | none=>pb=.pointer none∧i=0
 | some B=>∃g b2,pb=.pointer (some ⟨g,0,none⟩)∧b≤b2∧b2≤g∧b2≤W.heap.size∧(∀k,vo.ownBlock=some k→k<b2)∧IsB W b2 g B∧i≠0
theorem Qof{W W':World}{b b2:Nat}{v:Value}{xs:List Int}(h:R8 W b v xs)(hb:Below b2 W W')(hlt:∀k,v.ownBlock=some k→k<b2):R8 W' b v xs:=by
 refine Kd.R_mono (Kd.R_step (ok:=fun k=>v.ownBlock=some k) ?_ (fun k hk _=>hb.block k (hlt k hk))) (fun _ _=>trivial);exact Kd.R_mono (Kd.R_tight rfl h) (fun k hk=>hk.symm)
theorem Qog{l:List Rec}{i:Nat}(h:i<l.length):l.drop i=Qij l (i:Int) :: l.drop (i+1):=by
 rw[List.drop_eq_getElem_cons h];simp[Qij,List.getElem?_eq_getElem h]
theorem enc_of(k:Nat)(e s:Int)(A1:Option Addr)(c1 n1:Nat)(l1:List Rec)(into sizes o:List Int)(w:World)(p:n1=l1.length)(hr1:Kd.C k36 w A1 n1 l1)(hc1:n1≤c1)(hl1:l1.length≤1099511627776)
  (hp:Qbn.f k e s l1=some (into,sizes,0)) (h:encG e s into 0 l1 [] none=some o) :
  Calls Tryz.prog 20 #[.agg #[.int .u8 e,.int .u32 s],.slice A1 n1 c1] w fun ee w'=>∃v,ee=.returned (.tuple #[v,.int .i64 0])∧R8 w' w.heap.size v o∧Below w.heap.size w w':=by
 have hu:=Tryz.underlying40;have hu2:=Tryz.underlying36;have HN:=QA p;have HC:=QA hr1;have HP:=QA hp;have HE:=QA h;have hl1':n1≤1099511627776:=by omega
 clear p hr1 hp h hl1;have hba:Below w.heap.size w (w.alloc (.cells #[.int .u8 e,.int .u32 s] 40)):=Qci (Below.refl _ _) _;have hbn:=Qdt w (.cells #[.int .u8 e,.int .u32 s] 40);have HCa:=QA (Kd.C_alloc HC.out (.cells #[.int .u8 e,.int .u32 s] 40));have hplan:Calls Tryz.prog 43 #[.agg #[.int .u8 e,.int .u32 s],.slice A1 n1 c1] (w.alloc (.cells #[.int .u8 e,.int .u32 s] 40)) fun ee w'=>∃q t:Value,ee=.returned (.tuple #[q,t,.int .i64 0])∧Kd.R (Kd.int .u32) 38 w' (w.alloc (.cells #[.int .u8 e,.int .u32 s] 40)).heap.size (fun _=>True) q into∧Kd.R (Kd.int .i64) 3 w' (w.alloc (.cells #[.int .u8 e,.int .u32 s] 40)).heap.size (fun _=>True) t sizes∧Below (w.alloc (.cells #[.int .u8 e,.int .u32 s] 40)).heap.size (w.alloc (.cells #[.int .u8 e,.int .u32 s] 40)) w':=by
  have hC:=HCa.out;rw[HN.out]at hC ⊢;exact Qbn.calls k e s A1 c1 l1 into sizes 0 _ hC qq_22 HP.out
 have HPL:=QA hplan;clear hplan;obtain⟨c0,D⟩:=box2 hbn
 go_enter Tryz.func20,Tryz.ntmps20
 go_wp2_with (go_at_call 43;refine HPL.out.mono ?_;rintro ee w2 ⟨vi,vz,rfl,hRi,hRz,hb2⟩;obtain⟨Ai,ci,rfl⟩:=Kd.R_slice hRi)
 have hk2:=Qds hbn hb2;have HBW:=QA (Qcl hba hba.size hb2);have hlt2:w.heap.size<w2.heap.size:=Qde hk2;obtain⟨b,hbdef⟩:∃b,b=w2.heap.size:=⟨_,rfl⟩;have hCi:Kd.C (Kd.int .u32) w2 Ai into.length into:=(Kd.R_reads' hRi).2.2;have hcell:∀ {W:World} {a:Addr} {v:Value},Below b w2 W→w2.cell? a=some v→W.cell? a=some v:=fun {W a v} hb h=>(hb.cell (by rw[hbdef];exact World.block_lt_of_cell? w2 _ h)).trans h
 have HCI:=QA hCi;have HK2:=QA hk2;have HBD:=QA hbdef;have hC2:Kd.C k36 w2 A1 n1 l1:=Kd.C_below HCa.out hb2;have E:=QA hC2;obtain⟨ni,hni⟩:∃ni,ni=into.length:=⟨_,rfl⟩;rw[← hni];have HNI:=QA hni;clear hbn hb2 hk2 hRi hRz hCi c0 D hba hbdef hC2 hni
 go_loopw [9,10,27] (fun v9 G I wr=>∃(vo pb:Value) (i:Nat) (iv:Int) (out:List Int) (ob:Option Bd),vo=v9∧pb=G∧I=.int .i64 iv∧Aside0 (iv=(i:Int))∧i≤n1∧Aside0 (encG e s into i (l1.drop i) out ob=some o)∧Aside0 (R8 wr b vo out)∧Aside0 (OpenAt wr b vo pb ob i)∧Aside0 (Below b w2 wr)) (fun _ _ i _=>((n1:Int)-intOf i).toNat)
 case atStart=>exact⟨_,_,0,0,[],none,rfl,rfl,rfl,⟨rfl⟩,Nat.zero_le _,HE,⟨Kd.R_nil _ _ _ _ _⟩,⟨⟨rfl,rfl⟩⟩,⟨Below.refl _ _⟩⟩
 case round =>
  obtain⟨vo,pb,i,iv,out,ob,rfl,rfl,rfl,HI,hin,HG,HO,HOP,HB⟩:=hrel
  by_cases hlt:i<n1
  ·have h0:0≤iv:=by have:=HI.out;omega
   have h1:iv<(n1:Int):=by have:=HI.out;omega
   have hb1:decide (iv<(n1:Int))=true:=decide_eq_true h1;obtain⟨ad,rfl,x0,x1,x2,x3⟩:=Qik E.out iv h0 h1;replace x0:=hcell HB.out x0;replace x1:=hcell HB.out x1;replace x2:=hcell HB.out x2;replace x3:=hcell HB.out x3;obtain⟨r,hr⟩:∃r,r=Qij l1 iv:=⟨_,rfl⟩;rw[← hr]at x0 x1 x2 x3;have hg:encG e s into i (r :: l1.drop (i+1)) out ob=some o:=by
    have h:=HG.out;rw[Qog qq_22,← HI.out,← hr]at h;exact h
   clear hr;have hi2:i<ni:=by
    rw[HNI.out];unfold encG at hg;split at hg
    ·assumption
    ·cases hg
   by_cases hz:i=0
   ·have hob:ob=none∧pb=.pointer none:=by
     have h:=HOP.out
     cases ob with
     | none=>exact⟨rfl,h.1⟩
     | some B=>obtain⟨_,_,_,_,_,_,_,_,hn⟩:=h;exact absurd hz hn
    obtain⟨rfl,rfl⟩:=hob;have hz0:(iv == 0)=true:=beq_iff_eq.2 (by have:=HI.out;omega);have hiv:iv=((0:Nat):Int):=by have:=HI.out;omega
    unfold encG at hg;rw[if_pos (by rw[← HNI.out];exact hi2)]at hg;dsimp only at hg;rw[if_pos hz]at hg;obtain⟨B,hB1,hg⟩:=Option.bind_eq_some_iff.mp hg;obtain⟨B',hB2',hg⟩:=Option.bind_eq_some_iff.mp hg;rw[← HI.out]at hB1;obtain⟨adi,rfl,y0⟩:=Kd.at_int HCI.out iv h0 (by have:=HNI.out;have:=HI.out;omega);have hci1:iv<(ni:Int):=by have:=HI.out;omega
    obtain⟨k0,k1⟩:=box2 HK2.out;have hb':Below wr.heap.size wr (wr.alloc (.cells #[.bool r.f0,.int .u64 r.f1,.string r.f2,.string r.f3] 36)):=Qci (Below.refl _ _) _;have hbz:b≤wr.heap.size:=by rw[HBD.out];exact HB.out.size
    have hB3:=HB.out.trans (Qis hb' hbz);have y1:=hcell hB3 y0;have k2:=hcell hB3 k0;have k3:=hcell hB3 k1;have bk:=Qdt wr (.cells #[.bool r.f0,.int .u64 r.f1,.string r.f2,.string r.f3] 36);have HG':=QA hg;have j:=QA hB1;have l:=QA hB2';have HZ:=QA hz;have HIV:=QA hiv;clear hg hB1 hB2' hz hiv y0 k0 k1;go_wp2
    go_quiet (fail)
    obtain⟨W3,hW3⟩:∃W3,W3=(wr.alloc (.cells #[.bool r.f0,.int .u64 r.f1,.string r.f2,.string r.f3] 36)).drewN nq:=⟨_,rfl⟩;have hbq:Below (wr.alloc (.cells #[.bool r.f0,.int .u64 r.f1,.string r.f2,.string r.f3] 36)).heap.size (wr.alloc (.cells #[.bool r.f0,.int .u64 r.f1,.string r.f2,.string r.f3] 36)) W3:=by rw[hW3];exact Qck (Below.refl _ _) _
    have hB4:Below wr.heap.size wr W3:=Qcl hb' hb'.size hbq;have bk4:=Qds bk hbq;have z1:=Qcm hbq y1;have z2:=Qcm hbq k2;have z3:=Qcm hbq k3;rw[← hW3];clear hW3 y1 k2 k3 bk hb' hbq hB3;go_wp2
    go_region_held3 (fun w'=>w'.cell? ⟨w.heap.size,0,none⟩=some (.int .u8 e)∧w'.cell? ⟨w.heap.size,1,none⟩=some (.int .u32 s)∧w'.cell? (adi.add iv.toNat)=some (.int .u32 (YtepkfjmjidjedaaGreatW.PrintWords.rd into iv))) (first|exact⟨z2,z3,z1⟩|exact⟨t2,t3,t1⟩) (first
     |(go_at_call 45;refine(Qnz e s (YtepkfjmjidjedaaGreatW.PrintWords.rd into iv) B W3.drew j.out).mono ?_;rintro ee w4 ⟨g,rfl,hIB,hb4,u⟩;have t1:=Qcm hb4 z1;have t2:=Qcm hb4 z2;have t3:=Qcm hb4 z3))
    have bk5:=Qds (w:=W3.drew) bk4 hb4;obtain⟨q0,q1,q2,q3⟩:=box4 bk5;have hsz4:W3.drew.heap.size≤w4.heap.size:=hb4.size;have HIB:=QA hIB;clear z1 z2 z3 t1 t2 t3 hIB bk4
    go_wp2_with (go_at_call 46;refine(Qoa W3.drew.heap.size g B B' r w4 HIB.out u hsz4 l.out).mono ?_;rintro ee w6 ⟨rfl,hIB6,hb6⟩)
    go_roundw
    case rel =>
     have hw3:wr.heap.size≤W3.drew.heap.size:=hB4.size;have hol:∀k,vo.ownBlock=some k→k<W3.drew.heap.size:=fun k hk=>Nat.lt_of_lt_of_le (Kd.R_lt HO.out k hk) hw3
     have hO3:=R8.kept HO.out hB4;have hO4:R8 w4 b vo out:=R8.kept (W:=W3.drew) hO3 hb4;have hO6:=Qof hO4 hb6 hol;have hs6:W3.drew.heap.size≤w6.heap.size:=Nat.le_trans hsz4 hb6.size;refine⟨vo,_,i+1,iv+1,out,some B',rfl,rfl,by go_num,⟨by have:=HI.out;omega⟩,hlt,HG',⟨hO6⟩,⟨g,W3.drew.heap.size,rfl,Nat.le_trans hbz hw3,u,hs6,hol,hIB6,by omega⟩,⟨?_⟩⟩;exact HB.out.trans ((Qis hB4 hbz).trans ((Qcj (Below.refl _ _)).trans ((Qis hb4 (Nat.le_trans hbz hw3)).trans (Qis hb6 (Nat.le_trans hbz hw3)))))
    case measure=>simp[intOf];omega
   ·obtain⟨B,rfl⟩:∃B,ob=some B:=by
     have h:=HOP.out
     cases ob with
     | none=>exact absurd h.2 hz
     | some B=>exact⟨B,rfl⟩
    obtain⟨g,b2,rfl,hbb2,hb2g,hb2z,hol,hIB0,_⟩:=HOP.out;have HIB0:=QA hIB0;have hz0:(iv == 0)=false:=beq_eq_false_iff_ne.2 (by have:=HI.out;omega);obtain⟨jv,hjv⟩:∃jv,jv=iv-1:=⟨_,rfl⟩;have hj0:0≤jv:=by have:=HI.out;omega
    unfold encG at hg;rw[if_pos (by rw[← HNI.out];exact hi2)]at hg;dsimp only at hg;rw[if_neg hz,← HI.out,← hjv]at hg;have HOL:=QA hol;have HZ:=QA hz;clear hIB0 hol hz HOP
    by_cases heq:YtepkfjmjidjedaaGreatW.PrintWords.rd into iv=YtepkfjmjidjedaaGreatW.PrintWords.rd into jv
    ·rw[if_pos heq]at hg;obtain⟨B',hB2',hg⟩:=Option.bind_eq_some_iff.mp hg;have HG':=QA hg;have l:=QA hB2';have hne:(YtepkfjmjidjedaaGreatW.PrintWords.rd into iv != YtepkfjmjidjedaaGreatW.PrintWords.rd into jv)=false:=by rw[heq];simp
     clear heq hg hB2';obtain⟨adi,rfl,y0⟩:=Kd.at_int HCI.out iv h0 (by have:=HNI.out;have:=HI.out;omega);obtain⟨adj,ej,yj0⟩:=Kd.at_int HCI.out jv hj0 (by have:=HNI.out;have:=HI.out;omega)
     cases ej
     have hci1:iv<(ni:Int):=by have:=HI.out;omega
     have hcj1:jv<(ni:Int):=by omega
     obtain⟨k0,k1⟩:=box2 HK2.out;have hb':Below wr.heap.size wr (wr.alloc (.cells #[.bool r.f0,.int .u64 r.f1,.string r.f2,.string r.f3] 36)):=Qci (Below.refl _ _) _;have hbz:b≤wr.heap.size:=by rw[HBD.out];exact HB.out.size
     have hB3:=HB.out.trans (Qis hb' hbz);have y1:=hcell hB3 y0;have yj1:=hcell hB3 yj0;have k2:=hcell hB3 k0;have k3:=hcell hB3 k1;have bk:=Qdt wr (.cells #[.bool r.f0,.int .u64 r.f1,.string r.f2,.string r.f3] 36);have HJ:=QA hjv;have hwr:IntKind.i64.wrap (iv-1)=jv:=by rw[IntWalk.i64_in _ (by omega)];exact hjv.symm
     clear hjv y0 yj0 k0 k1;go_wp2
     go_quiet (fail)
     obtain⟨W3,hW3⟩:∃W3,W3=(wr.alloc (.cells #[.bool r.f0,.int .u64 r.f1,.string r.f2,.string r.f3] 36)).drewN nq:=⟨_,rfl⟩;have hbq:Below (wr.alloc (.cells #[.bool r.f0,.int .u64 r.f1,.string r.f2,.string r.f3] 36)).heap.size (wr.alloc (.cells #[.bool r.f0,.int .u64 r.f1,.string r.f2,.string r.f3] 36)) W3:=by rw[hW3];exact Qck (Below.refl _ _) _
     have hB4:Below wr.heap.size wr W3:=Qcl hb' hb'.size hbq;have bk4:=Qds bk hbq;have z1:=Qcm hbq y1;have z2:=Qcm hbq k2;have z3:=Qcm hbq k3;rw[← hW3];clear hW3 y1 yj1 k2 k3 bk hb' hbq hB3 hwr;obtain⟨q0,q1,q2,q3⟩:=box4 bk4;have hs3:b2≤W3.heap.size:=Nat.le_trans hb2z hB4.size;have HIB3:=QA (IsBd.kept HIB0.out hB4);clear z1 z2 z3 bk4
     go_wp2_with (go_at_call 46;refine(Qoa b2 g B B' r W3 HIB3.out hb2g hs3 l.out).mono ?_;rintro ee w6 ⟨rfl,hIB6,hb6⟩)
     go_roundw
     case rel =>
      have hO6:=Qof (R8.kept HO.out hB4) hb6 HOL.out;refine⟨vo,_,i+1,iv+1,out,some B',rfl,rfl,by go_num,⟨by have:=HI.out;omega⟩,hlt,HG',⟨hO6⟩,⟨g,b2,rfl,hbb2,hb2g,Nat.le_trans hs3 hb6.size,HOL.out,hIB6,by omega⟩,⟨?_⟩⟩;exact HB.out.trans ((Qis hB4 hbz).trans (Qis hb6 hbb2))
     case measure=>simp[intOf];omega
    ·rw[if_neg heq]at hg;obtain⟨oo,hseal,hg⟩:=Option.bind_eq_some_iff.mp hg;have hoo:out.length+oo.length≤lim:=by
      apply Decidable.byContradiction;intro hn;rw[if_neg hn]at hg
      cases hg
     rw[if_pos hoo]at hg;obtain⟨B1,hB1,hg⟩:=Option.bind_eq_some_iff.mp hg;obtain⟨B',hB2',hg⟩:=Option.bind_eq_some_iff.mp hg;have HG':=QA hg;have j:=QA hB1;have HBA:=QA hB2';have HSL:=QA hseal;have hoo':out.length+oo.length≤70368744177664:=hoo;have hne:(YtepkfjmjidjedaaGreatW.PrintWords.rd into iv != YtepkfjmjidjedaaGreatW.PrintWords.rd into jv)=true:=by simp[heq]
     clear heq hg hB1 hB2' hseal hoo;obtain⟨adi,rfl,y0⟩:=Kd.at_int HCI.out iv h0 (by have:=HNI.out;have:=HI.out;omega);obtain⟨adj,ej,yj0⟩:=Kd.at_int HCI.out jv hj0 (by have:=HNI.out;have:=HI.out;omega)
     cases ej
     have hci1:iv<(ni:Int):=by have:=HI.out;omega
     have hcj1:jv<(ni:Int):=by omega
     obtain⟨k0,k1⟩:=box2 HK2.out;have hb':Below wr.heap.size wr (wr.alloc (.cells #[.bool r.f0,.int .u64 r.f1,.string r.f2,.string r.f3] 36)):=Qci (Below.refl _ _) _;have hbz:b≤wr.heap.size:=by rw[HBD.out];exact HB.out.size
     have hB3:=HB.out.trans (Qis hb' hbz);have y1:=hcell hB3 y0;have yj1:=hcell hB3 yj0;have k2:=hcell hB3 k0;have k3:=hcell hB3 k1;have bk:=Qdt wr (.cells #[.bool r.f0,.int .u64 r.f1,.string r.f2,.string r.f3] 36);have HJ:=QA hjv;have hwr:IntKind.i64.wrap (iv-1)=jv:=by rw[IntWalk.i64_in _ (by omega)];exact hjv.symm
     clear hjv yj0;go_wp2
     go_quiet (fail)
     obtain⟨W3,hW3⟩:∃W3,W3=(wr.alloc (.cells #[.bool r.f0,.int .u64 r.f1,.string r.f2,.string r.f3] 36)).drewN nq:=⟨_,rfl⟩;have hbq:Below (wr.alloc (.cells #[.bool r.f0,.int .u64 r.f1,.string r.f2,.string r.f3] 36)).heap.size (wr.alloc (.cells #[.bool r.f0,.int .u64 r.f1,.string r.f2,.string r.f3] 36)) W3:=by rw[hW3];exact Qck (Below.refl _ _) _
     have hB4:Below wr.heap.size wr W3:=Qcl hb' hb'.size hbq;have bk4:=Qds bk hbq;have z1:=Qcm hbq y1;have z2:=Qcm hbq k2;have z3:=Qcm hbq k3;rw[← hW3];clear hW3 y1 yj1 k2 k3 bk hb' hbq hB3 hwr z1 z2 z3;have hs3:b2≤W3.heap.size:=Nat.le_trans hb2z hB4.size;have HIB3:=QA (IsBd.kept HIB0.out hB4);have J:=QA (R8.kept HO.out hB4)
     go_wp2_with (first
      |(go_at_call 44;refine(Qod b2 g B oo W3 HIB3.out hs3 HSL.out).mono ?_;rintro ee w4 ⟨v4,rfl,hR4,hb4⟩;obtain⟨A4,n4,c4,rfl,m,hl4,hC4⟩:=R8.reads hR4;have n:=QA hC4;have d:=QA (R8.kept J.out hb4);have bk5:=Qds bk4 hb4;clear hR4 hC4 bk4)
      |(at_builtin;go_loud (refine Kd.R_append_rows (Kd.int .u8) (Rr:=fun x cs=>cs=[.int .u8 x]) (w0:=w4) b rfl (.tmp 53) (.tmp 54) 47 5 (.int .u8 0) 1 rfl Tryz.underlying47 Qid rfl (by decide) (by omega) vo out oo A4 n4 c4 (fun _=>True) (fun _=>False) rfl rfl d.out n.out (fun _ _ h=>h) (fun _ hk=>hk.elim) (fun _ _=>trivial) (Below.refl _ _) (Nat.le_trans hbz (Nat.le_trans hB4.size hb4.size)) ?bL ?_;(case bL=>have:=m.out;omega);intro v5 w5 hR5 hb5 y hat5)))
     have c:=QA (show Below b w2 w5 from((HB.out.trans (Qis hB4 hbz)).trans (Qis hb4 (Nat.le_trans hbz hB4.size))).trans hb5);have bk6:=Qdh bk5 y (R8.clean d.out bk5 (by decide));have z1:=hcell (W:=w5.drew) (c.out.trans (Qcj (Below.refl _ _))) y0;have z2:=hcell (W:=w5.drew) (c.out.trans (Qcj (Below.refl _ _))) k0;have z3:=hcell (W:=w5.drew) (c.out.trans (Qcj (Below.refl _ _))) k1;have z:=QA hR5;have hb5z:b≤w5.drew.heap.size:=by rw[HBD.out];exact c.out.size
     clear hR5 hat5 hb5 hb4 y0 k0 k1 bk5
     go_region_held3 (fun w'=>w'.cell? ⟨w.heap.size,0,none⟩=some (.int .u8 e)∧w'.cell? ⟨w.heap.size,1,none⟩=some (.int .u32 s)∧w'.cell? (adi.add iv.toNat)=some (.int .u32 (YtepkfjmjidjedaaGreatW.PrintWords.rd into iv))) (first|exact⟨z2,z3,z1⟩|exact⟨t2,t3,t1⟩) (first
      |(go_at_call 45;refine(Qnz e s (YtepkfjmjidjedaaGreatW.PrintWords.rd into iv) B1 w5.drew j.out).mono ?_;rintro ee w6 ⟨g6,rfl,hIB,hb6,A⟩;have t1:=Qcm hb6 z1;have t2:=Qcm hb6 z2;have t3:=Qcm hb6 z3))
     have bk7:=Qds (w:=w5.drew) bk6 hb6;obtain⟨q0,q1,q2,q3⟩:=box4 bk7;have hsz6:w5.drew.heap.size≤w6.heap.size:=hb6.size;have HIB:=QA hIB;clear z1 z2 z3 t1 t2 t3 hIB bk6
     go_wp2_with (go_at_call 46;refine(Qoa w5.drew.heap.size g6 B1 B' r w6 HIB.out A hsz6 HBA.out).mono ?_;rintro ee w7 ⟨rfl,hIB7,hb7⟩)
     go_roundw
     case rel =>
      have hol5:∀k,v5.ownBlock=some k→k<w5.drew.heap.size:=fun k hk=>Kd.R_lt z.out k hk
      have hO6:R8 w6 b v5 (out++oo):=R8.kept (W:=w5.drew) z.out hb6;have hO7:=Qof hO6 hb7 hol5;refine⟨v5,_,i+1,iv+1,out++oo,some B',rfl,rfl,by go_num,⟨by have:=HI.out;omega⟩,hlt,HG',⟨hO7⟩,⟨g6,w5.drew.heap.size,rfl,hb5z,A,Nat.le_trans hsz6 hb7.size,hol5,hIB7,by omega⟩,⟨?_⟩⟩;exact c.out.trans ((Qcj (Below.refl _ _)).trans ((Qis hb6 hb5z).trans (Qis hb7 hb5z)))
     case measure=>simp[intOf];omega
  ·have hin':i=n1:=by omega
   have hge:¬iv<(n1:Int):=by have:=HI.out;omega
   have hb1:decide (iv<(n1:Int))=false:=decide_eq_false hge;have hbz:b≤wr.heap.size:=by rw[HBD.out];exact HB.out.size
   have hwb:w.heap.size≤b:=by rw[HBD.out];omega
   have hg:encG e s into i [] out ob=some o:=by
    have h:=HG.out;rw[List.drop_of_length_le qq_22]at h;exact h
   cases ob with
   | none =>
    obtain⟨rfl,_⟩:=HOP.out;simp only[encG]at hg;have ho:out=o:=Option.some.inj hg;have HOO:=QA ho;clear ho hg HOP hin';go_wp2;refine bodyPost_ret (results_tmp2 rfl _ _ _) rfl ?_;refine⟨_,rfl,?_,HBW.out.trans (Qis HB.out hwb)⟩;rw[← HOO.out];exact R8.low HO.out hwb
   | some B =>
    obtain⟨g,b2,rfl,hbb2,hb2g,hb2z,hol,hIB0,_⟩:=HOP.out;simp only[encG]at hg;obtain⟨oo,hopen,hg⟩:=Option.bind_eq_some_iff.mp hg;have hoo:out.length+oo.length≤lim:=by
     apply Decidable.byContradiction;intro hn;rw[if_neg hn]at hg
     cases hg
    rw[if_pos hoo]at hg;have hoo':out.length+oo.length≤70368744177664:=hoo;have ho:out++oo=o:=Option.some.inj hg;have HOO:=QA ho;have HOPN:=QA hopen;have HIB0:=QA hIB0;clear ho hg HOP hin' hopen hIB0 hol hoo
    go_wp2_with (first
     |(go_at_call 47;refine(Qoe b2 g B oo wr HIB0.out hb2z HOPN.out).mono ?_;rintro ee w4 ⟨v4,rfl,hR4,hb4⟩;obtain⟨A4,n4,c4,rfl,m,hl4,hC4⟩:=R8.reads hR4;have n:=QA hC4;have d:=QA (R8.kept HO.out hb4);clear hR4 hC4)
     |(at_builtin;go_loud (refine Kd.R_append_rows (Kd.int .u8) (Rr:=fun x cs=>cs=[.int .u8 x]) (w0:=w4) b rfl (.tmp 71) (.tmp 73) 47 5 (.int .u8 0) 1 rfl Tryz.underlying47 Qid rfl (by decide) (by omega) vo out oo A4 n4 c4 (fun _=>True) (fun _=>False) rfl rfl d.out n.out (fun _ _ h=>h) (fun _ hk=>hk.elim) (fun _ _=>trivial) (Below.refl _ _) (Nat.le_trans hbz hb4.size) ?bL ?_;(case bL=>have:=m.out;omega);intro v5 w5 hR5 hb5 y hat5)))
    refine bodyPost_ret (results_tmp2 rfl _ _ _) rfl ?_;refine⟨_,rfl,?_,HBW.out.trans (Qis ((HB.out.trans (Qis hb4 hbz)).trans hb5) hwb)⟩;rw[← HOO.out];exact R8.low hR5 hwb
theorem enc_not(k:Nat)(e s er:Int)(A1:Option Addr)(c1 n1:Nat)(l1:List Rec)(into sizes:List Int)(w:World)(a:n1=l1.length)(hr1:Kd.C k36 w A1 n1 l1)(hc1:n1≤c1)
  (hp:Qbn.f k e s l1=some (into,sizes,er)) (her:er≠0) :
  Calls Tryz.prog 20 #[.agg #[.int .u8 e,.int .u32 s],.slice A1 n1 c1] w fun ee w'=>∃v,ee=.returned (.tuple #[v,.int .i64 er])∧R8 w' w.heap.size v []∧Below w.heap.size w w':=by
 have hu:=Tryz.underlying40;have HN:=QA a;have HC:=QA hr1;have HP:=QA hp;have hnb:(er == 0)=false:=beq_eq_false_iff_ne.2 her;have hnc:(er != 0)=true:=bne_iff_ne.2 her;clear a hr1 hp her;have hba:Below w.heap.size w (w.alloc (.cells #[.int .u8 e,.int .u32 s] 40)):=Qci (Below.refl _ _) _;have hbn:=Qdt w (.cells #[.int .u8 e,.int .u32 s] 40);have HCa:=QA (Kd.C_alloc HC.out (.cells #[.int .u8 e,.int .u32 s] 40));have hplan:Calls Tryz.prog 43 #[.agg #[.int .u8 e,.int .u32 s],.slice A1 n1 c1] (w.alloc (.cells #[.int .u8 e,.int .u32 s] 40)) fun ee w'=>∃b c:Value,ee=.returned (.tuple #[b,c,.int .i64 er])∧Below (w.alloc (.cells #[.int .u8 e,.int .u32 s] 40)).heap.size (w.alloc (.cells #[.int .u8 e,.int .u32 s] 40)) w':=by
  have hC:=HCa.out;rw[HN.out]at hC ⊢;exact(Qbn.calls k e s A1 c1 l1 into sizes er _ hC qq_22 HP.out).mono fun _ _ ⟨v0,v1,h1,_,_,h4⟩=>⟨v0,v1,h1,h4⟩
 have HPL:=QA hplan;clear hplan;obtain⟨c0,d⟩:=box2 hbn
 go_enter Tryz.func20,Tryz.ntmps20
 go_wp2_with (go_at_call 43;refine HPL.out.mono ?_;rintro ee w2 ⟨vi,vz,rfl,hb2⟩)
 refine bodyPost_ret (results_tmp2 rfl _ _ _) rfl ?_;exact⟨_,rfl,Kd.R_nil _ _ _ _ _,Qcl hba hba.size hb2⟩
theorem Qbm.calls(k:Nat)(a0_0:Int)(a0_1:Int)(A1:Option Addr)(c1:Nat)(l1:List S36)(r1:List Int)(r2:Int)(w:World)(hr1:Kd.C k36 w A1 l1.length l1)(hc1:l1.length≤c1)(h:Qbm.f k a0_0 a0_1 l1=some (r1,r2)) :
  Calls Tryz.prog 20 #[.agg #[.int .u8 a0_0,.int .u32 a0_1],.slice A1 l1.length c1] w fun e w'=>∃v0_:Value,e=.returned (.tuple #[v0_,.int .i64 r2])∧Kd.R (Kd.int .u8) 5 w' w.heap.size (fun _=>True) v0_ r1∧Below w.heap.size w w':=by
 unfold Qbm.f at h;obtain⟨⟨into,sizes,er⟩,hp,h⟩:=Option.bind_eq_some_iff.mp h;dsimp only at h
 by_cases her:er=0
 ·subst her;rw[if_pos rfl]at h
  by_cases hl:l1.length≤1099511627776
  ·rw[if_pos hl]at h;obtain⟨o,ho,h⟩:=Option.bind_eq_some_iff.mp h;simp only[Option.some.injEq,Prod.mk.injEq]at h;obtain⟨rfl,rfl⟩:=h;exact enc_of k a0_0 a0_1 A1 c1 l1.length l1 into sizes _ w rfl hr1 hc1 hl hp ho
  ·rw[if_neg hl]at h;cases h
 ·rw[if_neg her]at h;simp only[Option.some.injEq,Prod.mk.injEq]at h;obtain⟨rfl,rfl⟩:=h;exact enc_not k a0_0 a0_1 _ A1 c1 l1.length l1 into sizes w rfl hr1 hc1 hp her
def recA:Rec:=⟨false,0,⟨#[97]⟩,⟨#[]⟩⟩
def frA:List Int:=match Qbi.f false 0 ⟨#[97]⟩ ⟨#[]⟩with|some p=>p.1|none=>[]
def oA:List Int:=h12++frA++List.replicate (4096-(h12++frA).length) 255
theorem encA0:Qbm.f 9 12 1 []=some ([],0):=by kernel_rfl
theorem encA1:Qbm.f 40 12 1 [recA]=some (oA,0):=by kernel_rfl
theorem oA_len:oA.length=4096:=by kernel_rfl
def Qau.f:Option Bool:=some true
theorem Qau.calls(r:Bool)(w:World)(h:Qau.f=some r) :
  Calls Tryz.prog 42 #[] w fun e w'=>e=.returned (.bool r)∧Below w.heap.size w w':=by
 obtain rfl:=Option.some.inj h;have hu:=Tryz.underlying40;have hu2:=Tryz.underlying36;have bn:=Qdt w (.cells #[.int .u8 12,.int .u32 1] 40);have hb0:Below w.heap.size w (w.alloc (.cells #[.int .u8 12,.int .u32 1] 40)):=Qci (Below.refl _ _) _;obtain⟨c0,c1⟩:=box2 bn;have hnil:∀W:World,Kd.C k36 W none ([]:List Rec).length []:=fun W=>Kd.C_nil _ W
 have HNIL:=QA hnil;have hone:∀W:World,Kd.C k36 (W.alloc (.cells #[.bool false,.int .u64 0,.string ⟨#[97]⟩,.string ⟨#[]⟩] 36)) (some ⟨W.heap.size,0,none⟩) [recA].length [recA]:=fun W=>by
  have hR:Kd.R k36 36 (W.alloc (.cells #[.bool false,.int .u64 0,.string ⟨#[97]⟩,.string ⟨#[]⟩] 36)) W.heap.size (fun _=>True) (.slice (some ⟨W.heap.size,0,none⟩) 1 1) [recA]:=by
   refine⟨fun _ _=>trivial,[.bool false,.int .u64 0,.string ⟨#[97]⟩,.string ⟨#[]⟩],World.ownsRow_lit (base:=W.heap.size) (e:=36) (size:=4) W #[.bool false,.int .u64 0,.string ⟨#[97]⟩,.string ⟨#[]⟩] 1 (Nat.le_refl _) (by decide) rfl,rfl,fun j p hj=>?_⟩;obtain⟨hj1,rfl⟩:=List.getElem?_eq_some_iff.1 hj;obtain rfl:j=0:=by simpa using hj1
   exact Qii _ _ _ recA
  exact(Kd.R_reads' hR).2.2
 have HONE:=QA hone;clear hnil hone
 go_enter Tryz.func42,Tryz.ntmps42
 go_wp2_with (first
  |(go_at_call_of 20 (Value.slice none 0 0);refine(Qbm.calls 9 12 1 none 0 [] [] 0 _ (HNIL.out _) (Nat.le_refl _) encA0).mono ?_;rintro e w1 ⟨v1,rfl,hR1,hb1⟩;obtain⟨A1,n1,g,rfl,c,hl1,hC1⟩:=R8.reads hR1;have a:n1=0:=c.out;subst a;have bk1:=Qds bn hb1;clear c0 c1;obtain⟨c0,c1⟩:=box2 bk1)
  |(go_at_call 20;go_loud (refine(Qbm.calls 40 12 1 (some ⟨w1.heap.size,0,none⟩) 1 [recA] oA 0 _ (HONE.out w1) (Nat.le_refl _) encA1).mono ?_;rintro e w2 ⟨v2,rfl,hR2,hb2⟩;obtain⟨A2,n2,c2,rfl,d,hl2,hC2⟩:=R8.reads hR2;have b:n2=4096:=d.out.trans oA_len;subst b))
  |(go_at_call 81;refine(Qas.calls true _ rfl).mono ?_;rintro e w3 ⟨rfl,hb3⟩))
 go_ret
 have hb12:=(Qcl hb0 hb0.size hb1);have hz1:w.heap.size≤w1.heap.size:=hb12.size;have hb2':Below w1.heap.size w1 w2:=Qcl (Qci (Below.refl _ _) _) (by rw[World.size_alloc];omega) hb2;exact⟨rfl,Qcl (Qcl hb12 hz1 hb2') (Nat.le_trans hz1 hb2'.size) hb3⟩
def Qrb(l:List Rec)(ps:List Int):List Ent:=List.zipWith (fun r a=>(⟨Qkt 0 (bytesOf r.f2),a⟩:Ent)) l ps
theorem Qrc(l:List Rec)(ps:List Int)(h:ps.length=l.length):(Qrb l ps).length=l.length:=by simp[Qrb,h]
theorem Qrd{l:List Rec}{ps:List Int}(h:ps.length=l.length){j:Nat}(hj:j<l.length):(Qrb l ps).take (j+1)=(Qrb l ps).take j++[(⟨Qkt 0 (bytesOf (Qij l (j:Int)).f2),YtepkfjmjidjedaaGreatW.PrintWords.rd ps (j:Int)⟩:Ent)]:=by
 have hlen:=Qrc l ps h;rw[List.take_succ_eq_append_getElem (by omega)]
 congr 1
 simp[Qrb,Qij,rd,List.getD,List.getElem?_eq_getElem hj,List.getElem?_eq_getElem (show j<ps.length by omega)]
theorem Qre(Ar Aa:Option Addr)(cr ca:Nat)(l:List Rec)(ps:List Int)(u:Int)(s:Bool)(w:World)(hr:Kd.C k36 w Ar l.length l)(ha:Kd.C (Kd.int .u32) w Aa ps.length ps)(hlen:ps.length=l.length)(hl:l.length≤1000000000)
  (hk:∀r∈l,r.f2.size≤140737488355328) (hnd:(Qrb l ps).Nodup) :
  Calls Tryz.prog 185 #[.agg #[.slice Ar l.length cr,.slice Aa ps.length ca,.int .u32 u,.bool s]] w fun e w'=>∃v,e=.returned v∧RE w' w.heap.size v (Qmu (Qrb l ps))∧Below w.heap.size w w':=by
 have hu76:=Tryz.underlying139;have hu39:=Tryz.underlying36;have hu117:=Tryz.underlying177;have hB1:Below w.heap.size w (w.alloc (.cells #[.slice Ar l.length cr,.slice Aa ps.length ca,.int .u32 u,.bool s] 139)):=Qci (Below.refl _ _) _;have hkB:=Qdt w (.cells #[.slice Ar l.length cr,.slice Aa ps.length ca,.int .u32 u,.bool s] 139);have HCR:=QA (Kd.C_below hr hB1);have HCA:=QA (Kd.C_below ha hB1);have b0:(w.alloc (.cells #[.slice Ar l.length cr,.slice Aa ps.length ca,.int .u32 u,.bool s] 139)).cell? ⟨w.heap.size,0,none⟩=some (.slice Ar l.length cr):=(Qdf hkB 0).trans rfl;have d:=QA hB1;have m:=QA hkB;have HK:=QA hk;have HND:=QA hnd;have b:=QA hlen;clear hr ha hB1 hkB hk hnd hlen
 go_enter Tryz.func185,Tryz.ntmps185
 go_wp2;obtain⟨W1,hW1⟩:∃W1,W1=w.alloc (.cells #[.slice Ar l.length cr,.slice Aa ps.length ca,.int .u32 u,.bool s] 139):=⟨_,rfl⟩;rw[← hW1]at HCR HCA d m ⊢;clear hW1 b0
 go_loopw [3,9] (fun v3 v9 wr=>∃(vo:Value) (j:Nat) (iv:Int),vo=v3∧j≤l.length∧v9=.int .i64 iv∧Aside0 (iv=(j:Int))∧Aside0 (RE wr W1.heap.size vo ((Qrb l ps).take j))∧Aside0 (Below W1.heap.size W1 wr))
  (fun _ v9 _=>l.length-(intOf v9).toNat)
 case atStart=>exact⟨_,0,0,rfl,Nat.zero_le _,rfl,⟨rfl⟩,⟨Kd.R_nil _ _ _ _ _⟩,⟨Below.refl _ _⟩⟩
 case round =>
  obtain⟨vo,j,iv,rfl,hj,rfl,HJ,HR,HB⟩:=hrel;have hol:((Qrb l ps).take j).length=j:=by rw[List.length_take,Qrc l ps b.out];omega
  obtain⟨tj,htj⟩:∃tj,tj=(Qrb l ps).take j:=⟨_,rfl⟩;rw[← htj]at HR hol;have HTJ:=QA htj;clear htj;obtain⟨Ao,co,hvo⟩:=Kd.R_slice HR.out;subst hvo;have HOL:=QA hol;clear hol
  by_cases hlt:j<l.length
  ·have hlt2:iv<(l.length:Int):=by have:=HJ.out;omega
   have hge:0≤iv:=by have:=HJ.out;omega
   have hwi:IntKind.i64.wrap (iv+1)=iv+1:=IntWalk.i64_in _ (by omega);obtain⟨ad,rfl,x0,x1,x2,x3⟩:=Qik HCR.out iv hge hlt2;replace x0:=Qcm HB.out x0;replace x1:=Qcm HB.out x1;replace x2:=Qcm HB.out x2;replace x3:=Qcm HB.out x3;obtain⟨r,hr⟩:∃r,r=Qij l iv:=⟨_,rfl⟩;rw[← hr]at x0 x1 x2 x3;have n:=QA hr;clear hr;obtain⟨ada,hAa,y0⟩:=Kd.at_int HCA.out iv hge (by have:=b.out;omega);subst hAa;obtain⟨a,haa⟩:∃a,a=YtepkfjmjidjedaaGreatW.PrintWords.rd ps iv:=⟨_,rfl⟩;rw[← haa]at y0;have HAA:=QA haa;clear haa;have hal:iv<(ps.length:Int):=by have:=b.out;omega
   have hb':Below wr.heap.size wr (wr.alloc (.cells #[.bool r.f0,.int .u64 r.f1,.string r.f2,.string r.f3] 36)):=Qci (Below.refl _ _) _;have hB3:=HB.out.trans (Qis hb' HB.out.size);have y1:=Qcm hB3 y0;have bk:=Qdt wr (.cells #[.bool r.f0,.int .u64 r.f1,.string r.f2,.string r.f3] 36);have c:=QA hB3;go_wp2;obtain⟨W3,hW3⟩:∃W3,W3=wr.alloc (.cells #[.bool r.f0,.int .u64 r.f1,.string r.f2,.string r.f3] 36):=⟨_,rfl⟩;have t:Aside0 (RE W3 W1.heap.size (.slice Ao tj.length co) tj):=⟨by rw[hW3];exact Kd.R_alloc HR.out _⟩;have hkB:=Qds m.out c.out;rw[← hW3]at c bk y1 hkB ⊢;clear hW3 hb' hB3 x0 x1 x2 x3 y0;obtain⟨c0,c1,c2,c3⟩:=box4 bk;have v1:W3.cell? ⟨w.heap.size,1,none⟩=some (.slice (some ada) ps.length ca):=(Qdf hkB 1).trans rfl;have HKS:Aside0 (r.f2.size≤140737488355328):=⟨HK.out r (by rw[n.out];unfold Qij;have hjl:iv.toNat<l.length:=(by have:=HJ.out;omega);simp[List.getElem?_eq_getElem hjl])⟩;have HKB3:=QA hkB;clear hkB c0 c1 c3
   go_region_law (first
    |(go_simp;go_at_call 94;refine(Qkw r.f2 W3.drew HKS.out).mono ?_;rintro ee w9 ⟨rfl,hb9⟩;have o:=QA (c.out.trans ((Qcj (Below.refl W3.heap.size W3)).trans hb9 |> fun h=>Qis h c.out.size));have x:=QA (Kd.R_below (w:=W3.drew) t.out hb9);have v9:w9.cell? ⟨w.heap.size,1,none⟩=some (.slice (some ada) ps.length ca):=(Qdf (Qds (w:=W3.drew) HKB3.out hb9) 1).trans rfl;have y9:=Qcm (w:=W3.drew) hb9 y1;clear hb9)
    |(refine Kd.R_append_step k177 (w0:=W1) W1.heap.size (by rfl) (.tmp 14) (.tmp 24) 163 177 (.agg #[(.int .u64 0),(.int .u32 0)]) 16 rfl Tryz.underlying163 Qlz rfl (by decide) (by omega) (.slice Ao tj.length co) tj (⟨Qkt 0 (bytesOf r.f2),a⟩:Ent) [.int .u64 (Qkt 0 (bytesOf r.f2)),.int .u32 a] (fun _=>True) (fun _=>False) rfl ?ax ?aP (fun _ hk=>hk.elim) (fun _ _=>trivial) ?aO o.out ?aS ?aL ?_;(case ax=>rfl);(case aP=>exact Qin _ _ _ (⟨Qkt 0 (bytesOf r.f2),a⟩:Ent));(case aO=>exact x.out);(case aS=>exact o.out.size);(case aL=>have:=HOL.out;omega);intro y z g hb10 p hat10;have k:=QA g;have q:=QA hb10;clear g hb10 p hat10))
   all_goals
    go_wp2
    go_roundw
    case rel=>exact⟨_,j+1,iv+1,rfl,hlt,rfl,⟨by have:=HJ.out;omega⟩,⟨by rw[Qrd b.out hlt,← HTJ.out,← HJ.out,← n.out,← HAA.out];exact k.out⟩,⟨q.out⟩⟩
    case measure=>have:=HJ.out;simp[intOf];omega
  ·obtain rfl:j=l.length:=by omega
   have e1:iv=(l.length:Int):=HJ.out;subst e1;have hT:tj=Qrb l ps:=by rw[HTJ.out,← Qrc l ps b.out,List.take_length]
   have SRT:=QA (Qng W1.heap.size (.slice Ao tj.length co) tj wr HR.out (by rw[hT];exact HND.out) (by have:=HOL.out;omega));have HT:=QA hT;clear hT
   go_wp2_with (go_at_call 87;refine SRT.out.mono ?_;rintro ee w4 ⟨v4,rfl,hR4,hb4⟩)
   go_ret
   have h1:=d.out.size;refine⟨_,rfl,?_,(d.out.trans (Qis HB.out h1)).trans (Qis hb4 (Nat.le_trans h1 HB.out.size))⟩;rw[← HT.out];exact Kd.R_lower hR4 (Nat.le_trans h1 HB.out.size)
end Go.Proofs.YtepkfjmjidjedaaGreat.C
end
