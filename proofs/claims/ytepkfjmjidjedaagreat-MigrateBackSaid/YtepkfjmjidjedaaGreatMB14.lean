/- Merged texts. -/
import Derived.Test.YtepkfjmjidjedaaGreatMB02
import Derived.Test.YtepkfjmjidjedaaGreatMB04
import Derived.Test.YtepkfjmjidjedaaGreatMB10
import Derived.Test.YtepkfjmjidjedaaGreatMB06
import Derived.Test.YtepkfjmjidjedaaGreatMB11
import Derived.Test.YtepkfjmjidjedaaGreatMB03
import Derived.Test.YtepkfjmjidjedaaGreatMB08
import Derived.Test.YtepkfjmjidjedaaGreatMB09
set_option linter.unusedVariables false
set_option linter.unusedSimpArgs false
set_option maxHeartbeats 8000000
set_option maxRecDepth 100000
section
namespace Go.Proofs.YtepkfjmjidjedaaGreat.C
open Go.RowKit Go.Proofs.YtepkfjmjidjedaaGreatW.PrintWords Go.Proofs.YtepkfjmjidjedaaGreatW.PrintLast Go.Proofs.YtepkfjmjidjedaaGreatW.PrintMore
open Go.Sort
attribute [local go_sem high] eqA177
def encE(x:Ent):List Value:=[.int .u64 x.f0,.int .u32 x.f1]
def Qom(l:List Ent):List Value:=l.flatMap encE
abbrev RE(W:World)(b:Nat)(v:Value)(l:List Ent):Prop:=Kd.R k177 177 W b (fun _=>True) v l
theorem Qon(l:List Ent):(Qom l).length=l.length*2:=by
 induction l with
 | nil=>rfl
 | cons a l ih=>simp only[Qom,List.flatMap_cons,List.length_append,encE,List.length_cons,List.length_nil]at ih ⊢;omega
theorem Qoo:∀(l:List Ent) (j:Nat) (h:j<l.length),((Qom l).drop (j*2)).take 2=encE l[j]
 | a :: l,0,_=>rfl
 | a :: l,j+1,h=>by
  have:=Qoo l j (by simpa using h);rw[show(j+1)*2=j*2+2 by omega];exact this
theorem Qop(l:List Ent)(j:Nat):(Qom l)[2*j]? = l[j]?.map (fun x=>Value.int .u64 x.f0)∧(Qom l)[2*j+1]? = l[j]?.map (fun x=>Value.int .u32 x.f1):=by
 induction l generalizing j with
 | nil=>simp[Qom]
 | cons a l ih =>
  cases j with
  | zero=>simp[Qom,encE]
  | succ j =>
   have:=ih j;rw[show 2*(j+1)=2*j+2 by omega];exact this
theorem repsE{R:Ent→List Value→Prop}(hR:∀x,R x (encE x))(l:List Ent):Reps R 2 l (Qom l):=by
 refine⟨Qon l,fun j p hj=>?_⟩;obtain⟨h,rfl⟩:=List.getElem?_eq_some_iff.1 hj;rw[Qoo l j h];exact hR _
theorem Qoq{R:Ent→List Value→Prop}(hR:∀x c,R x c→c=encE x){l:List Ent}{cs:List Value}(h:Reps R 2 l cs):cs=Qom l:=by
 have hl:cs.length=l.length*2:=h.1;apply List.ext_getElem?;intro t
 by_cases ht:t<l.length*2
 ·have hj:t/2<l.length:=by omega
  have h1:=hR _ _ (h.2 (t/2) _ (List.getElem?_eq_getElem hj));have h2:=Qoo l (t/2) hj;rw[← h1]at h2;have e:∀xs:List Value,((xs.drop (t/2*2)).take 2)[t%2]? = xs[t]?:=by
   intro xs;rw[List.getElem?_take,if_pos (Nat.mod_lt _ (by omega)),List.getElem?_drop]
   congr 1
   omega
  rw[← e cs,← e (Qom l),h2]
 ·rw[List.getElem?_eq_none (by omega),List.getElem?_eq_none (by rw[Qon];omega)]
theorem RE.of_own{W:World}{b:Nat}{v:Value}{l:List Ent}(h:W.ownsRow b 177 2 v l.length (Qom l)):RE W b v l :=
 ⟨fun _ _=>trivial,Qom l,h,repsE (fun x=>Qig _ _ _ x) l⟩
theorem RE.own{W:World}{b:Nat}{v:Value}{l:List Ent}(h:RE W b v l):W.ownsRow b 177 2 v l.length (Qom l):=by
 obtain⟨_,inner,ho,hr⟩:=h;have e:=Qoq (fun x c hM=>Qif hM) hr;rw[← e];exact ho
def Qor(l:List Ent):List Ent:=l.mergeSort (fun x y=>!(ltOf cfE) y x)
theorem Qos(l:List Ent):(Qor l).length=l.length:=List.length_mergeSort _
theorem Qot(x y:Ent):ltOf cfE x y=(decide (x.f0<y.f0) ||(decide (x.f0=y.f0) && decide (x.f1<y.f1))):=by
 unfold ltOf cfE
 by_cases h1:x.f0<y.f0
 ·simp[h1]
 ·by_cases h2:y.f0<x.f0
  ·have:x.f0≠y.f0:=by omega
   simp[h1,h2,this]
  ·have:x.f0=y.f0:=by omega
   by_cases h3:x.f1<y.f1
   ·simp[h1,h2,h3,this]
   ·by_cases h4:y.f1<x.f1<;>simp[h1,h2,h3,h4,this]
theorem swoE:SWO (ltOf cfE) where
 irrefl x:=by rw[Qot];simp
 trans x y z h1 h2:=by rw[Qot]at *;simp at *;omega
 ntrans x y z h1 h2:=by rw[Qot]at *;simp at *;omega
theorem totE(x y:Ent)(h1:ltOf cfE x y=false)(h2:ltOf cfE y x=false):x=y:=by
 rw[Qot]at h1 h2;simp at h1 h2
 cases x;cases y
 simp_all
 omega
instance:Inhabited Ent:=⟨⟨0,0⟩⟩
theorem Qou(blk off size:Nat)(w:World):CmpLays Tryz.prog 148 #[] encE 2 cfE blk off size w :=
 fun _ _ _ _ x y=>cmp_gr x y _
theorem Qov(l:List Ent):(flatK encE 2 l.toArray).toList=Qom l:=by
 apply List.ext_getElem?;intro t;have hs:(flatK encE 2 l.toArray).size=l.length*2:=by simp
 by_cases ht:t<l.length*2
 ·rw[Array.getElem?_toList,Array.getElem?_eq_getElem (by rw[hs];exact ht)];have h1:=get_flatK encE 2 l.toArray t (by simpa using ht);rw[getElem!_pos (flatK encE 2 l.toArray) t (by rw[hs];exact ht)]at h1;have hj:t/2<l.length:=by omega
  have hx:l.toArray[t/2]! = l[t/2]:=by rw[getElem!_pos l.toArray (t/2) (by simpa using hj)];simp
  rw[h1,hx];have h2:=Qop l (t/2);rw[List.getElem?_eq_getElem hj]at h2
  rcases Nat.mod_two_eq_zero_or_one t with h0|h0
  ·have h3:=h2.1;rw[show 2*(t/2)=t by omega]at h3;rw[h0,h3];rfl
  ·have h3:=h2.2;rw[show 2*(t/2)+1=t by omega]at h3;rw[h0,h3];rfl
 ·rw[List.getElem?_eq_none qq_26,List.getElem?_eq_none (by rw[Qon];omega)]
theorem Qow{W:World}{b g cap:Nat}{l:List Ent}(h:W.ownsRow b 177 2 (.slice (some ⟨g,0,none⟩) l.length cap) l.length (Qom l)):HoldsK encE 2 W g 0 l.toArray:=by
 rcases h.2 with⟨hn,_⟩ |⟨g',cap',cur,he,hb,hh,h1,h2,h3,h4⟩
 ·cases hn
 cases he
 intro j hj;have hj':j<l.length*2:=by simpa using hj
 refine⟨?_,by simp[World.frozen?,hh]⟩;have h5:(cur.toList.take (l.length*2))[j]? = (Qom l)[j]?:=by rw[h4]
 rw[List.getElem?_take_of_lt hj']at h5;simp only[World.cell?,hh,Nat.zero_add];simp only[Option.isSome_none,Bool.false_eq_true,if_false];rw[← Array.getElem?_toList,h5,← Qov l,Array.getElem?_toList,Array.getElem?_eq_getElem hj,getElem!_pos (flatK encE 2 l.toArray) j hj];rfl
theorem heapE{w:World}{g n:Nat}{os:Array Obj}{cur:Array Value}{e:TypeId}{fr:Nat × Nat}(d:Array Ent)(hb:w.heap[g]? = some (.cells cur e fr)) :
  (sortWorldK encE 2 w g 0 n d os).heap[g]? = some (.cells (putCells id 0 (flatK encE 2 d) cur) e fr):=by
 have hg:g<w.heap.size:=(Array.getElem?_eq_some_iff.1 hb).1;unfold sortWorldK putRowK;rw[heap_grow_old _ _ (by simpa using hg)];simp[putRow,mapBlock,Sort.ahead,Array.getElem?_modify,hb,onCells]
theorem grownE{w:World}{g n:Nat}{os:Array Obj}(d:Array Ent):w.grownBy (sortWorldK encE 2 w g 0 n d os) (some g):=by
 unfold sortWorldK putRowK;refine⟨rfl,rfl,rfl,by simp,fun k hk hne=>?_⟩;rw[heap_grow_old _ _ (by simpa using hk)];have:g≠k:=fun e=>hne (by rw[e])
 simp[putRow,mapBlock,Sort.ahead,Array.getElem?_modify,this]
theorem takeE(cur:Array Value)(l:List Ent)(h:l.length*2≤cur.size):(putCells id 0 (flatK encE 2 l.toArray) cur).toList.take (l.length*2)=Qom l:=by
 apply List.ext_getElem?;intro j
 by_cases hj:j<l.length*2
 ·rw[List.getElem?_take_of_lt hj,Array.getElem?_toList,← Qov l,Array.getElem?_toList];have hs:(flatK encE 2 l.toArray).size=l.length*2:=by simp
  rw[Array.getElem?_eq_getElem (xs:=flatK encE 2 l.toArray) (by rw[hs];exact hj)];simp only[putCells,Array.getElem?_mapIdx,Nat.zero_le,true_and,Nat.zero_add,hs,hj,if_true,Nat.sub_zero,id];rw[Array.getElem?_eq_getElem (xs:=cur) (by omega),getElem!_pos (flatK encE 2 l.toArray) j (by rw[hs];exact hj)];rfl
 ·rw[List.getElem?_take_eq_none (by omega),List.getElem?_eq_none (by rw[Qon];omega)]
theorem Qox{w:World}{b g cap n:Nat}{os:Array Obj}{l m:List Ent}(hl:m.length=l.length)(h:w.ownsRow b 177 2 (.slice (some ⟨g,0,none⟩) l.length cap) l.length (Qom l)) :
  (sortWorldK encE 2 w g 0 n m.toArray os).ownsRow b 177 2 (.slice (some ⟨g,0,none⟩) l.length cap) l.length (Qom m):=by
 rcases h.2 with⟨hn,_⟩ |⟨g',cap',cur,he,hb,hh,h1,h2,h3,h4⟩
 ·cases hn
 cases he
 exact⟨by rw[Qon,hl],.inr ⟨g,cap,_,rfl,hb,heapE _ hh,h1,h2,by simp[putCells,h3],by rw[← hl];exact takeE cur m (by omega)⟩⟩
theorem Qoy(b:Nat)(v:Value)(l:List Ent)(w:World)(hR:RE w b v l)(hl:l.length≤1099511627776) :
  Calls Tryz.prog 146 #[v] w fun e w'=>∃v1,e=.returned v1∧RE w' w.heap.size v1 l∧Below w.heap.size w w':=by
 have ho:=RE.own hR
 rcases ho.2 with⟨rfl,hn⟩ |⟨g,cap,cur,rfl,hb,hh,h1,h2,h3,h4⟩
 ·have hcon:=AnyE.slices_Clone_nil Tryz.cloneEnt 0 0 w;refine hcon.mono fun e w' ⟨he,hw⟩=>⟨_,he,?_,?_⟩
  ·have h0:l=[]:=List.eq_nil_of_length_eq_zero (by omega);rw[h0];exact Kd.R_nil _ _ _ _ _
  ·rw[hw];exact Below.refl _ _
 ·obtain⟨i0,hi,hzz⟩:=Option.map_eq_some_iff.1 Qne;simp only[Prod.mk.injEq]at hzz;obtain⟨hz0,hz1,hz2⟩:=hzz;have hcon:=AnyE.slices_Clone Tryz.cloneEnt i0 _ 2 16 hi hz0 hz1 hz2 rfl (by omega) Tryz.sizeOf177 g 0 l.length cap (Qom l) w (Qon l) (by unfold maxLen;omega) (by omega) (fun j u hj=>by
    have hj':j<l.length*2:=by
     have:=(List.getElem?_eq_some_iff.1 hj).1;rw[Qon]at this;exact this
    have h5:(cur.toList.take (l.length*2))[j]? = (Qom l)[j]?:=by rw[h4]
    rw[List.getElem?_take_of_lt hj']at h5;simp only[World.cell?,hh,Nat.zero_add];simp only[Option.isSome_none,Bool.false_eq_true,if_false];rw[← Array.getElem?_toList,h5,hj]) (fun u hu=>by
    obtain⟨x,_,hx⟩:=List.mem_flatMap.1 hu;simp[encE]at hx
    rcases hx with rfl|rfl<;>rfl)
  exact hcon.mono fun e w' ⟨v',he,hown,_,hb'⟩=>⟨v',he,RE.of_own hown,hb'⟩
def Apart(l:List Ent):Prop:=∀i:Nat,i+1<l.length→(Qih l ((i+1:Nat):Int)).f0≠(Qih l (i:Int)).f0∨(Qih l ((i+1:Nat):Int)).f1≠(Qih l (i:Int)).f1
theorem Qoz(A:Option Addr)(n c:Nat)(l:List Ent)(w:World)(hn:n=l.length)(hC:Kd.C k177 w A n l)(hA:Apart l)(hl:l.length≤1099511627776) :
  Calls Tryz.prog 149 #[.slice A n c] w fun e w'=>e=.returned (.slice A n c)∧Drawn0 w w':=by
 have hu:=Tryz.underlying177;have HN:=QA hn;have HL:n≤1099511627776:=by omega
 have HC:=QA hC;have HA:=QA hA;clear hn hC hA hl
 by_cases h2:n<2
 ·have hb:decide ((n:Int)<2)=true:=decide_eq_true (by omega)
  go_enter Tryz.func149,Tryz.ntmps149
  go_wp2;go_ret
  exact⟨rfl,Drawn0.refl _⟩
 ·have hb:decide ((n:Int)<2)=false:=decide_eq_false (by omega)
  go_enter Tryz.func149,Tryz.ntmps149
  go_wp2
  go_loopw [3] (fun i wr=>∃(k:Nat) (iv:Int),1≤k∧k≤n∧i=.int .i64 iv∧Aside0 (iv=(k:Int))∧Drawn0 w wr) (fun i _=>((n:Int)-intOf i).toNat)
  case atStart=>exact⟨1,1,by omega,by omega,rfl,⟨rfl⟩,Drawn0.refl _⟩
  case round =>
   obtain⟨k,iv,hk1,hkn,rfl,HI,⟨m1,rfl⟩⟩:=hrel
   by_cases hlt:k<n
   ·have h0:0≤iv:=by have:=HI.out;omega
    have h1:iv<(n:Int):=by have:=HI.out;omega
    obtain⟨jv,hjv⟩:∃jv,jv=iv-1:=⟨_,rfl⟩;have hm:0≤jv:=by have:=HI.out;omega
    have hm1:jv<(n:Int):=by omega
    have hb1:decide (iv<(n:Int))=true:=decide_eq_true h1;obtain⟨ad,rfl,x0,x1⟩:=Qii HC.out iv h0 h1;obtain⟨ad',e',y0,y1⟩:=Qii HC.out jv hm hm1
    cases e'
    have hne:((Qih l iv).f0 == (Qih l jv).f0 && ((Qih l iv).f1 == (Qih l jv).f1))=false:=by
     have h:=HA.out (k-1) qq_21;rw[show k-1+1=k by omega,show((k-1:Nat):Int)=jv by(have:=HI.out;omega),← HI.out]at h
     rcases h with h|h<;>simp[h]
    have hwr:IntKind.i64.wrap (iv-1)=jv:=by rw[IntWalk.i64_in _ (by omega)];exact hjv.symm
    have HJ:=QA hjv;clear hjv;go_wp2
    go_quiet (fail)
    clear hwr;go_wp2
    go_roundw
    case rel=>exact⟨k+1,iv+1,by omega,by omega,by go_num,⟨by have:=HI.out;omega⟩,by repeat(first|exact Drawn0.refl _|apply Drawn0.step)⟩
    case measure=>simp[intOf];omega
   ·have hge:¬iv<(n:Int):=by have:=HI.out;omega
    have hb1:decide (iv<(n:Int))=false:=decide_eq_false hge;go_wp2;go_ret
    exact⟨rfl,by repeat(first|exact Drawn0.refl _|apply Drawn0.step)⟩
theorem Qpa(b:Nat)(v:Value)(l:List Ent)(w:World)(hR:RE w b v l)(hl:l.length≤1099511627776) :
  Calls Tryz.prog 147 #[v,.func (.func 148) #[] #[]] w fun e w'=>e=.returned (.tuple #[])∧RE w' b v (Qor l)∧w.grownBy w' v.ownBlock:=by
 have ho:=RE.own hR
 rcases ho.2 with⟨rfl,hn⟩ |⟨g,cap,cur,rfl,hb,hh,h1,h2,h3,h4⟩
 ·have hcon:=AnyF.slices_SortFunc_none (P:=Tryz.prog) (ρ:=Tryz.sortEnt_ren) { Tryz.sortEnt with } none 0 (.func (.func 148) #[] #[]) w;refine hcon.mono fun e w' ⟨he,hw⟩=>⟨he,?_,?_⟩
  ·have h0:l=[]:=List.eq_nil_of_length_eq_zero (by omega);rw[h0,show Qor []=[] from List.eq_nil_of_length_eq_zero (Qos [])];exact Kd.R_nil _ _ _ _ _
  ·rw[hw];exact World.grownBy.refl w _
 ·have eg:∀args w,(callFunc 148 args).run Tryz.prog w=.ok (.enter 148 args) w:=enters_of Tryz.func148 qq_6 rfl;have hcon:=AnyQ.slices_SortFunc_total Tryz.sortEnt 2 Tryz.isAgg177 Tryz.sizeOf177 encE (fun _=>rfl) (fun x v hv=>by simp[encE]at hv;rcases hv with rfl|rfl<;>rfl) cfE swoE 148 #[] g 0 cap l.toArray w eg (Qou g 0 l.toArray.size w) (Qow ho) (Qdk hh) qq_26 totE;refine hcon.mono fun e w' ⟨he,n,os,hw⟩=>⟨he,?_,?_⟩
  ·rw[hw];have hs:=Qox (n:=n) (os:=os) (m:=Qor l) (Qos l) ho;rw[← Qos l]at hs;have:=RE.of_own hs;rw[Qos l]at this;exact this
  ·rw[hw];exact grownE _
theorem Qpb(l:List Ent):(Qor l).Perm l:=List.mergeSort_perm _ _
theorem Qpc{l:List Ent}(h:l.Nodup):Apart (Qor l):=by
 have hd:(Qor l).Nodup:=(Qpb l).nodup_iff.2 h;intro i hi;have e1:Qih (Qor l) ((i+1:Nat):Int)=(Qor l)[i+1]:=by simp[Qih,List.getElem?_eq_getElem hi]
 have e2:Qih (Qor l) (i:Int)=(Qor l)[i]:=by simp[Qih,List.getElem?_eq_getElem (show i<(Qor l).length by omega)]
 rw[e1,e2]
 by_cases h0:(Qor l)[i+1].f0=(Qor l)[i].f0
 ·by_cases h1:(Qor l)[i+1].f1=(Qor l)[i].f1
  ·exfalso
   have he:(Qor l)[i+1]=(Qor l)[i]:=by
    generalize (Qor l)[i+1]=x at *;generalize (Qor l)[i]=y at *
    cases x;cases y;simp_all
   have h2:=List.pairwise_iff_getElem.1 hd i (i+1) (by omega) hi (by omega);exact h2 he.symm
  ·exact .inr h1
 ·exact .inl h0
theorem Qpd(b:Nat)(v:Value)(l:List Ent)(w:World)(hR:RE w b v l)(hd:l.Nodup)(hl:l.length≤1099511627776) :
  Calls Tryz.prog 87 #[v] w fun e w'=>∃v1,e=.returned v1∧RE w' w.heap.size v1 (Qor l)∧Below w.heap.size w w':=by
 have HR:=QA hR;have HD:=QA (Qpc hd);obtain⟨A,c,rfl⟩:=Kd.R_slice hR;clear hR hd;obtain⟨n,hn⟩:∃n,n=l.length:=⟨_,rfl⟩;rw[← hn]at HR ⊢;have HN:=QA hn;clear hn
 go_enter Tryz.func87,Tryz.ntmps87
 go_wp2_with (first
  |(go_at_call 146;refine(Qoy b _ l _ HR.out hl).mono ?_;rintro e w1 ⟨v1,rfl,hR1,hb1⟩;obtain⟨A1,c1,e1⟩:=Kd.R_slice hR1;rw[← HN.out]at e1;subst e1;have HR1:=QA hR1;clear hR1)
  |(go_at_call 147;refine(Qpa _ _ l _ HR1.out hl).mono ?_;rintro e w2 ⟨rfl,hR2,hg2⟩;have HR2:=QA hR2;have hB2:Below w.heap.size w w2:=(hb1.grown hg2 hb1.size (fun k hk=>Kd.R_base HR1.out k hk));clear hR2 hg2)
  |(go_at_call 149;refine(Qoz A1 n c1 (Qor l) _ (by rw[Qos];exact HN.out) (by have h:=(Kd.R_reads' HR2.out).2.2;rw[Qos,← HN.out]at h;exact h) HD.out (by rw[Qos];exact hl)).mono ?_;rintro e w3 ⟨rfl,hd3⟩))
 go_ret
 refine⟨_,rfl,?_,hB2.trans (Qip hd3.below hB2.size)⟩;exact Kd.R_below HR2.out hd3.below
end Go.Proofs.YtepkfjmjidjedaaGreat.C
end
section
namespace Go.Proofs.YtepkfjmjidjedaaGreat.C
open Go.RowKit Go.Proofs.YtepkfjmjidjedaaGreatW.PrintWords Go.Proofs.YtepkfjmjidjedaaGreatW.PrintLast Go.Proofs.YtepkfjmjidjedaaGreatW.PrintMore
def ltE(x y:Ent):Bool:=decide (cfE x y<0)
def Qpe:List Ent→Bool
 | []=>true
 | [_]=>true
 | a :: b :: t=>ltE a b && Qpe (b :: t)
theorem rdE(l:List Ent)(i:Nat)(h:i<l.length):Qih l (i:Int)=l[i]:=by simp[Qih,List.getElem?_eq_getElem h]
theorem Qpf(x y:Ent)(k:Nat)(hk:4≤k):Qcf.f k x.f0 x.f1 y.f0 y.f1=some (cfE x y):=by
 unfold Qcf.f;rw[Qnf,Option.bind_some,Qng,Option.bind_some,Qde (g:=fun k=>Qah.f k [ci x.f0 y.f0,ci x.f1 y.f1]) (Qah.mono _) hk (or_is _ _),Option.bind_some,Qnh]
theorem Qpg{l:List Ent}{i:Nat}(h:i+1<l.length):Qpe (l.drop i)=(ltE l[i] l[i+1] && Qpe (l.drop (i+1))):=by
 rw[List.drop_eq_getElem_cons (by omega),List.drop_eq_getElem_cons h];rfl
theorem Qph(l:List Ent)(hl:l.length≤1099511627776):∀(d i k:Nat),i+d=l.length→1≤i→d+6≤k→Qcg.l0 k l (i:Int)=some (Qpe (l.drop (i-1)))
 | 0,i,k,h,hi,hk=>by
  obtain⟨k,rfl⟩:∃m,k=m+1:=⟨k-1,by omega⟩;unfold Qcg.l0;rw[if_neg (by omega)];have h1:(l.drop (i-1)).length≤1:=by rw[List.length_drop];omega
  match hd:l.drop (i-1),h1 with
  | [],_=>rfl
  | [_],_=>rfl
 | d+1,i,k,h,hi,hk=>by
  obtain⟨k,rfl⟩:∃m,k=m+1:=⟨k-1,by omega⟩;obtain⟨j,rfl⟩:∃j,i=j+1:=⟨i-1,by omega⟩;have w1:wrap64 (((j+1:Nat):Int)-1)=(j:Int):=by unfold wrap64;omega
  have w2:wrap64 (((j+1:Nat):Int)+1)=((j+2:Nat):Int):=by unfold wrap64;omega
  unfold Qcg.l0;rw[w1,w2,rdE l (j+1) (by omega),rdE l j (by omega)];rw[if_pos (by omega)];clear w1 w2;have hc:=Qpf l[j] l[j+1] k (by omega);have ih:=Qph l hl d (j+2) k (by omega) (by omega) (by omega);rw[show j+2-1=j+1 by omega]at ih;rw[show j+1-1=j by omega,Qpg (by omega)];simp only[if_pos (show(0:Int)≤(j:Int)by omega),if_pos (show(j:Int)<(l.length:Int)by omega),if_pos (show(0:Int)≤((j+1:Nat):Int)by omega),if_pos (show((j+1:Nat):Int)<(l.length:Int)by omega),hc,Option.bind_some,ih];unfold ltE
  by_cases h0:cfE l[j] l[j+1]<0
  ·simp[h0,show ¬(0≤cfE l[j] l[j+1])by omega]
  ·simp[h0,show(0≤cfE l[j] l[j+1])by omega]
theorem Qpi(l:List Ent)(hl:l.length≤1099511627776):Qcg.f (l.length+8) l=some (Qpe l):=by
 unfold Qcg.f
 rcases Nat.eq_zero_or_pos l.length with h0|h0
 ·have h1:l=[]:=List.eq_nil_of_length_eq_zero h0;subst h1;rfl
 ·exact Qph l hl (l.length-1) 1 (l.length+8) (by omega) (by omega) (by omega)
def Qpj(used:Int)(l:List Ent):Int:=if l.length=0 then 4 else if 1048576<l.length then 3 else if Qpe l=false then 8 else if l.any (fun x=>decide (used≤x.f1))=true then 4 else 0
theorem Qpk(used:Int)(tv:Value)(B:Nat)(w:World)(hv:w.heap[B]? = some (.cells #[.int .u32 used,tv] 169 (0,0))) :
  PredBelow Tryz.prog 199 #[.pointer (some ⟨B,0,none⟩)] (fun x=>.agg (encE x).toArray) (fun x=>decide (used≤x.f1)) w:=fun W x hb=>by
 have hB:=Qdk hv;have hc:W.cell? ⟨B,0,none⟩=some (.int .u32 used):=(Qdl (Qdy hv hb) 0).trans rfl;have hne:B≠W.heap.size:=by have:=hb.size;omega
 have hu:=Tryz.underlying177;have hu2:=Tryz.underlying169;have hBW:B<W.heap.size:=Nat.lt_of_lt_of_le hB hb.size;show Calls Tryz.prog 199 #[.agg #[.int .u64 x.f0,.int .u32 x.f1],.pointer (some ⟨B,0,none⟩)] W _;have b1:=Qdz W (.cells #[.int .u64 x.f0,.int .u32 x.f1] 177);have hb1:Below W.heap.size W (W.alloc (.cells #[.int .u64 x.f0,.int .u32 x.f1] 177)):=Qcn (Below.refl _ _) _;have hca:(W.alloc (.cells #[.int .u64 x.f0,.int .u32 x.f1] 177)).cell? ⟨B,0,none⟩=some (.int .u32 used):=(Qdl (Qdv (Qdy hv hb) _) 0).trans rfl;have hcb:(W.alloc (.cells #[.int .u64 x.f0,.int .u32 x.f1] 177)).cell? ⟨W.heap.size,1,none⟩=some (.int .u32 x.f1):=(Qdl b1 1).trans rfl
 go_enter Tryz.func199,Tryz.ntmps199
 go_wp2;go_ret
 exact⟨rfl,hb.alloc hb.size _⟩
theorem Qpl(b:Nat)(used:Int)(A:Option Addr)(n c:Nat)(l:List Ent)(w:World)(hn:n=l.length)(hR:RE w b (.slice A n c) l)(hl:l.length≤1099511627776) :
  Calls Tryz.prog 140 #[.agg #[.int .u32 used,.slice A n c]] w fun e w'=>e=.returned (.int .i64 (Qpj used l))∧Below w.heap.size w w':=by
 have hu:=Tryz.underlying169;have hmf:∀(fn:Fn) (first cap:Array Value) (w:World),(Instr.makeFunc fn first cap).run Tryz.prog w=.ok (.func fn first cap) w:=fun _ _ _ _=>rfl
 have hb1:Below w.heap.size w (w.alloc (.cells #[.int .u32 used,.slice A n c] 169)):=Qcn (Below.refl _ _) _;have bk:=Qdz w (.cells #[.int .u32 used,.slice A n c] 169);have hc0:(w.alloc (.cells #[.int .u32 used,.slice A n c] 169)).cell? ⟨w.heap.size,0,none⟩=some (.int .u32 used):=(Qdl bk 0).trans rfl;have hc1:(w.alloc (.cells #[.int .u32 used,.slice A n c] 169)).cell? ⟨w.heap.size,1,none⟩=some (.slice A n c):=(Qdl bk 1).trans rfl;have HR:=QA hR;have HN:=QA hn;have hk:Calls Tryz.prog 140 #[.agg #[.int .u32 used,.slice A n c]] w fun e w'=>e=.returned (.int .i64 (if n=0 then 4 else if 1048576<n then 3 else if Qpe l=false then 8 else if l.any (fun x=>decide (used≤x.f1))=true then 4 else 0))∧Below w.heap.size w w':=by
  by_cases h0:n=0
  ·rw[if_pos h0];have e0:((n:Int) == 0)=true:=beq_iff_eq.2 (by omega);have E0:=QA h0;clear h0 hn hR hl
   go_enter Tryz.func140,Tryz.ntmps140
   go_wp2;go_ret
   exact⟨rfl,hb1⟩
  rw[if_neg h0];have e0:((n:Int) == 0)=false:=beq_eq_false_iff_ne.2 (by omega)
  by_cases h1:1048576<n
  ·rw[if_pos h1];have e1:decide ((1048576:Int)<(n:Int))=true:=decide_eq_true (by omega);clear hn hR hl h0
   go_enter Tryz.func140,Tryz.ntmps140
   go_wp2;go_ret
   exact⟨rfl,hb1⟩
  rw[if_neg h1];have e1:decide ((1048576:Int)<(n:Int))=false:=decide_eq_false (by omega);have hris:=Qpi l hl;have HRI:=QA hris;have hC:Kd.C k177 (w.alloc (.cells #[.int .u32 used,.slice A n c] 169)) A n l:=by
   have h:=Kd.R_reads' hR;rw[hn];exact Kd.C_alloc h.2.2 _
  have hcap:n≤c:=(Kd.R_reads' hR).2.1;have hpos:0<l.length:=by omega
  obtain⟨g,cap,hf,hbg,hgl,cells,hgc⟩:=Kd.R_form hR hpos
  injection hf with hf1 hf2 hf3
  subst hf1;obtain⟨r,hr⟩:∃r,r=Qpe l:=⟨_,rfl⟩;rw[← hr]at HRI ⊢;clear hr;have hcall:∀W,Kd.C k177 W (some ⟨g,0,none⟩) n l→Calls Tryz.prog 200 #[.slice (some ⟨g,0,none⟩) n c] W fun e w'=>e=.returned (.bool r)∧Below W.heap.size W w':=by
   intro W hCW;have hcw2:=hCW;rw[hn]at hCW ⊢;exact Qcg.calls _ _ c l r W hCW (by omega) HRI.out
  have HCL:=QA hcall;have HC:=QA hC;clear hris hcall hC hn hgc hf2 hf3
  cases r with
  | false =>
   rw[if_pos rfl];clear hR hl h0 h1
   go_enter Tryz.func140,Tryz.ntmps140
   go_wp2_with (go_at_call 200;refine(HCL.out _ HC.out).mono ?_;rintro e w1 ⟨rfl,hb2⟩)
   go_ret
   exact⟨rfl,Qcq hb1 hb1.size hb2⟩
  | true =>
   rw[if_neg (by decide)];obtain⟨q,hq⟩:∃q,q=l.any (fun x=>decide (used≤x.f1)):=⟨_,rfl⟩;rw[← hq];have eg:∀args w,(callFunc 199 args).run Tryz.prog w=.ok (.enter 199 args) w:=enters_of Tryz.func199 qq_6 rfl;have hany:∀W1:World,Below (w.alloc (.cells #[.int .u32 used,.slice (some ⟨g,0,none⟩) n c] 169)).heap.size (w.alloc (.cells #[.int .u32 used,.slice (some ⟨g,0,none⟩) n c] 169)) W1 →
     Calls Tryz.prog 201 #[.slice (some ⟨g,0,none⟩) n c,.func (.func 199) #[] #[.pointer (some ⟨w.heap.size,0,none⟩)]] W1 fun e w'=>e=.returned (.bool q)∧Below W1.heap.size W1 w':=by
    intro W1 hW1;have hRW:=Kd.R_below (Kd.R_below HR.out hb1) hW1;have hown:=RE.own hRW;have hH:=Qow (b:=b) (g:=g) (cap:=c) (l:=l) (by rw[← HN.out];rw[← HN.out]at hown;exact hown);have hcon:=AnyQ.slices_ContainsFunc Tryz.hasEnt 2 Tryz.isAgg177 Tryz.sizeOf177 encE (fun _=>rfl) (fun x=>decide (used≤x.f1)) 199 #[.pointer (some ⟨w.heap.size,0,none⟩)] eg g 0 n c l W1
     (Qpk used _ w.heap.size W1 (Qdy bk hW1)) qq_21 qq_21 (by have:=hW1.size;rw[World.size_alloc]at this;omega) (fun j hj i v hv=>by
      have h2:=Qop l j;have hjl:l[j]? = some l[j]!:=by rw[List.getElem?_eq_getElem hj,getElem!_pos l j hj]
      rw[hjl]at h2;generalize l[j]! = x at *;have key:(Qom l)[2*j+i]? = some v:=by
       match i,hv with
       | 0,hv=>simp[encE]at hv;rw[← hv];exact h2.1
       | 1,hv=>simp[encE]at hv;rw[← hv];exact h2.2
       | i+2,hv=>simp[encE]at hv
      have hlt:j*2+i<l.length*2:=by
       have:=(List.getElem?_eq_some_iff.1 key).1;rw[Qon]at this;omega
      rcases hown.2 with⟨hn',_⟩ |⟨g',cap',cur,he,hb',hh,hh1,hh2,hh3,hh4⟩
      ·cases hn'
      cases he
      have h5:(cur.toList.take (l.length*2))[j*2+i]? = (Qom l)[j*2+i]?:=by rw[hh4]
      rw[List.getElem?_take_of_lt hlt]at h5;simp only[World.cell?,hh,Nat.zero_add];simp only[Option.isSome_none,Bool.false_eq_true,if_false];rw[← Array.getElem?_toList,h5,show j*2+i=2*j+i by omega,key])
    rw[List.take_of_length_le qq_21,← hq]at hcon;exact hcon
   have HA:=QA hany;clear hany hR hl h0 h1 hq eg
   cases q with
   | true =>
    rw[if_pos rfl]
    go_enter Tryz.func140,Tryz.ntmps140
    go_wp2_with (first
     |(go_at_call 200;refine(HCL.out _ HC.out).mono ?_;rintro e w1 ⟨rfl,hb2⟩;have hk2:=Qdy bk hb2;have hd1:w1.cell? ⟨w.heap.size,1,none⟩=some (.slice (some ⟨g,0,none⟩) n c):=(Qdl hk2 1).trans rfl)
     |(go_at_call 201;refine(HA.out _ hb2).mono ?_;rintro e w2 ⟨rfl,hb3⟩))
    go_ret
    exact⟨rfl,Qcq (Qcq hb1 hb1.size hb2) (Nat.le_trans hb1.size hb2.size) hb3⟩
   | false =>
    rw[if_neg (by decide)]
    go_enter Tryz.func140,Tryz.ntmps140
    go_wp2_with (first
     |(go_at_call 200;refine(HCL.out _ HC.out).mono ?_;rintro e w1 ⟨rfl,hb2⟩;have hk2:=Qdy bk hb2;have hd1:w1.cell? ⟨w.heap.size,1,none⟩=some (.slice (some ⟨g,0,none⟩) n c):=(Qdl hk2 1).trans rfl)
     |(go_at_call 201;refine(HA.out _ hb2).mono ?_;rintro e w2 ⟨rfl,hb3⟩))
    go_ret
    exact⟨rfl,Qcq (Qcq hb1 hb1.size hb2) (Nat.le_trans hb1.size hb2.size) hb3⟩
 refine hk.mono fun e w' ⟨he,hb⟩=>⟨?_,hb⟩
 rw[he];unfold Qpj;rw[HN.out]
def Qpm(used:Int)(l:List Ent):List Int:=Qmm ([4]++leb l.length 4++leb used 4++l.flatMap ent++(Qnp l).flatMap (fun x=>leb x 8))
theorem RU.tk{W W':World}{b g:Nat}{v:Value}{xs:List Int}{ys:List Int}{b':Nat}(h:RU W b v xs)(hI:IsBuf W b' g ys)(hT:Tk g W W'):RU W' b v xs:=by
 obtain⟨u,hu,_⟩:=hI;refine Kd.R_mono (Kd.R_step (Kd.R_bound h) (fun k hk _=>?_)) (fun _ _=>trivial);obtain⟨q,hq,cells,hc⟩:=hk.2.2.2;have hq':q=32:=by simpa [Kd.int,Kd.scalar]using hq
 subst hq';rw[hc];exact hT k cells _ hc (by decide) (Qdo hc hu (by decide))
theorem Qpn{W:World}{B:Nat}{u:Int}{v:Value}(h:W.heap[B]? = some (.cells #[.int .u32 u,v] 169 (0,0))):W.cell? ⟨B,0,none⟩=some (.int .u32 u)∧W.cell? ⟨B,1,none⟩=some v :=
 ⟨(Qdl h 0).trans rfl,(Qdl h 1).trans rfl⟩
theorem Qpo{l:List Ent}(hwf:∀x∈l,(0≤x.f0∧x.f0<18446744073709551616)∧0≤x.f1∧x.f1<4294967296):∀x∈Qnp l,0≤x∧x<18446744073709551616:=by
 intro x hx;unfold Qnp at hx;obtain⟨k,hk,rfl⟩:=List.mem_map.1 hx;have hk':=List.mem_range.1 hk;have hkl:k*16<l.length:=by unfold chN at hk';omega
 unfold Qno;rw[rdE l (k*16) hkl];exact(hwf _ (List.getElem_mem hkl)).1
theorem Qpp(l:List Ent):(Qnp l).length=chN l.length:=by simp[Qnp]
theorem Qpq(x y:Int)(l:List Ent):([]++[4]++leb x 4++leb y 4++l.flatMap ent).length=9+12*l.length:=by
 rw[List.length_append,List.length_append,List.length_append,List.length_append,Qin,Qin,Qkd];rfl
theorem Qpr(x y:Int)(l:List Ent):([]++[4]++leb x 4++leb y 4++l.flatMap ent++(Qnp l).flatMap (fun x=>leb x 8)).length=9+12*l.length+8*(Qnp l).length:=by
 rw[List.length_append,Qpq,Qka]
theorem Qps(b:Nat)(used:Int)(A:Option Addr)(n c:Nat)(l:List Ent)(w:World)(hn:n=l.length)(hR:RE w b (.slice A n c) l)(hchk:Qpj used l=0)(hu0:0≤used)(hu1:used<4294967296)
  (hwf:∀x∈l,(0≤x.f0∧x.f0<18446744073709551616)∧0≤x.f1∧x.f1<4294967296) :
  Calls Tryz.prog 86 #[.agg #[.int .u32 used,.slice A n c]] w fun e w'=>∃v,e=.returned (.tuple #[v,.int .i64 0])∧R8 w' w.heap.size v (Qpm used l)∧Below w.heap.size w w':=by
 have hu:=Tryz.underlying169;have p:n≠0:=by intro h;unfold Qpj at hchk;rw[if_pos (by omega)]at hchk;cases hchk
 have q:n≤1048576:=by
  apply Decidable.byContradiction;intro h;unfold Qpj at hchk;rw[if_neg (by omega),if_pos (by omega)]at hchk
  cases hchk
 have hpos:0<l.length:=by omega
 obtain⟨g,cap,hf,hbg,hgl,cells,hgc⟩:=Kd.R_form hR hpos
 injection hf with hf1 hf2 hf3
 subst hf1;have hcap:n≤c:=(Kd.R_reads' hR).2.1;have hC:Kd.C k177 w (some ⟨g,0,none⟩) n l:=by
  have h:=Kd.R_reads' hR;rw[hn];exact h.2.2
 have HN:=QA hn;have HR:=QA hR;have HCK:=QA (Qpl b used (some ⟨g,0,none⟩) n c l w hn hR (by omega));have hck:Aside0 (Qpj used l=0):=⟨hchk⟩;have HC:=QA hC;have HWF:=QA hwf;have hbn:=Qdz w (.cells #[.int .u32 used,.slice (some ⟨g,0,none⟩) n c] 169);have hba:Below w.heap.size w (w.alloc (.cells #[.int .u32 used,.slice (some ⟨g,0,none⟩) n c] 169)):=Qcn (Below.refl _ _) _;have HRa:=QA (Kd.R_alloc hR (.cells #[.int .u32 used,.slice (some ⟨g,0,none⟩) n c] 169));have hmod:(n:Int)%4294967296=(n:Int):=by omega
 have HM:=QA hmod;obtain⟨c0,c1⟩:=Qpn hbn;clear hn hR hchk hC hwf hgc hf2 hf3 hmod hpos
 go_enter Tryz.func86,Tryz.ntmps86
 go_wp2_with (first
  |(go_at_call 140;refine(Qpl b used (some ⟨g,0,none⟩) n c l _ HN.out HRa.out qq_21).mono ?_;rw[hck.out];rintro ee w1 ⟨rfl,hb1⟩;have hk1:=Qdy hbn hb1;have hw1:=QA (Qcq hba hba.size hb1);have hs1':=QA (show w.heap.size<w1.heap.size from Qdk hk1);have HI1:=QA (IsBuf.new w1 w.heap.size);have hk1':=Qdv hk1 (.cells #[.slice none 0 0] 207);clear hk1 hb1 hbn hba c0 c1;obtain⟨c0,c1⟩:=Qpn hk1'))
 obtain⟨W,hW⟩:∃W,W=w1.alloc (.cells #[.slice none 0 0] 207):=⟨_,rfl⟩;have hbW:Below w1.heap.size w1 W:=by rw[hW];exact Qcn (Below.refl _ _) _
 rw[← hW]at hk1' c0 c1 HI1 ⊢;clear hW;have hkd:=Qdy hk1' (Qco (Below.refl W.heap.size W));have hId:=HI1.out.kept (Qco (Below.refl W.heap.size W));obtain⟨j0,j1⟩:=Qpn hkd;have hg:=Nat.le_of_lt hs1'.out;have hzd:w.heap.size≤W.drew.heap.size:=Nat.le_trans hg hbW.size;have hne:=Nat.ne_of_lt hs1'.out;have hnn0:(0:Int)≤(n:Int):=by omega
 have hnn1:(n:Int)≤1048576:=by omega
 have j:(0:Int)≤(n:Int)%4294967296:=by omega
 have k:(n:Int)%4294967296<4294967296:=by omega
 go_region_held3 (fun w'=>w'.cell? ⟨w.heap.size,0,none⟩=some (.int .u32 used)∧w'.cell? ⟨w.heap.size,1,none⟩=some (.slice (some ⟨g,0,none⟩) n c)) (first|exact⟨j0,j1⟩|exact⟨i0,i1⟩|exact⟨i2,i3⟩|exact⟨i4,i5⟩) (first
  |(go_at_call 141;refine(Qit w.heap.size w1.heap.size 4 [] W.drew (by decide) (by decide) hg hzd hId (by simp)).mono ?_;rintro ee w2 ⟨rfl,hI2,hb2⟩;have hk2:=hb2.2 _ _ _ hkd (by decide) hne;obtain⟨i0,i1⟩:=Qpn hk2)
  |(go_at_call_of 142 (Value.int .u32 used);refine(Qiv w.heap.size w1.heap.size used _ w3 hu0 hu1 hg (Nat.le_trans (Nat.le_trans hzd hb2.size) hb3.size) hI3 qq_25).mono ?_;rintro ee w4 ⟨rfl,hI4,hb4⟩;have hk4:=hb4.2 _ _ _ hk3 (by decide) hne;obtain⟨i4,i5⟩:=Qpn hk4)
  |(go_at_call 142;refine(Qiv w.heap.size w1.heap.size ((n:Int)%4294967296) ([]++[4]) w2 j k hg (Nat.le_trans hzd hb2.size) hI2 (by simp)).mono ?_;rintro ee w3 ⟨rfl,hI3,hb3⟩;have hk3:=hb3.2 _ _ _ hk2 (by decide) hne;obtain⟨i2,i3⟩:=Qpn hk3))
 have hz4:w.heap.size≤w4.heap.size:=Nat.le_trans (Nat.le_trans (Nat.le_trans hzd hb2.size) hb3.size) hb4.size;have a:=QA (show Below w.heap.size w w4 from((((hw1.out.trans (Qip hbW hg)).trans (Qip (Qco (Below.refl W.heap.size W)) (Nat.le_trans hg hbW.size))).trans hb2.1).trans hb3.1).trans hb4.1);clear i0 i1 i2 i3 j0 j1 c0 c1 hk2 hk3 hb2 hb3 hb4 hI2 hI3 hkd hId;have hlt:(Qnp l).length≤65536:=by rw[Qpp];unfold chN;have:=HN.out;omega
 have hCw:∀W',Below w.heap.size w W'→Kd.C k177 W' (some ⟨g,0,none⟩) l.length l:=by
  intro W' hb;have:=Kd.C_below HC.out hb;rw[HN.out]at this;exact this
 have HCW:=QA hCw;clear hCw;have htab:∀(xs:List Int) (W':World),xs.length≤100→Below w.heap.size w W'→IsBuf W' w.heap.size w1.heap.size xs→w.heap.size≤W'.heap.size →
   Calls Tryz.prog 143 #[.pointer (some ⟨w1.heap.size,0,none⟩),.slice (some ⟨g,0,none⟩) n c] W' fun e w'=>(∃v,e=.returned v)∧IsBuf w' w.heap.size w1.heap.size (xs++l.flatMap ent)∧Bw w.heap.size w1.heap.size W' w':=by
  intro xs W' hxs hb hI hz;rw[HN.out];exact Qke w.heap.size w1.heap.size (some ⟨g,0,none⟩) c l xs W' (fun W2 h2=>HCW.out W2 (hb.trans h2.1)) HWF.out hg hz hI qq_21
 have HT:=QA htab;clear htab
 go_wp2_with (first
  |(go_at_call 143;refine(HT.out _ w4 qq_25 a.out hI4 hz4).mono ?_;rintro ee w5 ⟨⟨_,rfl⟩,hI5,hb5⟩;have hk5:=hb5.2 _ _ _ hk4 (by decide) hne;clear i4 i5;obtain⟨i6,i7⟩:=Qpn hk5;have hz5:w.heap.size≤w5.heap.size:=Nat.le_trans hz4 hb5.size;have d:=QA (a.out.trans hb5.1))
  |(go_at_call 145;refine(Qns ⟨g,0,none⟩ c n l w5 HN.out (by have:=HCW.out w5 d.out;rw[← HN.out]at this;exact this) hcap (by omega)).mono ?_;rintro ee w6 ⟨⟨v6,rfl,hR6⟩,hb6⟩;obtain⟨A6,c6,rfl⟩:=Kd.R_slice hR6;have hI6:=hI5.kept hb6;have m:=QA (Qcq d.out hz5 hb6);have hz6:w.heap.size≤w6.heap.size:=Nat.le_trans hz5 hb6.size)
  |(go_at_call 144;refine(Qkb w.heap.size w1.heap.size A6 c6 (Qnp l) _ w6 (fun W2 h2=>(Kd.R_reads' (RU.tk hR6 hI6 h2.2)).2.2) (Qpo HWF.out) hg hz6 hI6 (by rw[Qpq];have:=HN.out;omega)).mono ?_;rintro ee w7 ⟨⟨_,rfl⟩,hI7,hb7⟩;have hz7:w.heap.size≤w7.heap.size:=Nat.le_trans hz6 hb7.size;have o:=QA (m.out.trans hb7.1))
  |(go_at_call 118;refine(Qja w.heap.size w1.heap.size _ w7 hI7 (by rw[Qpr];have:=HN.out;omega)).mono ?_;rintro ee w8 ⟨v8,rfl,hR8,hb8⟩;obtain⟨A8,n8,c8,rfl,r,hlc8,hC8⟩:=R8.reads hR8)
  |(go_at_call 138;refine(Qms A8 n8 c8 _ w8 hC8 (by rw[Qpr];have:=HN.out;omega)).mono ?_;rintro ee w9 ⟨v9,rfl,hR9,hb9⟩))
 refine bodyPost_ret (results_tmp2 rfl _ _ _) rfl ?_;have hz8:w.heap.size≤w8.heap.size:=Nat.le_trans hz7 hb8.size;refine⟨v9,rfl,?_,(o.out.trans (Qip hb8 hz7)).trans (Qip hb9 hz8)⟩;have hL:=R8.low hR9 hz8;unfold Qpm;rw[HM.out,HN.out]at hL;exact hL
theorem bd_Seal(b g:Nat)(R:Room5)(fr:List Int)(tb:List S177)(sz:Nat)(w:World)(hI:IsBd w b g R fr tb)(hbw:b≤w.heap.size)(htb:tb≠[])(hnd:tb.Nodup)(htl:tb.length≤1099511627776)
  (hwf:∀x∈tb,(0≤x.f0∧x.f0<18446744073709551616)∧0≤x.f1∧x.f1<4294967296) (hchk:Qpj ((fr.length:Int)%4294967296) (Qor tb)=0)
  (hsz:Qam.f R.1 R.2.1=some (sz:Int)) (hle:fr.length+(Qpm ((fr.length:Int)%4294967296) (Qor tb)).length≤sz) (hs2:sz≤70368744177664) :
  Calls Tryz.prog 44 #[.pointer (some ⟨g,0,none⟩)] w fun e w'=>∃v:Value,e=.returned (.tuple #[v,.int .i64 0])∧R8 w' w.heap.size v (fr++Qpm ((fr.length:Int)%4294967296) (Qor tb)++List.replicate (sz-(fr++Qpm ((fr.length:Int)%4294967296) (Qor tb)).length) 255)∧Below w.heap.size w w':=by
 have hu:=Tryz.underlying169;have hu3:=Tryz.underlying165;obtain⟨F,hF⟩:∃F,F=Qpm ((fr.length:Int)%4294967296) (Qor tb):=⟨_,rfl⟩;rw[← hF]at hle ⊢;have HF:=QA hF;have HI:=QA hI;obtain⟨fv,tv,hv,hR,hT⟩:=hI;obtain⟨AT,cT,rfl⟩:=Kd.R_slice hT;obtain⟨nT,hnT⟩:∃nT,nT=tb.length:=⟨_,rfl⟩;rw[← hnT]at hv hT;obtain⟨A,n,c,rfl,hn,hlc,hC⟩:=R8.reads hR;have hv':Qnc w g R (.slice A n c) (.slice AT nT cT):=hv;have hpos:0<nT:=by rw[hnT];exact List.length_pos_iff.2 htb
 have hb0:((nT:Int) == 0)=false:=beq_eq_false_iff_ne.2 (by omega);have hvd:Qnc w.drew g R (.slice A n c) (.slice AT nT cT):=hv';obtain⟨g0,g1,g2,g3,g4,g5,g6⟩:=Qnd hv';obtain⟨d0,d1,d2,d3,d4,d5,d6⟩:=Qnd hvd;have HNT:=QA hnT;have HT:=QA hT;have HV:=QA hvd;have HND:=QA hnd;have HWF:=QA hwf;have HCK:=QA hchk;have HSZ:=QA hsz;have j:(0:Int)≤(n:Int)%4294967296:=by omega
 have k:(n:Int)%4294967296<4294967296:=by omega
 have hTd:RE w.drew b (.slice AT nT cT) tb:=Kd.R_drew hT;have HTD:=QA hTd;clear hF hR hT hv hC hv' hvd hnT hnd hwf hchk hsz hTd htb
 go_enter Tryz.func44,Tryz.ntmps44
 go_wp2_with fail
 go_region_held3 (fun w'=>w'.cell? ⟨g,5,none⟩=some (.slice A n c)∧w'.cell? ⟨g,6,none⟩=some (.slice AT nT cT)) (first|exact⟨d5,d6⟩|exact⟨i5,i6⟩|exact⟨k5,k6⟩) (first
  |(go_at_call 87;refine(Qpd b _ tb w.drew HTD.out HND.out htl).mono ?_;rintro e w1 ⟨v1,rfl,hR1,hb1⟩;have hv1:Qnc w1 g R (.slice A n c) (.slice AT nT cT):=Qdy (w:=w.drew) HV.out hb1;obtain⟨i0,i1,i2,i3,i4,i5,i6⟩:=Qnd hv1;obtain⟨A1,c1,rfl⟩:=Kd.R_slice hR1)
  |(go_at_call 86;refine(Qps w.drew.heap.size ((n:Int)%4294967296) A1 _ c1 (Qor tb) w1 rfl hR1 (by rw[hn.out];exact HCK.out) j k (fun x hx=>HWF.out x ((Qpb tb).mem_iff.1 hx))).mono ?_;rintro e w2 ⟨v2,rfl,hR2,hb2⟩;have hv2:Qnc w2 g R (.slice A n c) (.slice AT nT cT):=Qdy hv1 hb2;obtain⟨k0,k1,k2,k3,k4,k5,k6⟩:=Qnd hv2;obtain⟨A2,n2,c2,rfl,l,hl2,hC2⟩:=R8.reads hR2))
 have a:=QA (show Below w.heap.size w w2 from((Qco (Below.refl _ _)).trans hb1).trans (Qip hb2 hb1.size));have HI2:=QA (HI.out.kept a.out);have hR2':R8 w2 w1.heap.size (.slice A2 n2 c2) F:=by rw[HF.out,← hn.out];exact hR2
 have hC2':Kd.C (Kd.int .u8) w2 A2 n2 F:=by
  have h:=Kd.R_reads' hR2';rw[h.1];exact h.2.2
 have d:n2=F.length:=(Kd.R_reads' hR2').1;have m:=QA hC2';have HN2:=QA d;have hz2:b≤w2.heap.size:=Nat.le_trans hbw a.out.size;clear hR1 hb1 hR2 hb2 hv1 hv2 l hC2 i0 i1 i2 i3 i4 i5 i6 d0 d1 d2 d3 d4 d5 d6 g0 g1 g2 g3 g4 g5 g6 hR2' hC2' d
 go_wp2_with (first
  |(go_at_call 89;refine(Qmz b g R fr tb w2 HI2.out (by omega)).mono ?_;rintro e w3 ⟨v3,rfl,hR3,hb3⟩;have o:=QA (Kd.C_below m.out hb3))
  |(at_builtin;go_loud (refine Kd.R_append_rows (Kd.int .u8) (Rr:=fun x cs=>cs=[.int .u8 x]) (w0:=w3) w2.heap.size rfl (.tmp 33) (.tmp 34) 47 5 (.int .u8 0) 1 rfl Tryz.underlying47 Qhx rfl (by decide) (by omega) v3 fr F A2 n2 c2 (fun _=>True) (fun _=>False) rfl rfl hR3 o.out (fun _ _ h=>h) (fun _ hk=>hk.elim) (fun _ _=>trivial) (Below.refl _ _) hb3.size ?bL ?_;(case bL=>have:=HN2.out;omega);intro v4 w4 hR4 hb4 p hat4))
  |(go_at_call 88;go_loud (refine(Qna b w2.heap.size g R fr tb (fr++F) v4 sz w4 (HI2.out.kept (hb3.trans hb4)) hR4 (Nat.le_trans hb3.size hb4.size) HSZ.out (by rw[List.length_append];exact hle) hs2).mono ?_;rintro e w5 ⟨v5,rfl,hR5,hb5⟩)))
 refine bodyPost_ret (results_tmp2 rfl _ _ _) rfl ?_;refine⟨v5,rfl,?_,?_⟩
 ·exact R8.low hR5 a.out.size
 ·exact a.out.trans (Qip ((hb3.trans hb4).trans hb5) a.out.size)
abbrev Rec:=S36
abbrev Bd:=Room5 × List Int × List Ent
def newB(e s n:Int):Option Bd :=
 (Qbw.f e s n).bind fun q=>(Qbm.f e s n).bind fun p =>
  if q.2.2.2.2.2=0∧p.2=0∧q.1=e∧q.2.1=s∧q.2.2.1=n then some ((e,s,n,q.2.2.2.1,q.2.2.2.2.1),p.1,[])else none
def addB (B:Bd) (r:Rec):Option Bd :=
 if chk r.f0 r.f2 r.f3=0 then
  (Qbn.f r.f0 r.f1 r.f2 r.f3).bind fun p=>(Qcb.f B.1.1 B.1.2.1 p.1.length).bind fun tl =>
   (Qca.f B.1.1 B.1.2.1 B.1.2.2.1 B.1.2.2.2.1 B.1.2.2.2.2 p.1.length).bind fun q =>
    if p.2=0∧tl=false∧q.2.2.2.2.2=0∧B.2.1.length+p.1.length≤70368744177664∧B.2.2.length≤1099511627776 then
     some ((q.1,q.2.1,q.2.2.1,q.2.2.2.1,q.2.2.2.2.1),B.2.1++p.1,B.2.2++[⟨Qkm 0 (bytesOf r.f2),(B.2.1.length:Int)%4294967296⟩])
    else none
 else none
def wfE(x:Ent):Prop:=(0≤x.f0∧x.f0<18446744073709551616)∧0≤x.f1∧x.f1<4294967296
instance (x:Ent):Decidable (wfE x):=by unfold wfE;exact inferInstance
def Qpt(B:Bd):Int:=(B.2.1.length:Int)%4294967296
def Qpu(B:Bd):Option (List Int) :=
 (Qam.f B.1.1 B.1.2.1).bind fun sz =>
  if B.2.2.length≠0∧B.2.2.length≤1099511627776∧(∀x∈B.2.2,wfE x)∧Qpj (Qpt B) (Qor B.2.2)=0∧((B.2.1.length+(Qpm (Qpt B) (Qor B.2.2)).length:Nat):Int)≤sz∧sz≤70368744177664 then
   some (B.2.1++Qpm (Qpt B) (Qor B.2.2)++List.replicate (sz.toNat-(B.2.1++Qpm (Qpt B) (Qor B.2.2)).length) 255)
  else none
def Qpv(B:Bd):Option (List Int) :=
 (Qam.f B.1.1 B.1.2.1).bind fun sz=>if(B.2.1.length:Int)≤sz∧sz≤70368744177664 then some (B.2.1++List.replicate (sz.toNat-B.2.1.length) 255)else none
abbrev IsB(W:World)(b g:Nat)(B:Bd):Prop:=IsBd W b g B.1 B.2.1 B.2.2
theorem Qpw(e s n:Int)(B:Bd)(w:World)(h:newB e s n=some B) :
  Calls Tryz.prog 45 #[.agg #[.int .u8 e,.int .u32 s],.int .u32 n] w fun ee w'=>∃g,ee=.returned (.tuple #[.pointer (some ⟨g,0,none⟩),.int .i64 0])∧IsB w' w.heap.size g B∧Below w.heap.size w w'∧w.heap.size≤g:=by
 unfold newB at h;obtain⟨q,hq,h⟩:=Option.bind_eq_some_iff.mp h;obtain⟨p,hp,h⟩:=Option.bind_eq_some_iff.mp h;obtain⟨q1,q2,q3,q4,q5,q6⟩:=q;obtain⟨p1,p2⟩:=p;split at h
 ·rename_i hc;obtain⟨h1,h2,h3,h4,h5⟩:=hc;dsimp only at h1 h2 h3 h4 h5;subst h1 h2 h3 h4 h5
  cases h
  exact Qmy q1 q2 q3 q4 q5 p1 w hq hp
 ·cases h
theorem add_ofT(b g:Nat)(B B':Bd)(r:Rec)(w:World)(hI:IsB w b g B)(hbg:b≤g)(hbw:b≤w.heap.size)(h:addB B r=some B') :
  Calls Tryz.prog 46 #[.pointer (some ⟨g,0,none⟩),.agg #[.bool r.f0,.int .u64 r.f1,.string r.f2,.string r.f3]] w fun e w'=>e=.returned (.tuple #[.int .u32 ((B.2.1.length:Int)%4294967296),.int .i64 0])∧IsB w' b g B'∧Below b w w'∧Tb g w w':=by
 unfold addB at h;split at h
 ·rename_i hchk;obtain⟨p,hp,h⟩:=Option.bind_eq_some_iff.mp h;obtain⟨tl,htl,h⟩:=Option.bind_eq_some_iff.mp h;obtain⟨q,hq,h⟩:=Option.bind_eq_some_iff.mp h;obtain⟨q1,q2,q3,q4,q5,q6⟩:=q;obtain⟨p1,p2⟩:=p;split at h
  ·rename_i hc;obtain⟨h1,h2,h3,h4,h5⟩:=hc;dsimp only at h1 h2 h3 h4 h5 hq htl;subst h1 h2 h3
   cases h
   have hk:=(Qmg hchk).1;exact bd_Add b g B.1 (q1,q2,q3,q4,q5) B.2.1 p1 B.2.2 r.f0 r.f1 r.f2 r.f3 w hI hbg hbw hchk hp htl hq h4 (by omega) h5
  ·cases h
 ·cases h
theorem Qpx(b g:Nat)(B B':Bd)(r:Rec)(w:World)(hI:IsB w b g B)(hbg:b≤g)(hbw:b≤w.heap.size)(h:addB B r=some B') :
  Calls Tryz.prog 46 #[.pointer (some ⟨g,0,none⟩),.agg #[.bool r.f0,.int .u64 r.f1,.string r.f2,.string r.f3]] w fun e w'=>e=.returned (.tuple #[.int .u32 ((B.2.1.length:Int)%4294967296),.int .i64 0])∧IsB w' b g B'∧Below b w w' :=
 (add_ofT b g B B' r w hI hbg hbw h).mono fun _ _ ⟨h1,h2,h3,_⟩=>⟨h1,h2,h3⟩
theorem Qpy:∀ {l:List Ent},Qpe l=true→l.Pairwise (fun x y=>cfE x y<0)
 | [],_=>List.Pairwise.nil
 | [a],_=>by simp
 | a :: b :: t,h=>by
  simp only[Qpe,Bool.and_eq_true]at h;have ih:=Qpy h.2;refine List.Pairwise.cons (fun x hx=>?_) ih;have hab:cfE a b<0:=by simpa [ltE]using h.1
  rcases List.mem_cons.1 hx with rfl|hx
  ·exact hab
  ·have hbx:=List.rel_of_pairwise_cons ih hx;have t1:ltOf cfE a b=true:=by simpa [Go.Proofs.ltOf]using hab
   have t2:ltOf cfE b x=true:=by simpa [Go.Proofs.ltOf]using hbx
   have:=swoE.trans a b x t1 t2
   simpa [Go.Proofs.ltOf]using this
theorem cfE_irr(x:Ent):¬cfE x x<0:=by
 have:=swoE.irrefl x
 simpa [Go.Proofs.ltOf]using this
theorem Qpz{u:Int}{l:List Ent}(h:Qpj u (Qor l)=0):l.Nodup:=by
 have hr:Qpe (Qor l)=true:=by
  unfold Qpj at h;split at h
  ·cases h
  split at h
  ·cases h
  split at h
  ·cases h
  ·rename_i h1;simpa using h1
 have hp:=Qpy hr;have:(Qor l).Nodup:=hp.imp (fun {x y} hxy e=>by subst e;exact cfE_irr x hxy);exact(Qpb l).nodup_iff.1 this
theorem Qqa(b g:Nat)(B:Bd)(o:List Int)(w:World)(hI:IsB w b g B)(hbw:b≤w.heap.size)(h:Qpu B=some o) :
  Calls Tryz.prog 44 #[.pointer (some ⟨g,0,none⟩)] w fun e w'=>∃v:Value,e=.returned (.tuple #[v,.int .i64 0])∧R8 w' w.heap.size v o∧Below w.heap.size w w':=by
 unfold Qpu at h;obtain⟨sz,hsz,h⟩:=Option.bind_eq_some_iff.mp h;split at h
 ·rename_i hc;obtain⟨h1,h2,h3,h4,h5,h6⟩:=hc
  cases h
  obtain⟨z,rfl⟩:=Int.eq_ofNat_of_zero_le (show 0≤sz by omega);rw[Int.toNat_natCast];exact bd_Seal b g B.1 B.2.1 B.2.2 z w hI hbw (fun e=>h1 (by rw[e];rfl)) (Qpz h4) h2 h3 h4 hsz (by unfold Qpt at h5;omega) (by omega)
 ·cases h
theorem Qqb(b g:Nat)(B:Bd)(o:List Int)(w:World)(hI:IsB w b g B)(hbw:b≤w.heap.size)(h:Qpv B=some o) :
  Calls Tryz.prog 47 #[.pointer (some ⟨g,0,none⟩)] w fun e w'=>∃v:Value,e=.returned v∧R8 w' w.heap.size v o∧Below w.heap.size w w':=by
 unfold Qpv at h;obtain⟨sz,hsz,h⟩:=Option.bind_eq_some_iff.mp h;split at h
 ·rename_i hc
  cases h
  obtain⟨z,rfl⟩:=Int.eq_ofNat_of_zero_le (show 0≤sz by omega);rw[Int.toNat_natCast];exact Qnb b g B.1 B.2.1 B.2.2 z w hI hsz (by omega) (by omega)
 ·cases h
end Go.Proofs.YtepkfjmjidjedaaGreat.C
end
