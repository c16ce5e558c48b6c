/- Merged texts. -/
import Derived.Test.YteaocbonofboeaaGreatMC00
import Derived.SizedLaws
import Derived.Deep.Slices
import Derived.Lib.SmallJoins
import Derived.ChangeArms
import Derived.Test.YteaocbonofboeaaGreatMC02
import Derived.Test.YteaocbonofboeaaGreatMC27
import Derived.Test.YteaocbonofboeaaGreatMC24
import Derived.Test.YteaocbonofboeaaGreatMC07
import Derived.Test.YteaocbonofboeaaGreatMC26
import Derived.Test.YteaocbonofboeaaGreatMC06
import Derived.Test.YteaocbonofboeaaGreatMC12
set_option linter.unusedVariables false
set_option linter.unusedSimpArgs false
set_option maxHeartbeats 8000000
set_option maxRecDepth 100000
section
namespace Go.Proofs.YteaocbonofboeaaGreat.Open
open Go.RowKit Go.Proofs.YteaocbonofboeaaGreatW.PrintWords Go.ChangeShapes Go.WideShapes Go.Deep
structure Opens (P:Program) (t:TypeId) {α:Type} (d:Kd α) (G:α→Prop):Prop where
  sz:P.cellsOf t=d.sz
  out:∀ {H:Type} {enc:TypeId × Value→H} {w:World} {base:Nat} {spare:Nat→Bool} {held:Bool} {fuel:Nat} {cs:List Value} {x:DataW H × List MemPlace},
    DataW.trod enc P w base spare held fuel t cs=some x→(∀n∈DataW.weights P t x.1,n≤reachBytes)→∃v,d.K w v cs∧G v
theorem Qvt{P:Program}{t:TypeId}{k:IntKind}(ht:P.underlying t=some (.int k))(hc:P.cellsOf t=1):Opens P t (Kd.int k) (fun n=>(Lit.int k n).wf=true) :=
 ⟨hc,fun h _=>by
  obtain⟨b,rfl,_,hw⟩:=DataW.trod_int ht h
  exact⟨b,rfl,hw⟩⟩
theorem Qvu{H:Type}{P:Program}{e:TypeId}{n:Nat}:∀ {ds:List (DataW H)} {d:DataW H},d∈ds→n∈DataW.weights P e d→n∈DataW.weightsAll P e ds
 | [],_,h,_=>by simp at h
 | a :: r,d,h,hn=>by
  simp only[DataW.weightsAll]
  rcases List.mem_cons.1 h with rfl|h
  ·exact List.mem_append_left _ hn
  ·exact List.mem_append_right _ (Qvu h hn)
theorem Qvv{P:Program}{t e:TypeId}{α:Type}{d:Kd α}{G:α→Prop}{B:Nat}(ht:P.underlying t=some (.slice e))(hc:P.cellsOf t=1)(hB:P.bytesOf e=B)(he:Opens P e d G) :
  Opens P t (Kd.slice e d) (fun xs=>xs.length*B≤140737488351232∧∀x∈xs,G x) :=
 ⟨hc, fun {H enc w base spare held fuel cs x} h hs=>by
  rcases open_slice ht h with⟨rfl,rfl⟩ |⟨a,len,cap,m,n,D,Pl,rfl,hb,hl,hm,hmm,rfl,hx⟩
  ·exact⟨[],⟨none,0,rfl,Nat.zero_le _,rfl,by simp,fun hp=>absurd hp (by simp)⟩,by simp,by simp⟩
  have hlm:len≤m:=by rw[hmm];split<;>omega
  have hw:∀i,i<len→∃v,(∃cs',w.cells? base (a.add (i*P.cellsOf e)) (P.cellsOf e)=some cs'∧d.K w v cs')∧G v:=by
   intro i hi
   obtain⟨cs',h1,h2⟩:=hx i (by omega)
   obtain⟨v,hv,hg⟩:=he.out h2 (fun q hq=>hs q (by
    simp only[DataW.weights,ht]
    refine List.mem_cons_of_mem _ (List.mem_append_left _ (Qvu (d:=D i) ?_ hq))
    exact List.mem_map.2 ⟨i,List.mem_range.2 hi,rfl⟩))
   exact⟨v,⟨cs',h1,hv⟩,hg⟩
  have hw':∃xs:List α,xs.length=len∧∀i p,xs[i]? = some p→(∃cs',w.cells? base (a.add (i*P.cellsOf e)) (P.cellsOf e)=some cs'∧d.K w p cs')∧G p:=by
   clear hs hx hmm hlm hm hl h
   induction len with
   | zero=>exact⟨[],rfl,by simp⟩
   | succ q ih =>
    obtain⟨xs,hxl,hxs⟩:=ih (fun i hi=>hw i (by omega))
    obtain⟨v,hv⟩:=hw q (by omega)
    refine⟨xs++[v],by simp[hxl],fun i p hp=>?_⟩
    rcases Nat.lt_or_ge i xs.length with hi|hi
    ·rw[List.getElem?_append_left hi]at hp
     exact hxs i p hp
    ·have:i=q:=by
      have:=(List.getElem?_eq_some_iff.1 hp).1
      simp at this
      omega
     subst this
     rw[← hxl]at hp
     have:v=p:=by simpa using hp
     subst this
     exact hv
  obtain⟨xs,hxl,hxs⟩:=hw'
  have hlen:len*B≤140737488351232:=by
   have:=hs ((((List.range len).map D).length+((List.range (m-len)).map fun j=>D (len+j)).length)*P.bytesOf e) (by simp[DataW.weights,ht])
   rw[hB]at this
   have h2:(((List.range len).map D).length+((List.range (m-len)).map fun j=>D (len+j)).length)=m:=by simp;omega
   rw[h2]at this
   have h3:m*B≤140737488351232:=by simpa [reachBytes]using this
   exact Nat.le_trans (Nat.mul_le_mul_right _ hlm) h3
  refine⟨xs,⟨some a,cap,by rw[hxl],by rw[hxl];exact hl,rfl,?_,fun hp=>⟨a,rfl,fun j p hj=>?_⟩⟩,by rw[hxl];exact hlen,fun x hx=>?_⟩
  ·rw[hxl]
   exact Nat.le_trans hl (by simpa [maxLen]using hm)
  ·obtain⟨⟨cs',h1,h2⟩,_⟩:=hxs j p hj
   obtain⟨_,hcl,hcc⟩:=World.cells?_some h1
   refine⟨cs',by rw[hcl,he.sz],h2,fun i u hu=>?_⟩
   have hi:i<P.cellsOf e:=by rw[← hcl];exact(List.getElem?_eq_some_iff.1 hu).1
   rw[he.sz]at hcc hi
   have:=hcc i hi
   rw[Go.Deep.add_add]at this
   rw[this,hu]
  ·obtain⟨i,hi⟩:=List.getElem?_of_mem hx
   exact(hxs i x hi).2⟩
structure OpensFs (P:Program) (ts:List TypeId) {α:Type} (d:Kd α) (G:α→Prop):Prop where
  sz:(ts.map P.cellsOf).sum=d.sz
  out:∀ {H:Type} {enc:TypeId × Value→H} {w:World} {base:Nat} {spare:Nat→Bool} {held:Bool} {fuel:Nat} {cs:List Value} {xs:List (DataW H × List MemPlace)},
    cs.length=(ts.map P.cellsOf).sum→xs.length=ts.length →
    (∀i t,ts[i]? = some t→DataW.trod enc P w base spare held fuel t ((cs.drop ((ts.take i).map P.cellsOf).sum).take (P.cellsOf t))=xs[i]?) →
    (∀n∈DataW.weightsEach P ts (xs.map (·.1)),n≤reachBytes)→∃v,d.K w v cs∧G v
theorem OpensFs.one{P:Program}{t:TypeId}{α:Type}{d:Kd α}{G:α→Prop}(h:Opens P t d G):OpensFs P [t] d G :=
 ⟨by simp[h.sz],fun {H enc w base spare held fuel cs xs} hl hx ht hs=>by
  match xs,hx with
  | [x],_ =>
   have h0:=ht 0 t rfl
   simp at hl h0
   rw[List.take_of_length_le (by omega)]at h0
   exact h.out h0 (fun n hn=>hs n (by simp[DataW.weightsEach,hn]))⟩
theorem OpensFs.cons{P:Program}{t:TypeId}{ts:List TypeId}{α β:Type}{d:Kd α}{G:α→Prop}{d':Kd β}{G':β→Prop}(h:Opens P t d G)(r:OpensFs P ts d' G'):OpensFs P (t :: ts) (Kd.pair d d') (fun x=>G x.1∧G' x.2) :=
 ⟨by simp[h.sz,r.sz,Kd.pair],fun {H enc w base spare held fuel cs xs} hl hx ht hs=>by
  match xs,hx with
  | x :: xs,hx =>
   have h0:=ht 0 t rfl
   simp at hl h0 hx
   obtain⟨a,ha,hga⟩:=h.out h0 (fun n hn=>hs n (by simp[DataW.weightsEach,hn]))
   obtain⟨b,hb,hgb⟩:=r.out (enc:=enc) (w:=w) (base:=base) (spare:=spare) (held:=held) (fuel:=fuel) (cs:=cs.drop (P.cellsOf t)) (xs:=xs) (by rw[List.length_drop];omega) hx
    (fun i t' hi=>by
     have:=ht (i+1) t' (by simpa using hi)
     simp only[List.take_succ_cons,List.map_cons,List.sum_cons,List.getElem?_cons_succ]at this
     rw[List.drop_drop]
     exact this)
    (fun n hn=>hs n (by simp only[List.map_cons,DataW.weightsEach];exact List.mem_append_right _ hn))
   exact⟨(a,b),⟨cs.take (P.cellsOf t),cs.drop (P.cellsOf t),by simp,ha,hb⟩,hga,hgb⟩⟩
def Qvw(P:Program):Nat→List Field→Bool
 | _,[]=>true
 | o,f :: r=>(f.offset == o) && Qvw P (o+P.cellsOf f.type) r
theorem Qvx{P:Program}:∀ {fs:List Field} {o:Nat},Qvw P o fs=true→∀i f,fs[i]? = some f→f.offset=o+(((fs.map (·.type)).take i).map P.cellsOf).sum
 | [],_,_,i,f,h=>by simp at h
 | g :: r,o,h,0,f,hf=>by
  simp[Qvw]at h
  simp at hf
  subst hf
  simp[h.1]
 | g :: r,o,h,i+1,f,hf=>by
  simp[Qvw]at h
  have:=Qvx h.2 i f (by simpa using hf)
  simp[this]
  omega
theorem Qvy{P:Program}{t:TypeId}{fs:Array Field}{α β:Type}{d:Kd α}{G:α→Prop}(ht:P.underlying t=some (.struct fs))(hl:Qvw P 0 fs.toList=true)(hc:P.cellsOf t=d.sz)
  (r:OpensFs P (fs.toList.map (·.type)) d G) (f:β→α) (g:α→β) (hfg:∀a,f (g a)=a):Opens P t (Kd.iso d f) (fun x=>G (f x)) :=
 ⟨hc,fun {H enc w base spare held fuel cs x} h hs=>by
  obtain⟨xs,n,rfl,rfl,hcl,hxl,hx⟩:=DataW.trod_struct ht h
  obtain⟨v,hv,hg⟩:=r.out (enc:=enc) (w:=w) (base:=base) (spare:=spare) (held:=held) (fuel:=n) (cs:=cs) (xs:=xs) (by rw[hcl,hc,r.sz]) (by simp[hxl])
   (fun i t' hi=>by
    rw[List.getElem?_map]at hi
    cases hf:fs.toList[i]? with
    | none=>simp[hf]at hi
    | some fd =>
     simp[hf]at hi
     subst hi
     have:=hx i fd (by simpa using hf)
     rw[Qvx hl i fd hf,Nat.zero_add]at this
     exact this)
   (fun q hq=>hs q (by simp only[DataW.weights,ht];exact hq))
  exact⟨g v,by show d.K w (f (g v)) cs;rw[hfg];exact hv,by show G (f (g v));rw[hfg];exact hg⟩⟩
theorem Qvz{H:Type}{P:Program}:∀ {ts:List TypeId} {ds:List (DataW H)} {j:Nat} {t:TypeId} {d:DataW H},(DataW.weightsEach P ts ds).all (·≤reachBytes)=true→ts[j]? = some t→ds[j]? = some d→∀n∈DataW.weights P t d,n≤reachBytes
 | [],_,_,_,_,_,h,_=>by simp at h
 | _ :: _,[],_,_,_,_,_,h=>by simp at h
 | t0 :: ts,d0 :: ds,0,t,d,hz,h1,h2=>by
  simp at h1 h2
  subst h1 h2
  intro n hn
  simp only[DataW.weightsEach]at hz
  exact of_decide_eq_true (List.all_eq_true.1 hz n (List.mem_append_left _ hn))
 | t0 :: ts,d0 :: ds,j+1,t,d,hz,h1,h2=>by
  simp only[DataW.weightsEach]at hz
  refine Qvz (ts:=ts) (ds:=ds) (j:=j) ?_ (by simpa using h1) (by simpa using h2)
  rw[List.all_append]at hz
  exact(Bool.and_eq_true _ _ ▸ hz).2
theorem Qwa{H:Type}{enc:TypeId × Value→H}{P:Program}{w:World}{base:Nat}{spare:Nat→Bool}{held:Bool}{t e:TypeId}{α:Type}{d:Kd α}{G:List α→Prop}(op:Opens P t (Kd.slice e d) G){a:Option Addr}{len cap:Nat}{x:DataW H}{ps:List MemPlace}
  (h:DataW.Trod enc P w base spare held t (.slice a len cap) x ps) (hs:∀n∈DataW.weights P t x,n≤reachBytes):∃l:List α,len=l.length∧l.length≤cap∧d.C w a l.length l∧G l:=by
 obtain⟨fuel,hf⟩:=h
 obtain⟨l,⟨A,c,he,hc,hr⟩,hg⟩:=op.out hf hs
 have he':[Value.slice a len cap]=[.slice A l.length c]:=by simpa [Value.cells]using he
 simp only[List.cons.injEq,Value.slice.injEq,and_true]at he'
 obtain⟨rfl,rfl,rfl⟩:=he'
 exact⟨l,rfl,hc,hr,hg⟩
theorem arg_agg{H:Type}{enc:TypeId × Value→H}{P:Program}{w:World}{base:Nat}{spare:Nat→Bool}{held:Bool}{t:TypeId}{α:Type}{d:Kd α}{G:α→Prop}(op:Opens P t d G){cs:Array Value}{x:DataW H}{ps:List MemPlace}
  (h:DataW.Trod enc P w base spare held t (.agg cs) x ps) (hs:∀n∈DataW.weights P t x,n≤reachBytes):∃v,d.K w v cs.toList∧G v:=by
 obtain⟨fuel,hf⟩:=h
 have hf':DataW.trod enc P w base spare held fuel t cs.toList=some (x,ps):=by simpa [Value.cells]using hf
 exact op.out hf' hs
theorem Qwb{cs:Array Value}{l:List Value}(h:cs.toList=l):cs=l.toArray:=by rw[← h]
end Go.Proofs.YteaocbonofboeaaGreat.Open
end
section
namespace Go.Proofs.YteaocbonofboeaaGreat.C
open Go.RowKit Go.Proofs.YteaocbonofboeaaGreatW.PrintWords Go.Proofs.YteaocbonofboeaaGreatW.PrintLast Go.Proofs.YteaocbonofboeaaGreatW.PrintMore Go.Proofs.YteaocbonofboeaaGreat.Open
theorem opT5:Opens Tryz.prog 5 (Kd.int .u8) (fun x=>(Lit.int .u8 x).wf=true):=Qvt Tryz.underlying5 (by kernel_rfl)
theorem opT35:Opens Tryz.prog 35 (Kd.int .u64) (fun x=>(Lit.int .u64 x).wf=true):=Qvt Tryz.underlying35 (by kernel_rfl)
theorem opT40:Opens Tryz.prog 40 (Kd.slice 5 (Kd.int .u8)) (fun x=>(x.length*1≤140737488351232∧∀z1∈x,(Lit.int .u8 z1).wf=true)):=Qvv (B:=1) Tryz.underlying40 (by kernel_rfl) (by kernel_rfl) opT5
def OG158(x:S158):Prop:=(Lit.int .u64 x.f0).wf=true∧(Lit.int .u8 x.f1).wf=true
theorem opT158:Opens Tryz.prog 158 k158 (fun x=>OG158 x):=Qvy Tryz.underlying158 (by kernel_rfl) (by kernel_rfl) (OpensFs.cons opT35 (OpensFs.one opT5)) (fun x:S158=>(x.f0,x.f1)) (fun p=>⟨p.1,p.2⟩) (fun _=>rfl)
theorem opT79:Opens Tryz.prog 79 (Kd.slice 158 k158) (fun x=>(x.length*16≤140737488351232∧∀z1∈x,OG158 z1)):=Qvv (B:=16) Tryz.underlying79 (by kernel_rfl) (by kernel_rfl) opT158
theorem opT3:Opens Tryz.prog 3 (Kd.int .i64) (fun x=>(Lit.int .i64 x).wf=true):=Qvt Tryz.underlying3 (by kernel_rfl)
def OG81(x:S81):Prop:=(x.f0.length*16≤140737488351232∧∀z4∈x.f0,OG158 z4)∧(Lit.int .i64 x.f1).wf=true
theorem opT81:Opens Tryz.prog 81 k81 (fun x=>OG81 x):=Qvy Tryz.underlying81 (by kernel_rfl) (by kernel_rfl) (OpensFs.cons opT79 (OpensFs.one opT3)) (fun x:S81=>(x.f0,x.f1)) (fun p=>⟨p.1,p.2⟩) (fun _=>rfl)
def Qaw.Pure:Prop:=∀(x0:List Int) (x1:S81) (x2:Int) (x3:Int),(x0.length*1≤140737488351232∧∀z2∈x0,(Lit.int .u8 z2).wf=true)→OG81 x1→(Lit.int .i64 x2).wf=true→(Lit.int .i64 x3).wf=true→∃k,Qaw.f k x0 x1.f0 x1.f1 x2 x3=some true
end Go.Proofs.YteaocbonofboeaaGreat.C
end
section
namespace Go.Proofs.YteaocbonofboeaaGreat.CodecP
open Go.RowKit Go.Proofs.YteaocbonofboeaaGreat.C Go.Proofs.YteaocbonofboeaaGreatW.PrintWords Go.Proofs.YteaocbonofboeaaGreatW.PrintLast Go.Proofs.YteaocbonofboeaaGreatW.PrintMore
theorem lives24(k:Nat):Qax.f (k+5)=some true:=by
 have h:Qaq.f (k+5) ([1,2,3]:List Int) ([(⟨1,9⟩:S158)]:List S158) 2=some [1,9]:=by kernel_rfl
 have h2:(strOfNums [1,9]).toList=([1,9]:List UInt8):=by rw[Lib.toList_data];rfl
 unfold Qax.f;rw[h,Option.bind_some,show Qav.f=some true from rfl,Option.bind_some,if_pos rfl,h2];rfl
theorem Qwc(k:Nat)(hk:5≤k):Qax.f k=some true:=by
 obtain⟨m,rfl⟩:∃m,k=m+5:=⟨k-5,by omega⟩;exact lives24 m
abbrev Ed:=S158
abbrev Er:=S160
def toEr(e:Ed):Er:=⟨e.f0,e.f1⟩
theorem rdE(E:List Ed)(j:Nat)(h:j<E.length):Qjc E (j:Int)=E[j]:=by
 unfold Qjc;rw[Int.toNat_natCast,List.getD_eq_getElem?_getD,List.getElem?_eq_getElem h];rfl
theorem rdEr(E:List Ed)(j:Nat)(h:j<E.length):Qjh (E.map toEr) (j:Int)=toEr E[j]:=by
 unfold Qjh;rw[Int.toNat_natCast,List.getD_eq_getElem?_getD,List.getElem?_map,List.getElem?_eq_getElem h];rfl
theorem Qwd(E:List Ed)(hE:E.length≤1000000):∀(d j k:Nat) (out:List Er),j+d=E.length→out.length≤j→Qay.l0 (k+d+1) out E (E.length:Int) (j:Int)=some (out++(E.drop j).map toEr)
 | 0,j,k,out,hd,ho=>by
  unfold Qay.l0;rw[if_neg (by omega),List.drop_of_length_le (by omega)];simp
 | d+1,j,k,out,hd,ho=>by
  have hj:j<E.length:=by omega
  unfold Qay.l0;rw[if_pos (by omega),if_pos (by omega),if_pos (by omega),if_pos (by omega),rdE E j hj,Qrf j (by omega),show k+(d+1)=k+d+1 by omega];refine Eq.trans (Qwd E hE d (j+1) k (out++[toEr E[j]]) (by omega) (by rw[List.length_append,List.length_singleton];omega)) ?_;rw[List.drop_eq_getElem_cons hj,List.map_cons,List.append_assoc,List.singleton_append]
theorem Qwe(E:List Ed)(hE:E.length≤1000000)(k:Nat)(hk:E.length+1≤k):Qay.f k E=some (E.map toEr):=by
 unfold Qay.f;have h:=Qwd E hE E.length 0 (k-E.length-1) [] (by omega) (by simp);rw[show k-E.length-1+E.length+1=k by omega,List.drop_zero,List.nil_append]at h;exact h
def Qwf(o:List Int)(e:Ed):List Int:=if e.f0<(o.length:Int)then o.set e.f0.toNat e.f1 else o
def setE(o:List Int)(E:List Ed):List Int:=E.foldl Qwf o
theorem Qwg(o:List Int)(e:Ed):(Qwf o e).length=o.length:=by unfold Qwf;split<;>simp
theorem Qwh:∀(E:List Ed) (o:List Int),(setE o E).length=o.length
 | [],o=>rfl
 | e :: E,o=>by
  show(setE (Qwf o e) E).length=_;rw[Qwh E,Qwg]
def Qwi(c:Int)(n:Nat):Nat:=if c<0 then n else if c<(n:Int)then c.toNat else n
def wfEd(E:List Ed):Prop:=∀e∈E,(0≤e.f0∧e.f0<18446744073709551616)∧0≤e.f1∧e.f1<256
theorem Qwj(E:List Ed)(c:Int)(n:Nat):Qar.f E c (n:Int)=some ((Qwi c n:Nat):Int):=by
 unfold Qar.f Qwi mn
 by_cases h:c<0
 ·rw[if_pos h,if_pos h]
 ·rw[if_neg h,if_neg h]
  by_cases h2:c<(n:Int)
  ·rw[if_pos h2,if_pos h2,Int.toNat_of_nonneg (by omega)]
  ·rw[if_neg h2,if_neg h2]
theorem Qwk(E:List Ed)(hE:E.length≤1000000)(hw:wfEd E)(c:Int)(E0:List Ed):∀(d j k:Nat) (o:List Int),j+d=E.length→o.length≤1000000→Qaq.l0 (k+d+1) o E (E.length:Int) (j:Int) E0 c=some ((setE o (E.drop j)).take (Qwi c o.length))
 | 0,j,k,o,hd,ho=>by
  have hl:Qwi c o.length≤o.length:=by unfold Qwi;split;omega;split<;>omega
  unfold Qaq.l0;rw[if_neg (by omega),List.drop_of_length_le (by omega),Qwj,Option.bind_some,if_pos (by omega),if_pos (by omega),Int.toNat_natCast];rfl
 | d+1,j,k,o,hd,ho=>by
  have hj:j<E.length:=by omega
  have hwj:=hw E[j] (List.getElem_mem hj);have hset:setE o (E.drop j)=setE (Qwf o E[j]) (E.drop (j+1)):=by rw[List.drop_eq_getElem_cons hj];rfl
  unfold Qaq.l0;rw[if_pos (by omega),if_pos (by omega),if_pos (by omega),rdE E j hj,IntWalk.u64_in (o.length:Int) (by omega),Qrf j (by omega),show k+(d+1)=k+d+1 by omega,hset]
  by_cases h:E[j].f0<(o.length:Int)
  ·have hs:Qwf o E[j]=o.set E[j].f0.toNat E[j].f1:=by unfold Qwf;rw[if_pos h]
   have ih:=Qwk E hE hw c E0 d (j+1) k (Qwf o E[j]) (by omega) (by rw[Qwg];exact ho);rw[Qwg]at ih;rw[if_pos h,if_pos hwj.1.1,if_pos h,← hs];exact ih
  ·have hs:Qwf o E[j]=o:=by unfold Qwf;rw[if_neg h]
   rw[if_neg h,hs];exact Qwk E hE hw c E0 d (j+1) k o (by omega) ho
theorem app_is(b:List Int)(hb:b.length≤1000000)(E:List Ed)(hE:E.length≤1000000)(hw:wfEd E)(c:Int)(k:Nat)(hk:E.length+1≤k):Qaq.f k b E c=some ((setE b E).take (Qwi c b.length)):=by
 unfold Qaq.f Qad.f;rw[if_pos (by omega),Option.bind_some];have h:=Qwk E hE hw c E E.length 0 (k-E.length-1) b (by omega) hb;rw[show k-E.length-1+E.length+1=k by omega,List.drop_zero]at h;exact h
def Qwl(i:Nat)(v:Int)(E:List Ed):Int:=E.foldl (fun v e=>if e.f0=(i:Int)then e.f1 else v) v
theorem Qwm:∀(E:List Ed) (o:List Int) (i:Nat) (hi:i<o.length),wfEd E→(setE o E)[i]? = some (Qwl i o[i] E)
 | [],o,i,hi,_=>by
  show o[i]? = some o[i];rw[List.getElem?_eq_getElem hi]
 | e :: E,o,i,hi,hw=>by
  have hwe:=hw e (List.mem_cons_self ..);have hi':i<(Qwf o e).length:=by rw[Qwg];exact hi
  have ih:=Qwm E (Qwf o e) i hi' (fun x hx=>hw x (List.mem_cons_of_mem _ hx));have hv:(Qwf o e)[i]=if e.f0=(i:Int)then e.f1 else o[i]:=by
   by_cases h:e.f0=(i:Int)
   ·rw[if_pos h];have hlt:e.f0<(o.length:Int):=by omega
    have ht:e.f0.toNat=i:=by omega
    have hs:Qwf o e=o.set i e.f1:=by unfold Qwf;rw[if_pos hlt,ht]
    simp[hs]
   ·rw[if_neg h]
    by_cases hlt:e.f0<(o.length:Int)
    ·have ht:e.f0.toNat≠i:=by omega
     have hs:Qwf o e=o.set e.f0.toNat e.f1:=by unfold Qwf;rw[if_pos hlt]
     simp[hs,List.getElem_set_ne ht]
    ·have hs:Qwf o e=o:=by unfold Qwf;rw[if_neg hlt]
     simp[hs]
  show(setE (Qwf o e) E)[i]? = some (Qwl i (if e.f0=(i:Int)then e.f1 else o[i]) E);rw[ih,hv]
theorem Qwn(X:ByteArray)(E:List Ed)(hE:E.length≤1000000)(hw:wfEd E)(c:Int)(out:ByteArray)(ho:out.size≤2000000)(i:Nat)(hi:i≤1000000):∀(d j k:Nat) (x9:ByteArray) (v:Int),j+d=E.length→bytesOf x9=[v] →
  ∃a,bytesOf a=[Qwl i v (E.drop j)]∧Qbm.l1 (k+d+1) X (E.map toEr) c out (i:Int) x9 (E.map toEr) (E.length:Int) (j:Int)=Qbm.l0 k X (E.map toEr) c (out++a) ((i+1:Nat):Int)
 | 0,j,k,x9,v,hd,hx=>by
  have hs:x9.size=1:=by rw[← Qdb,hx];rfl
  refine⟨x9,by rw[List.drop_of_length_le (by omega),hx];rfl,?_⟩;unfold Qbm.l1;rw[if_neg (by omega),if_pos (by omega),Qrf i (by omega)]
 | d+1,j,k,x9,v,hd,hx=>by
  have hj:j<E.length:=by omega
  have hwj:=hw E[j] (List.getElem_mem hj);unfold Qbm.l1;rw[if_pos (by omega),if_pos (by omega),if_pos (by rw[List.length_map];omega),rdEr E j hj,IntWalk.u64_in (i:Int) (by omega),Qrf j (by omega),show k+(d+1)=k+d+1 by omega,List.drop_eq_getElem_cons hj]
  by_cases h:E[j].f0=(i:Int)
  ·have h':(toEr E[j]).f0=(i:Int):=h;rw[if_pos h'];obtain⟨a,g1,g2⟩:=Qwn X E hE hw c out ho i hi d (j+1) k (strOfNums [(toEr E[j]).f1]) E[j].f1 (by omega) (bytesOf_nums (fun y hy=>by rw[List.mem_singleton.1 hy];exact hwj.2));refine⟨a,?_,g2⟩;rw[g1];show _=[Qwl i (if E[j].f0=(i:Int)then E[j].f1 else v) (E.drop (j+1))];rw[if_pos h]
  ·have h':¬(toEr E[j]).f0=(i:Int):=h;rw[if_neg h'];obtain⟨a,g1,g2⟩:=Qwn X E hE hw c out ho i hi d (j+1) k x9 v (by omega) hx;refine⟨a,?_,g2⟩;rw[g1];show _=[Qwl i (if E[j].f0=(i:Int)then E[j].f1 else v) (E.drop (j+1))];rw[if_neg h]
def rowE(b:List Int)(E:List Ed):Nat→Nat→List Int
 | _,0=>[]
 | i,d+1=>Qwl i (b.getD i 0) E :: rowE b E (i+1) d
theorem Qwo(b:List Int)(hb:Bytes b)(hbl:b.length≤1000000)(E:List Ed)(hE:E.length≤1000000)(hw:wfEd E)(c:Int):∀(d i k:Nat) (out:ByteArray),i+d=Qwi c b.length→out.size=i→2000000*(d+1)≤k →
  ∃t,Qbm.l0 k (strOfNums b) (E.map toEr) c out (i:Int)=some t∧bytesOf t=bytesOf out++rowE b E i d
 | 0,i,k,out,hd,ho,hk=>by
  obtain⟨k,rfl⟩:∃m,k=m+2:=⟨k-2,by omega⟩;refine⟨out,?_,by simp[rowE]⟩;have hz:(strOfNums b).size=b.length:=strOfNums_size b;unfold Qwi at hd;rw[Qbm.l0,hz]
  by_cases h1:c<0
  ·rw[if_pos h1]at hd;rw[if_neg (by omega)]
  ·rw[if_neg h1]at hd
   by_cases h2:c<(b.length:Int)
   ·rw[if_pos h2]at hd;rw[if_pos (by omega),if_pos (by omega),decide_eq_true (by omega),Qbm.j1,if_pos rfl]
   ·rw[if_neg h2]at hd;rw[if_neg (by omega)]
 | d+1,i,k,out,hd,ho,hk=>by
  obtain⟨k,rfl⟩:∃m,k=m+2:=⟨k-2,by omega⟩;have hz:(strOfNums b).size=b.length:=strOfNums_size b;have hln:Qwi c b.length≤b.length:=by unfold Qwi;split;omega;split<;>omega
  have hib:i<b.length:=by omega
  have hnc:¬(0≤c∧c≤(i:Int)):=by
   intro h;unfold Qwi at hd;rw[if_neg (by omega)]at hd
   by_cases h2:c<(b.length:Int)
   ·rw[if_pos h2]at hd;omega
   ·rw[if_neg h2]at hd;omega
  have hx:bytesOf ((strOfNums b).extract i (i+1))=[b.getD i 0]:=by
   rw[Qnd,bytesOf_nums hb,List.drop_eq_getElem_cons hib,show i+1-i=1 by omega,List.getD_eq_getElem?_getD,List.getElem?_eq_getElem hib];rfl
  obtain⟨a,g1,g2⟩:=Qwn (strOfNums b) E hE hw c out (by omega) i (by omega) E.length 0 (k-E.length-1) _ _ (by omega) hx;rw[show k-E.length-1+E.length+1=k by omega,List.drop_zero]at *;have hs9:a.size=1:=by rw[← Qdb,g1];rfl
  obtain⟨t,t1,t2⟩:=Qwo b hb hbl E hE hw c d (i+1) (k-E.length-1) (out++a) (by omega) (by rw[ByteArray.size_append];omega) (by omega);refine⟨t,?_,?_⟩
  ·have hj:Qbm.j1 (k+1) (strOfNums b) (E.map toEr) c out (i:Int) false=some t:=by
    rw[Qbm.j1,if_neg (by simp),if_pos (by omega),Qrf i (by omega),if_pos (by omega),if_pos (by omega),Int.toNat_natCast,Int.toNat_natCast,List.length_map];exact g2.trans t1
   rw[Qbm.l0,hz,if_pos (by omega)]
   by_cases h1:c≥0
   ·rw[if_pos h1,decide_eq_false (by omega)];exact hj
   ·rw[if_neg h1];exact hj
  ·rw[t2,Qqs,g1,List.append_assoc];rfl
def damB(c:Int)(E:List Ed)(i:Nat):Bool:=(decide (0≤c) && decide (c≤(i:Int))) || E.any (fun e=>decide (e.f0=(i:Int)))
theorem Qwp(E:List Ed)(hE:E.length≤1000000)(i:Nat)(hi:i≤1000000):∀(d j k:Nat),j+d=E.length→Qbn.l0 (k+d+1) (i:Int) (E.map toEr) (E.length:Int) (j:Int)=some ((E.drop j).any (fun e=>decide (e.f0=(i:Int))))
 | 0,j,k,hd=>by
  unfold Qbn.l0;rw[if_neg (by omega),List.drop_of_length_le (by omega)];rfl
 | d+1,j,k,hd=>by
  have hj:j<E.length:=by omega
  unfold Qbn.l0;rw[if_pos (by omega),if_pos (by omega),if_pos (by rw[List.length_map];omega),rdEr E j hj,IntWalk.u64_in (i:Int) (by omega),Qrf j (by omega),show k+(d+1)=k+d+1 by omega,List.drop_eq_getElem_cons hj,List.any_cons]
  by_cases h:E[j].f0=(i:Int)
  ·have h':(toEr E[j]).f0=(i:Int):=h;rw[if_pos h',decide_eq_true h,Bool.true_or]
  ·have h':¬(toEr E[j]).f0=(i:Int):=h;rw[if_neg h',decide_eq_false h,Bool.false_or];exact Qwp E hE i hi d (j+1) k (by omega)
theorem dam_is(E:List Ed)(hE:E.length≤1000000)(c:Int)(n i:Nat)(hi:i<n)(hn:n≤1000000)(k:Nat)(hk:E.length+5≤k):Qbn.f k (E.map toEr) c (n:Int) (i:Int)=some (damB c E i):=by
 obtain⟨k,rfl⟩:∃m,k=m+2:=⟨k-2,by omega⟩;have h:=Qwp E hE i (by omega) E.length 0 (k-E.length-1) (by omega);rw[show k-E.length-1+E.length+1=k by omega,List.drop_zero]at h;have h':Qbn.l0 k (i:Int) (E.map toEr) ((E.map toEr).length:Int) 0=some (E.any (fun e=>decide (e.f0=(i:Int)))):=by
  rw[List.length_map];exact h
 unfold Qbn.f;rw[if_neg (by omega),decide_eq_false (by omega),Qbn.j0,if_neg (by simp)];unfold damB
 by_cases h1:0≤c
 ·rw[if_pos h1,decide_eq_true h1,Bool.true_and]
  by_cases h2:c≤(i:Int)
  ·rw[decide_eq_true h2,Qbn.j1,if_pos rfl,Bool.true_or]
  ·rw[decide_eq_false h2,Qbn.j1,if_neg (by simp),Bool.false_or];exact h'
 ·rw[if_neg h1,decide_eq_false h1,Bool.false_and,Qbn.j1,if_neg (by simp),Bool.false_or];exact h'
def anyD(c:Int)(E:List Ed):Nat→Nat→Bool
 | _,0=>false
 | a,d+1=>damB c E a || anyD c E (a+1) d
theorem Qwq(c:Int)(E:List Ed):∀(d a:Nat),anyD c E a d=true↔∃i,a≤i∧i<a+d∧damB c E i=true
 | 0,a=>by
  constructor
  ·intro h;simp[anyD]at h
  ·rintro⟨i,h1,h2,_⟩;omega
 | d+1,a=>by
  rw[anyD,Bool.or_eq_true,Qwq c E d (a+1)]
  constructor
  ·rintro(h |⟨i,h1,h2,h3⟩)
   ·exact⟨a,Nat.le_refl _,by omega,h⟩
   ·exact⟨i,by omega,by omega,h3⟩
  ·rintro⟨i,h1,h2,h3⟩
   by_cases h:i=a
   ·subst h;exact .inl h3
   ·exact .inr ⟨i,by omega,by omega,h3⟩
theorem Qwr(c:Int)(E:List Ed)(i:Nat):damB c E i=true↔(0≤c∧c≤(i:Int))∨∃e∈E,e.f0=(i:Int):=by
 unfold damB;rw[Bool.or_eq_true,Bool.and_eq_true,decide_eq_true_iff,decide_eq_true_iff,List.any_eq_true];simp only[decide_eq_true_iff]
theorem hit_is(E:List Ed)(hE:E.length≤1000000)(hw:wfEd E)(c:Int)(n:Nat)(hn:n≤1000000)(x y:Int):Qas.f E c (n:Int) x y=some (anyD c E (mx x 0).toNat (mn y (n:Int)-mx x 0).toNat):=by
 have hF:0≤mx x 0:=by unfold mx;split<;>omega
 have hT:mn y (n:Int)≤(n:Int):=by unfold mn;split<;>omega
 obtain⟨F,hFe⟩:∃F,F=mx x 0:=⟨_,rfl⟩;obtain⟨T,hTe⟩:∃T,T=mn y (n:Int):=⟨_,rfl⟩;unfold Qas.f;rw[← hFe]at hF;rw[← hTe]at hT;rw[← hFe,← hTe];clear hFe hTe;rw[if_pos (by omega)]
 by_cases h1:T≤F
 ·rw[if_pos h1,show(T-F).toNat=0 by omega];rfl
 ·rw [if_neg h1,Qwj,Option.bind_some]
  by_cases h2:((Qwi c n:Nat):Int)<T
  ·rw[if_pos h2]
   congr 1
   refine Eq.symm ((Qwq c E _ _).2 ⟨(T-1).toNat,by omega,by omega,(Qwr c E _).2 (.inl ?_)⟩);unfold Qwi at h2
   by_cases hc:c<0
   ·rw[if_pos hc]at h2;omega
   ·rw[if_neg hc]at h2
    by_cases hc2:c<(n:Int)
    ·rw[if_pos hc2]at h2;omega
    ·rw[if_neg hc2]at h2;omega
  ·rw[if_neg h2,IntWalk.u64_in F (by omega),IntWalk.u64_in T (by omega)]
   congr 1
   rw[Bool.eq_iff_iff,Qwq];unfold hitL;rw[List.any_eq_true];have hcut:∀i:Nat,(i:Int)<T→¬(0≤c∧c≤(i:Int)):=by
    intro i hi hci;unfold Qwi at h2;rw[if_neg (by omega)]at h2
    by_cases hc2:c<(n:Int)
    ·rw[if_pos hc2]at h2;omega
    ·rw[if_neg hc2]at h2;omega
   constructor
   ·rintro⟨e,he,h3⟩;have hwe:=hw e he;unfold hitE at h3;rw[Bool.and_eq_true,decide_eq_true_iff,decide_eq_true_iff]at h3;exact⟨e.f0.toNat,by omega,by omega,(Qwr c E _).2 (.inr ⟨e,he,by omega⟩)⟩
   ·rintro⟨i,h3,h4,h5⟩
    rcases(Qwr c E i).1 h5 with h6 |⟨e,he,h6⟩
    ·exact absurd h6 (hcut i (by omega))
    ·refine⟨e,he,?_⟩;unfold hitE;rw[Bool.and_eq_true,decide_eq_true_iff,decide_eq_true_iff];omega
theorem Qws(b:List Int)(E:List Ed):∀(d i:Nat),(rowE b E i d).length=d
 | 0,i=>rfl
 | d+1,i=>by rw[rowE,List.length_cons,Qws b E d]
theorem Qwt(b:List Int)(E:List Ed):∀(d i j:Nat),j<d→(rowE b E i d)[j]? = some (Qwl (i+j) (b.getD (i+j) 0) E)
 | 0,i,j,h=>by omega
 | d+1,i,j,h=>by
  rw[rowE]
  cases j with
  | zero=>rfl
  | succ j =>
   rw[List.getElem?_cons_succ,Qwt b E d (i+1) j (by omega),show i+1+j=i+(j+1)by omega]
theorem Qwu(c:Int)(n:Nat):Qwi c n≤n:=by unfold Qwi;split;omega;split<;>omega
theorem row_is(b:List Int)(E:List Ed)(hw:wfEd E)(c:Int):rowE b E 0 (Qwi c b.length)=(setE b E).take (Qwi c b.length):=by
 have hl:=Qwu c b.length;apply List.ext_getElem?;intro j
 by_cases hj:j<Qwi c b.length
 ·have hjb:j<b.length:=by omega
  rw[Qwt b E _ 0 j hj,List.getElem?_take_of_lt hj,Qwm E b j hjb hw,Nat.zero_add,List.getD_eq_getElem?_getD,List.getElem?_eq_getElem hjb];rfl
 ·rw[List.getElem?_eq_none (by rw[Qws];omega),List.getElem?_eq_none (by rw[List.length_take,Qwh];omega)]
theorem rapp_is(b:List Int)(hb:Bytes b)(hbl:b.length≤1000)(E:List Ed)(hE:E.length≤1000)(hw:wfEd E)(c:Int)(k:Nat)(hk:4000000000≤k):Qbm.f k (strOfNums b) (E.map toEr) c=some (strOfNums ((setE b E).take (Qwi c b.length))):=by
 have hl:=Qwu c b.length;obtain⟨t,h1,h2⟩:=Qwo b hb (by omega) E (by omega) hw c (Qwi c b.length) 0 k (⟨#[]⟩:ByteArray) (by omega) rfl (by omega);have hz:bytesOf (⟨#[]⟩:ByteArray)=[]:=rfl;rw[hz,List.nil_append,row_is b E hw c]at h2;unfold Qbm.f;refine Eq.trans h1 ?_;rw[← h2,Qqv]
end Go.Proofs.YteaocbonofboeaaGreat.CodecP
end
section
namespace Go.Proofs.YteaocbonofboeaaGreat.Pure
open Go.RowKit Go.Proofs.YteaocbonofboeaaGreat.C Go.Proofs.YteaocbonofboeaaGreat.CodecP Go.Proofs.YteaocbonofboeaaGreatW.PrintWords Go.Proofs.YteaocbonofboeaaGreatW.PrintLast Go.Proofs.YteaocbonofboeaaGreatW.PrintMore Go.Proofs.YteaocbonofboeaaGreat.Open
theorem Qwv{x:Int}(h1:(Lit.int .u8 x).wf=true):0≤x∧x<256:=by
 simp only[Lit.wf,IntKind.min,IntKind.max,IntKind.signed,IntKind.bits,Bool.and_eq_true,decide_eq_true_eq]at h1;simp at h1;omega
theorem wf_u64A{x:Int}(h1:(Lit.int .u64 x).wf=true):0≤x∧x<18446744073709551616:=by
 simp only[Lit.wf,IntKind.min,IntKind.max,IntKind.signed,IntKind.bits,Bool.and_eq_true,decide_eq_true_eq]at h1;simp at h1;omega
def anyW(c:Int)(E:List Ed)(x y:Int):Nat→Nat→Bool
 | _,0=>false
 | j,d+1=>((decide (x≤(j:Int)) && decide ((j:Int)<y)) && damB c E j) || anyW c E x y (j+1) d
theorem Qww(c:Int)(E:List Ed)(x y:Int):∀(d j:Nat),anyW c E x y j d=true↔∃i:Nat,j≤i∧i<j+d∧x≤(i:Int)∧(i:Int)<y∧damB c E i=true
 | 0,j=>by
  constructor
  ·intro h;simp[anyW]at h
  ·rintro⟨i,h1,h2,_⟩;omega
 | d+1,j=>by
  rw[anyW,Bool.or_eq_true,Qww c E x y d (j+1),Bool.and_eq_true,Bool.and_eq_true,decide_eq_true_iff,decide_eq_true_iff]
  constructor
  ·rintro(⟨⟨h1,h2⟩,h3⟩ |⟨i,h1,h2,h3⟩)
   ·exact⟨j,Nat.le_refl _,by omega,h1,h2,h3⟩
   ·exact⟨i,by omega,by omega,h3⟩
  ·rintro⟨i,h1,h2,h3,h4,h5⟩
   by_cases h:i=j
   ·subst h;exact .inl ⟨⟨h3,h4⟩,h5⟩
   ·exact .inr ⟨i,by omega,by omega,h3,h4,h5⟩
theorem anyW_D(c:Int)(E:List Ed)(x y:Int)(n:Nat):anyW c E x y 0 n=anyD c E (mx x 0).toNat (mn y (n:Int)-mx x 0).toNat:=by
 rw[Bool.eq_iff_iff,Qww,Qwq];have hx:mx x 0=if x<0 then 0 else x:=rfl
 have hy:mn y (n:Int)=if(n:Int)<y then(n:Int)else y:=rfl
 constructor
 ·rintro⟨i,h1,h2,h3,h4,h5⟩;refine⟨i,?_,?_,h5⟩<;>rw[hx]<;>(try rw[hy])<;>split<;>(try split)<;>omega
 ·rintro⟨i,h1,h2,h5⟩;rw[hx]at h1 h2;rw[hy]at h2;refine⟨i,by omega,?_,?_,?_,h5⟩<;>split at h1<;>split at h2<;>omega
theorem da_l0(b:List Int)(hN:b.length≤400)(x y:Int)(E:List Ed)(hE:E.length≤1000)(c:Int):∀(d j k:Nat) (v:Bool),j+d=b.length→100000≤k →
  Qaw.l0 (k+d+1) b x y v (b.length:Int) (j:Int) E c=(Qas.f E c (b.length:Int) x y).bind fun t=>some (t == (v || anyW c E x y j d))
 | 0,j,k,v,hd,hk=>by
  unfold Qaw.l0;rw[if_neg (by omega),show(v || anyW c E x y j 0)=v by simp[anyW]]
 | d + 1,j,k,v,hd,hk=>by
  unfold Qaw.l0;rw[if_pos (by omega),Qrf j (by omega),show k+(d+1)=k+d+1 by omega];have ih:=fun v'=>da_l0 b hN x y E hE c d (j+1) k v' (by omega) hk
  cases v with
  | true =>
   rw[if_pos rfl,ih];simp
  | false =>
   rw[if_neg (by simp),anyW]
   by_cases h1:x≤(j:Int)
   ·rw[if_pos h1,decide_eq_true h1]
    by_cases h2:(j:Int)<y
    ·rw[if_pos h2,decide_eq_true h2,Qwe E (by omega) _ (by omega),Option.bind_some,dam_is E (by omega) c b.length j (by omega) (by omega) _ (by omega),Option.bind_some,ih];simp
    ·rw[if_neg h2,decide_eq_false h2,ih];simp
   ·rw[if_neg h1,decide_eq_false h1,ih];simp
theorem DamageApplies:Qaw.Pure:=by
 intro b x1 x y hb0 hD hx hy;obtain⟨E,c⟩:=x1;dsimp only;have hb:Bytes b:=fun z hz=>Qwv (hb0.2 z hz)
 have hwE:wfEd E:=fun z hz=>by
  have h1:=hD.1.2 z hz;exact⟨wf_u64A h1.1,Qwv h1.2⟩
 obtain⟨K,hK⟩:∃K:Nat,K=4000100000:=⟨_,rfl⟩;refine⟨K+1+1,?_⟩;have hend:Qaw.j0 (K+1+1) b x y true E c=some true:=by
  rw[Qaw.j0,if_pos rfl,Qwc _ (by omega)];rfl
 unfold Qaw.f;rw[Qwc _ (by omega),Option.bind_some,if_pos rfl]
 by_cases h4:(b.length:Int) > 400
 ·rw[if_pos h4];exact hend
 ·rw[if_neg h4]
  by_cases hE:(E.length:Int) > 20
  ·rw[decide_eq_true hE];exact hend
  ·rw[decide_eq_false hE,Qaw.j0,if_neg (by simp),Option.bind_some,if_pos qq_21,List.nil_append,Option.bind_some,app_is b (by omega) E (by omega) hwE c _ (by omega),Option.bind_some,Qwe E (by omega) _ (by omega),Option.bind_some,rapp_is b hb (by omega) E (by omega) hwE c _ (by omega),Option.bind_some,if_pos rfl,bne_self_eq_false,Qaw.j1,if_neg (by simp)];have h:=da_l0 b (by omega) x y E (by omega) c b.length 0 (K-b.length-1) false (by omega) (by omega);rw[show K-b.length-1+b.length+1=K by omega]at h;refine Eq.trans h ?_;rw[hit_is E (by omega) hwE c b.length (by omega),Option.bind_some,Bool.false_or,anyW_D];simp
end Go.Proofs.YteaocbonofboeaaGreat.Pure
end
