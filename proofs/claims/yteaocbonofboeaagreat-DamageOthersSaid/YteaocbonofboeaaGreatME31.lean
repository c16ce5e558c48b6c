/- Merged texts. -/
import Derived.Test.YteaocbonofboeaaGreatME02
import Derived.Test.YteaocbonofboeaaGreatME00
import Derived.SizedLaws
import Derived.Deep.Slices
import Derived.Lib.SmallJoins
import Derived.ChangeArms
import Derived.Test.YteaocbonofboeaaGreatME30
import Derived.Test.YteaocbonofboeaaGreatME24
import Derived.Test.YteaocbonofboeaaGreatME29
import Derived.Test.YteaocbonofboeaaGreatME06
import Derived.Test.YteaocbonofboeaaGreatME12
set_option linter.unusedVariables false
set_option linter.unusedSimpArgs false
set_option maxHeartbeats 8000000
set_option maxRecDepth 100000
section
namespace Go.Proofs.YteaocbonofboeaaGreat.Open
open Go.RowKit Go.Proofs.YteaocbonofboeaaGreatW.PrintWords Go.ChangeShapes Go.WideShapes Go.Deep
structure Opens (P:Program) (t:TypeId) {α:Type} (d:Kd α) (G:α→Prop):Prop where
  sz:P.cellsOf t=d.sz
  out:∀ {H:Type} {enc:TypeId × Value→H} {w:World} {base:Nat} {spare:Nat→Bool} {held:Bool} {fuel:Nat} {cs:List Value} {x:DataW H × List MemPlace},
    DataW.trod enc P w base spare held fuel t cs=some x→(∀n∈DataW.weights P t x.1,n≤reachBytes)→∃v,d.K w v cs∧G v
theorem Qyp{P:Program}{t:TypeId}(ht:P.underlying t=some .bool)(hc:P.cellsOf t=1):Opens P t Kd.bool (fun _=>True) :=
 ⟨hc,fun h _=>by
  obtain⟨b,rfl,_⟩:=DataW.trod_bool ht h
  exact⟨b,rfl,trivial⟩⟩
theorem Qyq{P:Program}{t:TypeId}{k:IntKind}(ht:P.underlying t=some (.int k))(hc:P.cellsOf t=1):Opens P t (Kd.int k) (fun n=>(Lit.int k n).wf=true) :=
 ⟨hc,fun h _=>by
  obtain⟨b,rfl,_,hw⟩:=DataW.trod_int ht h
  exact⟨b,rfl,hw⟩⟩
theorem Qyr{P:Program}{t:TypeId}(ht:P.underlying t=some .string)(hc:P.cellsOf t=1):Opens P t Kd.string (fun s=>s.size≤140737488351232) :=
 ⟨hc,fun h hs=>by
  obtain⟨b,rfl,rfl,hw⟩:=DataW.trod_string ht h
  refine⟨b,rfl,?_⟩
  have:=hs b.data.toList.length (by simp[DataW.weights])
  simpa [reachBytes]using this⟩
theorem Qys{H:Type}{P:Program}{e:TypeId}{n:Nat}:∀ {ds:List (DataW H)} {d:DataW H},d∈ds→n∈DataW.weights P e d→n∈DataW.weightsAll P e ds
 | [],_,h,_=>by simp at h
 | a :: r,d,h,hn=>by
  simp only[DataW.weightsAll]
  rcases List.mem_cons.1 h with rfl|h
  ·exact List.mem_append_left _ hn
  ·exact List.mem_append_right _ (Qys h hn)
theorem Qyt{P:Program}{t e:TypeId}{α:Type}{d:Kd α}{G:α→Prop}{B:Nat}(ht:P.underlying t=some (.slice e))(hc:P.cellsOf t=1)(hB:P.bytesOf e=B)(he:Opens P e d G) :
  Opens P t (Kd.slice e d) (fun xs=>xs.length*B≤140737488351232∧∀x∈xs,G x) :=
 ⟨hc, fun {H enc w base spare held fuel cs x} h hs=>by
  rcases open_slice ht h with⟨rfl,rfl⟩ |⟨a,len,cap,m,n,D,Pl,rfl,hb,hl,hm,hmm,rfl,hx⟩
  ·exact⟨[],⟨none,0,rfl,Nat.zero_le _,rfl,by simp,fun hp=>absurd hp (by simp)⟩,by simp,by simp⟩
  have hlm:len≤m:=by rw[hmm];split<;>omega
  have hw:∀i,i<len→∃v,(∃cs',w.cells? base (a.add (i*P.cellsOf e)) (P.cellsOf e)=some cs'∧d.K w v cs')∧G v:=by
   intro i hi
   obtain⟨cs',h1,h2⟩:=hx i (by omega)
   obtain⟨v,hv,hg⟩:=he.out h2 (fun q hq=>hs q (by
    simp only[DataW.weights,ht]
    refine List.mem_cons_of_mem _ (List.mem_append_left _ (Qys (d:=D i) ?_ hq))
    exact List.mem_map.2 ⟨i,List.mem_range.2 hi,rfl⟩))
   exact⟨v,⟨cs',h1,hv⟩,hg⟩
  have hw':∃xs:List α,xs.length=len∧∀i p,xs[i]? = some p→(∃cs',w.cells? base (a.add (i*P.cellsOf e)) (P.cellsOf e)=some cs'∧d.K w p cs')∧G p:=by
   clear hs hx hmm hlm hm hl h
   induction len with
   | zero=>exact⟨[],rfl,by simp⟩
   | succ q ih =>
    obtain⟨xs,hxl,hxs⟩:=ih (fun i hi=>hw i (by omega))
    obtain⟨v,hv⟩:=hw q (by omega)
    refine⟨xs++[v],by simp[hxl],fun i p hp=>?_⟩
    rcases Nat.lt_or_ge i xs.length with hi|hi
    ·rw[List.getElem?_append_left hi]at hp
     exact hxs i p hp
    ·have:i=q:=by
      have:=(List.getElem?_eq_some_iff.1 hp).1
      simp at this
      omega
     subst this
     rw[← hxl]at hp
     have:v=p:=by simpa using hp
     subst this
     exact hv
  obtain⟨xs,hxl,hxs⟩:=hw'
  have hlen:len*B≤140737488351232:=by
   have:=hs ((((List.range len).map D).length+((List.range (m-len)).map fun j=>D (len+j)).length)*P.bytesOf e) (by simp[DataW.weights,ht])
   rw[hB]at this
   have h2:(((List.range len).map D).length+((List.range (m-len)).map fun j=>D (len+j)).length)=m:=by simp;omega
   rw[h2]at this
   have h3:m*B≤140737488351232:=by simpa [reachBytes]using this
   exact Nat.le_trans (Nat.mul_le_mul_right _ hlm) h3
  refine⟨xs,⟨some a,cap,by rw[hxl],by rw[hxl];exact hl,rfl,?_,fun hp=>⟨a,rfl,fun j p hj=>?_⟩⟩,by rw[hxl];exact hlen,fun x hx=>?_⟩
  ·rw[hxl]
   exact Nat.le_trans hl (by simpa [maxLen]using hm)
  ·obtain⟨⟨cs',h1,h2⟩,_⟩:=hxs j p hj
   obtain⟨_,hcl,hcc⟩:=World.cells?_some h1
   refine⟨cs',by rw[hcl,he.sz],h2,fun i u hu=>?_⟩
   have hi:i<P.cellsOf e:=by rw[← hcl];exact(List.getElem?_eq_some_iff.1 hu).1
   rw[he.sz]at hcc hi
   have:=hcc i hi
   rw[Go.Deep.add_add]at this
   rw[this,hu]
  ·obtain⟨i,hi⟩:=List.getElem?_of_mem hx
   exact(hxs i x hi).2⟩
structure OpensFs (P:Program) (ts:List TypeId) {α:Type} (d:Kd α) (G:α→Prop):Prop where
  sz:(ts.map P.cellsOf).sum=d.sz
  out:∀ {H:Type} {enc:TypeId × Value→H} {w:World} {base:Nat} {spare:Nat→Bool} {held:Bool} {fuel:Nat} {cs:List Value} {xs:List (DataW H × List MemPlace)},
    cs.length=(ts.map P.cellsOf).sum→xs.length=ts.length →
    (∀i t,ts[i]? = some t→DataW.trod enc P w base spare held fuel t ((cs.drop ((ts.take i).map P.cellsOf).sum).take (P.cellsOf t))=xs[i]?) →
    (∀n∈DataW.weightsEach P ts (xs.map (·.1)),n≤reachBytes)→∃v,d.K w v cs∧G v
theorem OpensFs.one{P:Program}{t:TypeId}{α:Type}{d:Kd α}{G:α→Prop}(h:Opens P t d G):OpensFs P [t] d G :=
 ⟨by simp[h.sz],fun {H enc w base spare held fuel cs xs} hl hx ht hs=>by
  match xs,hx with
  | [x],_ =>
   have h0:=ht 0 t rfl
   simp at hl h0
   rw[List.take_of_length_le (by omega)]at h0
   exact h.out h0 (fun n hn=>hs n (by simp[DataW.weightsEach,hn]))⟩
theorem OpensFs.cons{P:Program}{t:TypeId}{ts:List TypeId}{α β:Type}{d:Kd α}{G:α→Prop}{d':Kd β}{G':β→Prop}(h:Opens P t d G)(r:OpensFs P ts d' G'):OpensFs P (t :: ts) (Kd.pair d d') (fun x=>G x.1∧G' x.2) :=
 ⟨by simp[h.sz,r.sz,Kd.pair],fun {H enc w base spare held fuel cs xs} hl hx ht hs=>by
  match xs,hx with
  | x :: xs,hx =>
   have h0:=ht 0 t rfl
   simp at hl h0 hx
   obtain⟨a,ha,hga⟩:=h.out h0 (fun n hn=>hs n (by simp[DataW.weightsEach,hn]))
   obtain⟨b,hb,hgb⟩:=r.out (enc:=enc) (w:=w) (base:=base) (spare:=spare) (held:=held) (fuel:=fuel) (cs:=cs.drop (P.cellsOf t)) (xs:=xs) (by rw[List.length_drop];omega) hx
    (fun i t' hi=>by
     have:=ht (i+1) t' (by simpa using hi)
     simp only[List.take_succ_cons,List.map_cons,List.sum_cons,List.getElem?_cons_succ]at this
     rw[List.drop_drop]
     exact this)
    (fun n hn=>hs n (by simp only[List.map_cons,DataW.weightsEach];exact List.mem_append_right _ hn))
   exact⟨(a,b),⟨cs.take (P.cellsOf t),cs.drop (P.cellsOf t),by simp,ha,hb⟩,hga,hgb⟩⟩
def Qyu(P:Program):Nat→List Field→Bool
 | _,[]=>true
 | o,f :: r=>(f.offset == o) && Qyu P (o+P.cellsOf f.type) r
theorem Qyv{P:Program}:∀ {fs:List Field} {o:Nat},Qyu P o fs=true→∀i f,fs[i]? = some f→f.offset=o+(((fs.map (·.type)).take i).map P.cellsOf).sum
 | [],_,_,i,f,h=>by simp at h
 | g :: r,o,h,0,f,hf=>by
  simp[Qyu]at h
  simp at hf
  subst hf
  simp[h.1]
 | g :: r,o,h,i+1,f,hf=>by
  simp[Qyu]at h
  have:=Qyv h.2 i f (by simpa using hf)
  simp[this]
  omega
theorem Qyw{P:Program}{t:TypeId}{fs:Array Field}{α β:Type}{d:Kd α}{G:α→Prop}(ht:P.underlying t=some (.struct fs))(hl:Qyu P 0 fs.toList=true)(hc:P.cellsOf t=d.sz)
  (r:OpensFs P (fs.toList.map (·.type)) d G) (f:β→α) (g:α→β) (hfg:∀a,f (g a)=a):Opens P t (Kd.iso d f) (fun x=>G (f x)) :=
 ⟨hc,fun {H enc w base spare held fuel cs x} h hs=>by
  obtain⟨xs,n,rfl,rfl,hcl,hxl,hx⟩:=DataW.trod_struct ht h
  obtain⟨v,hv,hg⟩:=r.out (enc:=enc) (w:=w) (base:=base) (spare:=spare) (held:=held) (fuel:=n) (cs:=cs) (xs:=xs) (by rw[hcl,hc,r.sz]) (by simp[hxl])
   (fun i t' hi=>by
    rw[List.getElem?_map]at hi
    cases hf:fs.toList[i]? with
    | none=>simp[hf]at hi
    | some fd =>
     simp[hf]at hi
     subst hi
     have:=hx i fd (by simpa using hf)
     rw[Qyv hl i fd hf,Nat.zero_add]at this
     exact this)
   (fun q hq=>hs q (by simp only[DataW.weights,ht];exact hq))
  exact⟨g v,by show d.K w (f (g v)) cs;rw[hfg];exact hv,by show G (f (g v));rw[hfg];exact hg⟩⟩
theorem Qyx{H:Type}{P:Program}:∀ {ts:List TypeId} {ds:List (DataW H)} {j:Nat} {t:TypeId} {d:DataW H},(DataW.weightsEach P ts ds).all (·≤reachBytes)=true→ts[j]? = some t→ds[j]? = some d→∀n∈DataW.weights P t d,n≤reachBytes
 | [],_,_,_,_,_,h,_=>by simp at h
 | _ :: _,[],_,_,_,_,_,h=>by simp at h
 | t0 :: ts,d0 :: ds,0,t,d,hz,h1,h2=>by
  simp at h1 h2
  subst h1 h2
  intro n hn
  simp only[DataW.weightsEach]at hz
  exact of_decide_eq_true (List.all_eq_true.1 hz n (List.mem_append_left _ hn))
 | t0 :: ts,d0 :: ds,j+1,t,d,hz,h1,h2=>by
  simp only[DataW.weightsEach]at hz
  refine Qyx (ts:=ts) (ds:=ds) (j:=j) ?_ (by simpa using h1) (by simpa using h2)
  rw[List.all_append]at hz
  exact(Bool.and_eq_true _ _ ▸ hz).2
theorem Qyy{H:Type}{enc:TypeId × Value→H}{P:Program}{w:World}{base:Nat}{spare:Nat→Bool}{held:Bool}{t e:TypeId}{α:Type}{d:Kd α}{G:List α→Prop}(op:Opens P t (Kd.slice e d) G){a:Option Addr}{len cap:Nat}{x:DataW H}{ps:List MemPlace}
  (h:DataW.Trod enc P w base spare held t (.slice a len cap) x ps) (hs:∀n∈DataW.weights P t x,n≤reachBytes):∃l:List α,len=l.length∧l.length≤cap∧d.C w a l.length l∧G l:=by
 obtain⟨fuel,hf⟩:=h
 obtain⟨l,⟨A,c,he,hc,hr⟩,hg⟩:=op.out hf hs
 have he':[Value.slice a len cap]=[.slice A l.length c]:=by simpa [Value.cells]using he
 simp only[List.cons.injEq,Value.slice.injEq,and_true]at he'
 obtain⟨rfl,rfl,rfl⟩:=he'
 exact⟨l,rfl,hc,hr,hg⟩
theorem arg_agg{H:Type}{enc:TypeId × Value→H}{P:Program}{w:World}{base:Nat}{spare:Nat→Bool}{held:Bool}{t:TypeId}{α:Type}{d:Kd α}{G:α→Prop}(op:Opens P t d G){cs:Array Value}{x:DataW H}{ps:List MemPlace}
  (h:DataW.Trod enc P w base spare held t (.agg cs) x ps) (hs:∀n∈DataW.weights P t x,n≤reachBytes):∃v,d.K w v cs.toList∧G v:=by
 obtain⟨fuel,hf⟩:=h
 have hf':DataW.trod enc P w base spare held fuel t cs.toList=some (x,ps):=by simpa [Value.cells]using hf
 exact op.out hf' hs
theorem Qyz{cs:Array Value}{l:List Value}(h:cs.toList=l):cs=l.toArray:=by rw[← h]
end Go.Proofs.YteaocbonofboeaaGreat.Open
end
section
namespace Go.Proofs.YteaocbonofboeaaGreat.C
open Go.RowKit Go.Proofs.YteaocbonofboeaaGreatW.PrintWords Go.Proofs.YteaocbonofboeaaGreatW.PrintLast Go.Proofs.YteaocbonofboeaaGreatW.PrintMore Go.Proofs.YteaocbonofboeaaGreat.Open
theorem opT5:Opens Tryz.prog 5 (Kd.int .u8) (fun x=>(Lit.int .u8 x).wf=true):=Qyq Tryz.underlying5 (by kernel_rfl)
theorem opT4:Opens Tryz.prog 4 Kd.bool (fun x=>True):=Qyp Tryz.underlying4 (by kernel_rfl)
theorem opT35:Opens Tryz.prog 35 (Kd.int .u64) (fun x=>(Lit.int .u64 x).wf=true):=Qyq Tryz.underlying35 (by kernel_rfl)
theorem opT9:Opens Tryz.prog 9 Kd.string (fun x=>x.size≤140737488351232):=Qyr Tryz.underlying9 (by kernel_rfl)
def OG37(x:S37):Prop:=True∧(Lit.int .u64 x.f1).wf=true∧x.f2.size≤140737488351232∧x.f3.size≤140737488351232
theorem opT37:Opens Tryz.prog 37 k37 (fun x=>OG37 x):=Qyw Tryz.underlying37 (by kernel_rfl) (by kernel_rfl) (OpensFs.cons opT4 (OpensFs.cons opT35 (OpensFs.cons opT9 (OpensFs.one opT9)))) (fun x:S37=>(x.f0,x.f1,x.f2,x.f3)) (fun p=>⟨p.1,p.2.1,p.2.2.1,p.2.2.2⟩) (fun _=>rfl)
theorem opT22:Opens Tryz.prog 22 (Kd.slice 37 k37) (fun x=>(x.length*48≤140737488351232∧∀z1∈x,OG37 z1)):=Qyt (B:=48) Tryz.underlying22 (by kernel_rfl) (by kernel_rfl) opT37
def OG158(x:S158):Prop:=(Lit.int .u64 x.f0).wf=true∧(Lit.int .u8 x.f1).wf=true
theorem opT158:Opens Tryz.prog 158 k158 (fun x=>OG158 x):=Qyw Tryz.underlying158 (by kernel_rfl) (by kernel_rfl) (OpensFs.cons opT35 (OpensFs.one opT5)) (fun x:S158=>(x.f0,x.f1)) (fun p=>⟨p.1,p.2⟩) (fun _=>rfl)
theorem opT79:Opens Tryz.prog 79 (Kd.slice 158 k158) (fun x=>(x.length*16≤140737488351232∧∀z1∈x,OG158 z1)):=Qyt (B:=16) Tryz.underlying79 (by kernel_rfl) (by kernel_rfl) opT158
theorem opT3:Opens Tryz.prog 3 (Kd.int .i64) (fun x=>(Lit.int .i64 x).wf=true):=Qyq Tryz.underlying3 (by kernel_rfl)
def OG81(x:S81):Prop:=(x.f0.length*16≤140737488351232∧∀z4∈x.f0,OG158 z4)∧(Lit.int .i64 x.f1).wf=true
theorem opT81:Opens Tryz.prog 81 k81 (fun x=>OG81 x):=Qyw Tryz.underlying81 (by kernel_rfl) (by kernel_rfl) (OpensFs.cons opT79 (OpensFs.one opT3)) (fun x:S81=>(x.f0,x.f1)) (fun p=>⟨p.1,p.2⟩) (fun _=>rfl)
def Qay.Pure:Prop:=∀(x0:Int) (x1:List (S37)) (x2:S81),(Lit.int .u8 x0).wf=true→(x1.length*48≤140737488351232∧∀z2∈x1,OG37 z2)→OG81 x2→∃k,Qay.f k x0 x1 x2.f0 x2.f1=some true
end Go.Proofs.YteaocbonofboeaaGreat.C
end
section
namespace Go.Proofs.YteaocbonofboeaaGreat.CodecP
open Go.RowKit Go.Proofs.YteaocbonofboeaaGreat.C Go.Proofs.YteaocbonofboeaaGreatW.PrintWords Go.Proofs.YteaocbonofboeaaGreatW.PrintLast Go.Proofs.YteaocbonofboeaaGreatW.PrintMore
theorem lives24(k:Nat):Qba.f (k+5)=some true:=by
 have h:Qaq.f (k+5) ([1,2,3]:List Int) ([(⟨1,9⟩:S158)]:List S158) 2=some [1,9]:=by kernel_rfl
 have h2:(strOfNums [1,9]).toList=([1,9]:List UInt8):=by rw[Lib.toList_data];rfl
 unfold Qba.f;rw[h,Option.bind_some,show Qax.f=some true from rfl,Option.bind_some,if_pos rfl,h2];rfl
theorem lives24k(k:Nat)(hk:5≤k):Qba.f k=some true:=by
 obtain⟨m,rfl⟩:∃m,k=m+5:=⟨k-5,by omega⟩;exact lives24 m
abbrev Ed:=S158
theorem rdE(E:List Ed)(j:Nat)(h:j<E.length):Qjo E (j:Int)=E[j]:=by
 unfold Qjo;rw[Int.toNat_natCast,List.getD_eq_getElem?_getD,List.getElem?_eq_getElem h];rfl
def stepE(o:List Int)(e:Ed):List Int:=if e.f0<(o.length:Int)then o.set e.f0.toNat e.f1 else o
def setE(o:List Int)(E:List Ed):List Int:=E.foldl stepE o
theorem stepE_len(o:List Int)(e:Ed):(stepE o e).length=o.length:=by unfold stepE;split<;>simp
theorem setE_len:∀(E:List Ed) (o:List Int),(setE o E).length=o.length
 | [],o=>rfl
 | e :: E,o=>by
  show(setE (stepE o e) E).length=_;rw[setE_len E,stepE_len]
def leftN(c:Int)(n:Nat):Nat:=if c<0 then n else if c<(n:Int)then c.toNat else n
def wfEd(E:List Ed):Prop:=∀e∈E,(0≤e.f0∧e.f0<18446744073709551616)∧0≤e.f1∧e.f1<256
theorem left_is(E:List Ed)(c:Int)(n:Nat):Qar.f E c (n:Int)=some ((leftN c n:Nat):Int):=by
 unfold Qar.f leftN mn
 by_cases h:c<0
 ·rw[if_pos h,if_pos h]
 ·rw[if_neg h,if_neg h]
  by_cases h2:c<(n:Int)
  ·rw[if_pos h2,if_pos h2,Int.toNat_of_nonneg (by omega)]
  ·rw[if_neg h2,if_neg h2]
theorem app_l0(E:List Ed)(hE:E.length≤1000000)(hw:wfEd E)(c:Int)(E0:List Ed):∀(d j k:Nat) (o:List Int),j+d=E.length→o.length≤1000000→Qaq.l0 (k+d+1) o E (E.length:Int) (j:Int) E0 c=some ((setE o (E.drop j)).take (leftN c o.length))
 | 0,j,k,o,hd,ho=>by
  have hl:leftN c o.length≤o.length:=by unfold leftN;split;omega;split<;>omega
  unfold Qaq.l0;rw[if_neg (by omega),List.drop_of_length_le (by omega),left_is,Option.bind_some,if_pos (by omega),if_pos (by omega),Int.toNat_natCast];rfl
 | d+1,j,k,o,hd,ho=>by
  have hj:j<E.length:=by omega
  have hwj:=hw E[j] (List.getElem_mem hj);have hset:setE o (E.drop j)=setE (stepE o E[j]) (E.drop (j+1)):=by rw[List.drop_eq_getElem_cons hj];rfl
  unfold Qaq.l0;rw[if_pos (by omega),if_pos (by omega),if_pos (by omega),rdE E j hj,IntWalk.u64_in (o.length:Int) (by omega),Qub j (by omega),show k+(d+1)=k+d+1 by omega,hset]
  by_cases h:E[j].f0<(o.length:Int)
  ·have hs:stepE o E[j]=o.set E[j].f0.toNat E[j].f1:=by unfold stepE;rw[if_pos h]
   have ih:=app_l0 E hE hw c E0 d (j+1) k (stepE o E[j]) (by omega) (by rw[stepE_len];exact ho);rw[stepE_len]at ih;rw[if_pos h,if_pos hwj.1.1,if_pos h,← hs];exact ih
  ·have hs:stepE o E[j]=o:=by unfold stepE;rw[if_neg h]
   rw[if_neg h,hs];exact app_l0 E hE hw c E0 d (j+1) k o (by omega) ho
theorem app_is(b:List Int)(hb:b.length≤1000000)(E:List Ed)(hE:E.length≤1000000)(hw:wfEd E)(c:Int)(k:Nat)(hk:E.length+1≤k):Qaq.f k b E c=some ((setE b E).take (leftN c b.length)):=by
 unfold Qaq.f Qad.f;rw[if_pos (by omega),Option.bind_some];have h:=app_l0 E hE hw c E E.length 0 (k-E.length-1) b (by omega) hb;rw[show k-E.length-1+E.length+1=k by omega,List.drop_zero]at h;exact h
def lastE(i:Nat)(v:Int)(E:List Ed):Int:=E.foldl (fun v e=>if e.f0=(i:Int)then e.f1 else v) v
theorem setE_at:∀(E:List Ed) (o:List Int) (i:Nat) (hi:i<o.length),wfEd E→(setE o E)[i]? = some (lastE i o[i] E)
 | [],o,i,hi,_=>by
  show o[i]? = some o[i];rw[List.getElem?_eq_getElem hi]
 | e :: E,o,i,hi,hw=>by
  have hwe:=hw e (List.mem_cons_self ..);have hi':i<(stepE o e).length:=by rw[stepE_len];exact hi
  have ih:=setE_at E (stepE o e) i hi' (fun x hx=>hw x (List.mem_cons_of_mem _ hx));have hv:(stepE o e)[i]=if e.f0=(i:Int)then e.f1 else o[i]:=by
   by_cases h:e.f0=(i:Int)
   ·rw[if_pos h];have hlt:e.f0<(o.length:Int):=by omega
    have ht:e.f0.toNat=i:=by omega
    have hs:stepE o e=o.set i e.f1:=by unfold stepE;rw[if_pos hlt,ht]
    simp[hs]
   ·rw[if_neg h]
    by_cases hlt:e.f0<(o.length:Int)
    ·have ht:e.f0.toNat≠i:=by omega
     have hs:stepE o e=o.set e.f0.toNat e.f1:=by unfold stepE;rw[if_pos hlt]
     simp[hs,List.getElem_set_ne ht]
    ·have hs:stepE o e=o:=by unfold stepE;rw[if_neg hlt]
     simp[hs]
  show(setE (stepE o e) E)[i]? = some (lastE i (if e.f0=(i:Int)then e.f1 else o[i]) E);rw[ih,hv]
def damB(c:Int)(E:List Ed)(i:Nat):Bool:=(decide (0≤c) && decide (c≤(i:Int))) || E.any (fun e=>decide (e.f0=(i:Int)))
def anyD(c:Int)(E:List Ed):Nat→Nat→Bool
 | _,0=>false
 | a,d+1=>damB c E a || anyD c E (a+1) d
theorem anyD_iff(c:Int)(E:List Ed):∀(d a:Nat),anyD c E a d=true↔∃i,a≤i∧i<a+d∧damB c E i=true
 | 0,a=>by
  constructor
  ·intro h;simp[anyD]at h
  ·rintro⟨i,h1,h2,_⟩;omega
 | d+1,a=>by
  rw[anyD,Bool.or_eq_true,anyD_iff c E d (a+1)]
  constructor
  ·rintro(h |⟨i,h1,h2,h3⟩)
   ·exact⟨a,Nat.le_refl _,by omega,h⟩
   ·exact⟨i,by omega,by omega,h3⟩
  ·rintro⟨i,h1,h2,h3⟩
   by_cases h:i=a
   ·subst h;exact .inl h3
   ·exact .inr ⟨i,by omega,by omega,h3⟩
theorem damB_iff(c:Int)(E:List Ed)(i:Nat):damB c E i=true↔(0≤c∧c≤(i:Int))∨∃e∈E,e.f0=(i:Int):=by
 unfold damB;rw[Bool.or_eq_true,Bool.and_eq_true,decide_eq_true_iff,decide_eq_true_iff,List.any_eq_true];simp only[decide_eq_true_iff]
theorem hit_is(E:List Ed)(hE:E.length≤1000000)(hw:wfEd E)(c:Int)(n:Nat)(hn:n≤1000000)(x y:Int):Qas.f E c (n:Int) x y=some (anyD c E (mx x 0).toNat (mn y (n:Int)-mx x 0).toNat):=by
 have hF:0≤mx x 0:=by unfold mx;split<;>omega
 have hT:mn y (n:Int)≤(n:Int):=by unfold mn;split<;>omega
 obtain⟨F,hFe⟩:∃F,F=mx x 0:=⟨_,rfl⟩;obtain⟨T,hTe⟩:∃T,T=mn y (n:Int):=⟨_,rfl⟩;unfold Qas.f;rw[← hFe]at hF;rw[← hTe]at hT;rw[← hFe,← hTe];clear hFe hTe;rw[if_pos (by omega)]
 by_cases h1:T≤F
 ·rw[if_pos h1,show(T-F).toNat=0 by omega];rfl
 ·rw [if_neg h1,left_is,Option.bind_some]
  by_cases h2:((leftN c n:Nat):Int)<T
  ·rw[if_pos h2]
   congr 1
   refine Eq.symm ((anyD_iff c E _ _).2 ⟨(T-1).toNat,by omega,by omega,(damB_iff c E _).2 (.inl ?_)⟩);unfold leftN at h2
   by_cases hc:c<0
   ·rw[if_pos hc]at h2;omega
   ·rw[if_neg hc]at h2
    by_cases hc2:c<(n:Int)
    ·rw[if_pos hc2]at h2;omega
    ·rw[if_neg hc2]at h2;omega
  ·rw[if_neg h2,IntWalk.u64_in F (by omega),IntWalk.u64_in T (by omega)]
   congr 1
   rw[Bool.eq_iff_iff,anyD_iff];unfold hitL;rw[List.any_eq_true];have hcut:∀i:Nat,(i:Int)<T→¬(0≤c∧c≤(i:Int)):=by
    intro i hi hci;unfold leftN at h2;rw[if_neg (by omega)]at h2
    by_cases hc2:c<(n:Int)
    ·rw[if_pos hc2]at h2;omega
    ·rw[if_neg hc2]at h2;omega
   constructor
   ·rintro⟨e,he,h3⟩;have hwe:=hw e he;unfold hitE at h3;rw[Bool.and_eq_true,decide_eq_true_iff,decide_eq_true_iff]at h3;exact⟨e.f0.toNat,by omega,by omega,(damB_iff c E _).2 (.inr ⟨e,he,by omega⟩)⟩
   ·rintro⟨i,h3,h4,h5⟩
    rcases(damB_iff c E i).1 h5 with h6 |⟨e,he,h6⟩
    ·exact absurd h6 (hcut i (by omega))
    ·refine⟨e,he,?_⟩;unfold hitE;rw[Bool.and_eq_true,decide_eq_true_iff,decide_eq_true_iff];omega
def cutP(sg:Int):Int→Int→List Int→List Ck
 | _,_,[]=>[]
 | fr,at_,x :: l=>if x=0 then(sg,fr,at_) :: cutP sg (at_+1) (at_+1) l else cutP sg fr (at_+1) l
theorem cutA_step(n sg at_ fr:Nat)(x:Int)(l:List Int)(hs:sg<1000000000000):(cutA (ksOf n sg at_ fr) (x :: l)).1=(if x=0 then [((sg:Int),(fr:Int),(at_:Int))]else [])++(cutA (if at_+1=n then ksOf n (sg+1) 0 0 else ksOf n sg (at_+1) (if x=0 then at_+1 else fr)) l).1:=by
 rw[← Qyi n sg at_ fr x hs];rfl
theorem cutA_piece(n sg:Nat)(hs:sg<1000000000000)(rest:List Int):∀(p:List Int) (at_ fr:Nat),at_<n→at_+p.length=n→(cutA (ksOf n sg at_ fr) (p++rest)).1=cutP sg fr at_ p++(cutA (ksOf n (sg+1) 0 0) rest).1
 | [],at_,fr,h1,h2=>by simp at h2;omega
 | x :: p,at_,fr,h1,h2=>by
  simp only[List.length_cons]at h2;rw[List.cons_append,cutA_step n sg at_ fr x _ hs];unfold cutP
  by_cases hw:at_+1=n
  ·rw[if_pos hw];obtain rfl:p=[]:=List.eq_nil_of_length_eq_zero (by omega)
   by_cases hx:x=0
   ·rw[if_pos hx,if_pos hx];rfl
   ·rw[if_neg hx,if_neg hx];rfl
  ·rw[if_neg hw]
   by_cases hx:x=0
   ·rw[if_pos hx,if_pos hx,if_pos hx,cutA_piece n sg hs rest p (at_+1) (at_+1) (by omega) (by omega)];rfl
   ·rw[if_neg hx,if_neg hx,if_neg hx,cutA_piece n sg hs rest p (at_+1) fr (by omega) (by omega)];rfl
theorem w64_nat(x:Nat)(h:x<4611686018427387904):wrap64 (x:Int)=(x:Int):=by unfold wrap64;omega
theorem cut_count(n:Nat):∀(l:List Int) (K:KS),(cutA K l).1.length≤l.length
 | [],_=>by simp[cutA]
 | x :: l,K=>by
  have:=cut_count n l (cutN K x);unfold cutA cutO;rw[List.length_append];split<;>simp only[List.length_cons,List.length_nil]<;>omega
theorem allF_len(a0:Int)(l:List Int):(allF a0 l).length≤l.length:=by
 unfold allF;have h:∀T:List Ck,(T.flatMap (fndC l (nOf a0))).length≤T.length:=by
  intro T
  induction T with
  | nil=>simp
  | cons c T ih =>
   rw[List.flatMap_cons,List.length_append,List.length_cons];have:(fndC l (nOf a0) c).length≤1:=by unfold fndC fndO;split<;>simp
   omega
 exact Nat.le_trans (h _) (cut_count 0 l _)
def Beg(L:List Int)(n s f t:Nat):Prop:=f≤t∧t<n∧(f=0∨L[s*n+f-1]? = some 0)∧∀i,f≤i→i<t→L[s*n+i]?≠some 0
def Tgt(n:Nat)(L:List Int):Nat→List Ck→Prop
 | _,[]=>True
 | lo,c :: T=>∃s f t:Nat,c=((s:Int),(f:Int),(t:Int))∧lo≤s*n+t∧s*n+t<L.length∧L[s*n+t]? = some 0∧Beg L n s f t∧Tgt n L (s*n+t+1) T
theorem Tgt.low{n:Nat}{L:List Int}{a b:Nat}{T:List Ck}(h:a≤b)(hT:Tgt n L b T):Tgt n L a T:=by
 cases T with
 | nil=>trivial
 | cons c T =>
  obtain⟨s,f,t,h1,h2,h3⟩:=hT;exact⟨s,f,t,h1,Nat.le_trans h h2,h3⟩
theorem divide{n s t sg at_:Nat}(h1:t<n)(h2:at_<n)(h:s*n+t=sg*n+at_):s=sg∧t=at_:=by
 have hs:s=sg:=by
  rcases Nat.lt_trichotomy s sg with g|g|g
  ·have:(s+1)*n≤sg*n:=Nat.mul_le_mul_right _ g;rw[Nat.succ_mul]at this;omega
  ·exact g
  ·have:(sg+1)*n≤s*n:=Nat.mul_le_mul_right _ g;rw[Nat.succ_mul]at this;omega
 subst hs;exact⟨rfl,by omega⟩
theorem tgt_of(L:List Int)(n:Nat):∀(l pre:List Int) (sg at_ fr:Nat) (T:List Ck),L=pre++l→L.length≤1000000→fr≤at_→at_<n→pre.length=sg*n+at_→(fr=0∨L[sg*n+fr-1]? = some 0)→(∀i,fr≤i→i<at_→L[sg*n+i]?≠some 0)→Tgt n L (sg*n+at_) T→T.Sublist (cutA (ksOf n sg at_ fr) l).1
 | l,pre,sg,at_,fr,[],_,_,_,_,_,_,_,_=>List.nil_sublist _
 | [],pre,sg,at_,fr,c :: T,hL,_,_,_,hlen,_,_,hT=>by
  obtain⟨s,f,t,_,h2,h3,_⟩:=hT;rw[List.append_nil]at hL;rw[hL]at h3;omega
 | x :: l,pre,sg,at_,fr,c :: T,hL,hLl,hp1,hp2,hlen,hb1,hb2,hT=>by
  have hLlen:L.length=pre.length+(l.length+1):=by rw[hL,List.length_append,List.length_cons]
  have hsgn:sg≤sg*n:=Nat.le_mul_of_pos_right _ (by omega);have hnext:L=(pre++[x])++l:=by rw[hL];simp
  have hpl:(pre++[x]).length=sg*n+at_+1:=by rw[List.length_append];simp only[List.length_singleton];omega
  have hmul:(sg+1)*n=sg*n+n:=Nat.succ_mul _ _;have hxat:L[sg*n+at_]? = some x:=by
   rw[hL,← hlen,List.getElem?_append_right (Nat.le_refl _)];simp
  rw[cutA_step n sg at_ fr x l (by omega)];have hrest:∀T':List Ck,Tgt n L (sg*n+at_+1) T'→T'.Sublist (cutA (if at_+1=n then ksOf n (sg+1) 0 0 else ksOf n sg (at_+1) (if x=0 then at_+1 else fr)) l).1:=by
   intro T' hT'
   by_cases hw:at_+1=n
   ·rw[if_pos hw];exact tgt_of L n l (pre++[x]) (sg+1) 0 0 T' hnext hLl (Nat.le_refl _) (by omega) (by omega) (.inl rfl) (fun i h1 h2=>by omega) (Tgt.low (by omega) hT')
   ·rw[if_neg hw]
    by_cases hx:x=0
    ·rw[if_pos hx];exact tgt_of L n l (pre++[x]) sg (at_+1) (at_+1) T' hnext hLl (Nat.le_refl _) (by omega) (by omega) (.inr (by rw[show sg*n+(at_+1)-1=sg*n+at_ by omega,hxat,hx])) (fun i h1 h2=>by omega) (Tgt.low (by omega) hT')
    ·rw[if_neg hx];refine tgt_of L n l (pre++[x]) sg (at_+1) fr T' hnext hLl (by omega) (by omega) (by omega) hb1 (fun i h1 h2=>?_) (Tgt.low (by omega) hT')
     by_cases hi:i=at_
     ·rw[hi,hxat];intro e;exact hx (Option.some.inj e)
     ·exact hb2 i h1 (by omega)
  obtain⟨s,f,t,hc,h2,h3,h4,⟨h5,h6,h7,h8⟩,h9⟩:=hT
  by_cases he:s*n+t=sg*n+at_
  ·obtain⟨rfl,rfl⟩:=divide h6 hp2 he;have hx:x=0:=by rw[hxat]at h4;exact Option.some.inj h4
   have hf:f=fr:=by
    rcases Nat.lt_trichotomy f fr with g|g|g
    ·rcases hb1 with hb|hb
     ·omega
     ·exact absurd (by rw[show s*n+(fr-1)=s*n+fr-1 by omega];exact hb) (h8 (fr-1) (by omega) (by omega))
    ·exact g
    ·rcases h7 with hb|hb
     ·omega
     ·exact absurd (by rw[show s*n+(f-1)=s*n+f-1 by omega];exact hb) (hb2 (f-1) (by omega) (by omega))
   subst hf;rw[if_pos hx,List.singleton_append,hc];exact(hrest T h9).cons_cons _
  ·have hgo:(c :: T).Sublist (cutA (if at_+1=n then ksOf n (sg+1) 0 0 else ksOf n sg (at_+1) (if x=0 then at_+1 else fr)) l).1:=hrest (c :: T) ⟨s,f,t,hc,by omega,h3,h4,⟨h5,h6,h7,h8⟩,h9⟩;exact hgo.trans (List.sublist_append_right _ _)
theorem sub_flat{α β:Type}(g:α→List β){a b:List α}(h:a.Sublist b):(a.flatMap g).Sublist (b.flatMap g):=by
 induction h with
 | slnil=>exact List.Sublist.refl _
 | cons x _ ih=>rw[List.flatMap_cons];exact ih.trans (List.sublist_append_right _ _)
 | cons_cons x _ ih=>rw[List.flatMap_cons,List.flatMap_cons];exact(List.Sublist.refl _).append ih
theorem tgt_found(a0:Int)(L:List Int)(hL:L.length≤1000000)(T:List Ck)(h:Tgt (nOf a0) L 0 T):(T.flatMap (fndC L (nOf a0))).Sublist (allF a0 L):=by
 unfold allF;exact sub_flat _ (tgt_of L (nOf a0) L [] 0 0 0 T rfl hL (Nat.le_refl _) (by unfold nOf;split<;>omega) (by simp) (.inl rfl) (fun i h1 h2=>by omega) (Tgt.low (by omega) h))
end Go.Proofs.YteaocbonofboeaaGreat.CodecP
end
