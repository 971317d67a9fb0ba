import Derived.Test.YtdkfkpbijdimkaaGreatSl1
import Derived.Test.YtdkfkpbijdimkaaGreatSimC
set_option linter.unusedVariables false
set_option linter.unusedSimpArgs false
namespace Go.Proofs.YtdkfkpbijdimkaaGreat
open Go Go.Sim
set_option linter.unusedSectionVars false
variable [Fu]
def bj (w:aa):List (List Int):=w.Epochs.flatMap (·.Tags)
def lenOf (w:aa):Nat:=(bj w).length
structure bQ (w:aa):Prop where
 newest:gInt .i64 w.Newest
 num:∀e∈w.Epochs,gInt .i64 e.Number
 tag:∀t∈bj w,t.length=16∧gb t
 len:lenOf w≤1048576
 eps:w.Epochs.length≤1048576
def part (w:aa) (i:Nat):List (List Int):=(w.Epochs.take i).flatMap (·.Tags)
theorem bP {w:aa} {i:Nat} (h:i<w.Epochs.length):part w (i+1)=part w i++w.Epochs[i].Tags:=by
 unfold part;rw[List.take_succ_eq_append_getElem h,List.flatMap_append];simp
theorem dH (w:aa):part w w.Epochs.length=bj w:=by simp[part,bj]
theorem eu (w:aa) (i:Nat):bj w=part w i++(w.Epochs.drop i).flatMap (·.Tags):=by
 unfold part bj;rw[←List.flatMap_append,List.take_append_drop]
theorem eh (w:aa) (i:Nat):(part w i).length≤lenOf w:=by
 unfold lenOf;rw[eu w i,List.length_append];omega
theorem fM {w:aa} {i:Nat} (h:i<w.Epochs.length):w.Epochs[i].Tags.length≤lenOf w:=by
 have:=eh w (i+1);rw[bP h,List.length_append] at this;omega
theorem iL {w:aa} {i:Nat} (h:i<w.Epochs.length) {t:List Int} (ht:t∈w.Epochs[i].Tags):t∈bj w:=
 List.mem_flatMap.2 ⟨_,List.getElem_mem h,ht⟩
theorem fi {x:Int} (h:gInt .i64 x): -9223372036854775808≤x∧x≤9223372036854775807:=h
section
variable {w:aa}
theorem gm (hw:bQ w):bz w=some (lenOf w:Int):=by
 have hl:=hw.len
 have he:=hw.eps
 unfold bz
 rw[Loop.run_eq0 (st:=fun i=>(((part w i).length:Int),(i:Int))) (res:=fun _=>(lenOf w:Int)) (n:=w.Epochs.length)]
 · rfl
 · intro i hi
   left
   have h1:(i:Int)<(w.Epochs.length:Int):=by omega
   have h2:=eh w (i+1)
   rw[bP hi,List.length_append] at h2
   refine⟨?_,rfl⟩
   simp only[h1,decide_true,cond_true,aJ hi,Option.bind_some]
   rw[wrap64 (by omega),wrap64 (by omega),bP hi,List.length_append]
   simp
 · simp[dH,lenOf]
 · simp[part]
theorem fj (hw:bQ w):aU w=some (lenOf w:Int):=by
 have hl:=hw.len
 have he:=hw.eps
 unfold aU
 rw[Loop.run_eq0 (st:=fun i=>(((part w i).length:Int),(i:Int))) (res:=fun _=>(lenOf w:Int)) (n:=w.Epochs.length)]
 · rfl
 · intro i hi
   left
   have h1:(i:Int)<(w.Epochs.length:Int):=by omega
   have h2:=eh w (i+1)
   rw[bP hi,List.length_append] at h2
   refine⟨?_,rfl⟩
   simp only[h1,decide_true,cond_true,aJ hi,Option.bind_some]
   rw[wrap64 (by omega),wrap64 (by omega),bP hi,List.length_append]
   simp
 · simp[dH,lenOf]
 · simp[part]
theorem gT (hw:bQ w):bg w=some (bj w):=by
 have hl:=hw.len
 have he:=hw.eps
 unfold bg
 rw[Loop.run_eq0 (st:=fun i=>(part w i,(i:Int))) (res:=fun _=>bj w) (n:=w.Epochs.length)]
 · rfl
 · intro i hi
   left
   have h1:(i:Int)<(w.Epochs.length:Int):=by omega
   have h2:=eh w (i+1)
   rw[bP hi,List.length_append] at h2
   refine⟨?_,rfl⟩
   simp only[h1,decide_true,cond_true,aJ hi,Option.bind_some]
   rw[dg (by unfold room;omega),Option.bind_some,wrap64 (by omega),bP hi]
   simp
 · simp[dH]
 · simp[part]
def cF (w:aa):List (List Int):=(bj w).foldl addk []
theorem fN {ts:List (List Int)} (hl:ts.length≤1048576) {v:Int} {m:List (List Int×Int)}:
   Loop.run (S:=(Int×(List ((List Int)×Int)))) (R:=(List ((List Int)×Int))) (fun(x483,x484)=>
    bif decide (x483<(ts.length:Int)) then
     (idx ts x483).bind fun x494=>
     some (.next (IntKind.wrap .i64 (x483+1),mset x494 v x484))
    else
     some (.done x484)) (0,m)=some (ts.foldl (fun m t=>mset t v m) m):=by
 rw[Loop.run_eq0 (st:=fun i=>((i:Int),(ts.take i).foldl (fun m t=>mset t v m) m)) (res:=fun _=>ts.foldl (fun m t=>mset t v m) m) (n:=ts.length)]
 · intro i hi
   left
   have h1:(i:Int)<(ts.length:Int):=by omega
   refine⟨?_,rfl⟩
   simp only[h1,decide_true,cond_true,aJ hi,Option.bind_some]
   rw[wrap64 (by omega),List.take_succ_eq_append_getElem hi,List.foldl_append]
   simp
 · simp
 · simp
theorem fk (v:Int):∀(ts:List (List Int)) (m:List (List Int×Int)),(ts.foldl (fun m t=>mset t v m) m).map (·.1)=ts.foldl addk (m.map (·.1))
 |[],m=>rfl
 |t::ts,m=>by rw[List.foldl_cons,fk v ts,fw];rfl
def du (w:aa):Nat→List (List Int×Int)
 |0=>[]
 |i+1=>match w.Epochs[i]? with
  |some e=>e.Tags.foldl (fun m t=>mset t (i:Int) m) (du w i)
  |none=>du w i
theorem ew:∀i,i≤w.Epochs.length→(du w i).map (·.1)=(part w i).foldl addk []
 |0,_=>by simp[du,part]
 |i+1,h=>by
  have hi:i<w.Epochs.length:=h
  have:w.Epochs[i]? =some w.Epochs[i]:=by simp[hi]
  rw[du,this,bP hi,List.foldl_append,←ew i (by omega),←fk]
theorem fB (hw:bQ w):∃m,bq w=some m∧m.map (·.1)=cF w:=by
 have hl:=hw.len
 have he:=hw.eps
 refine⟨du w w.Epochs.length,?_,by rw[ew _ (Nat.le_refl _),dH];rfl⟩
 unfold bq
 rw[Loop.run_eq0 (st:=fun i=>((i:Int),du w i)) (res:=fun _=>du w w.Epochs.length) (n:=w.Epochs.length)]
 · rfl
 · intro i hi
   left
   have h1:(i:Int)<(w.Epochs.length:Int):=by omega
   have h2:=fM hi
   refine⟨?_,rfl⟩
   simp only[h1,decide_true,cond_true,aJ hi,Option.bind_some]
   rw[fN (by omega)]
   simp only[Option.bind_some]
   rw[wrap64 (by omega)]
   have h3:w.Epochs[i]? =some w.Epochs[i]:=by simp[hi]
   simp only[du,h3]
   simp
 · simp
 · simp[du]
end
theorem ei {a b:List Int} (ha:a.length=16) (hb:b.length=16):aH a b=some (ltL a b):=by
 unfold aH
 have key:∀i,i<16→(a.drop i=a.getD i 0::a.drop (i+1))∧(b.drop i=b.getD i 0::b.drop (i+1)):=by
   intro i hi
   constructor
   · rw[List.drop_eq_getElem_cons (by omega)];simp[show i<a.length by omega]
   · rw[List.drop_eq_getElem_cons (by omega)];simp[show i<b.length by omega]
 rw [Loop.run_eq0 (st := fun i => (i : Int)) (res := fun i => if a.drop i = b.drop i then (Sum.inl () : Unit ⊕ Bool) else .inr (ltL (a.drop i) (b.drop i))) (n := 16)]
 · simp only[List.drop_zero]
   by_cases h:a=b
   · subst h;simp[cT]
   · simp[h]
 · intro i hi
   obtain⟨k1,k2⟩:=key i hi
   have h1:(i:Int)<16:=by omega
   have ia:=aJ (xs:=a) (i:=i) (by omega)
   have ib:=aJ (xs:=b) (i:=i) (by omega)
   have ea:a.getD i 0=a[i]:=by simp[show i<a.length by omega]
   have eb:b.getD i 0=b[i]:=by simp[show i<b.length by omega]
   by_cases hne:a[i]=b[i]
   · left
     constructor
     · simp only[h1,decide_true,cond_true,ia,ib,Option.bind_some,hne,bne_self_eq_false,cond_false]
       rw[wrap64 (by omega)];simp
     · rw[k1,k2,ea,eb,hne]
       generalize a.drop (i+1)=p
       generalize b.drop (i+1)=q
       generalize b[i]=z
       simp[ltL]
   · right
     have hb':(a[i] != b[i])=true:=by simpa using hne
     simp only[h1,decide_true,cond_true,ia,ib,Option.bind_some,hb']
     rw[k1,k2,ea,eb]
     generalize a.drop (i+1)=p
     generalize b.drop (i+1)=q
     generalize a[i]=y at hne⊢
     generalize b[i]=z at hne⊢
     simp[ltL,hne]
 · simp[List.drop_eq_nil_of_le (show a.length≤16 by omega),List.drop_eq_nil_of_le (show b.length≤16 by omega)]
 · rfl
theorem hH {a b:List Int}:br a b=some (cmpB a b):=by simp[br,bK]
def upB:List (List Int)→Nat→Bool
 |ts,0=>true
 |ts,i+1=>upB ts i&& !(ltL (ts.getD (i+1) []) (ts.getD i []))
theorem fO {ts:List (List Int)} (ht:∀t∈ts,t.length=16∧gb t) (hl:ts.length≤1048576):aq ts=some (upB ts (ts.length - 1)):=by
 unfold aq
 rcases Nat.eq_zero_or_pos ts.length with h0|h0
 · have:ts=[]:=List.eq_nil_of_length_eq_zero h0
   subst this
   rw [Loop.run_done (r := (.inl () : Unit ⊕ Bool))]
   · rfl
   · simp[wrap64]
 rw[wrap64 (by omega)]
 rw [Loop.run_eq0 (st := fun j => (ts.length : Int) - 1 - j) (res := fun j => if upB ts (ts.length - 1 - j) = true then (Sum.inl () : Unit ⊕ Bool) else .inr false) (n := ts.length - 1)]
 · simp only[Nat.sub_zero]
   cases upB ts (ts.length - 1)<;>simp
 · intro j hj
   have e1:(ts.length:Int) - 1 - j=((ts.length - 1 - j:Nat):Int):=by omega
   have e2:(ts.length:Int) - 1 - ((j+1:Nat):Int)=((ts.length - 1 - (j+1):Nat):Int):=by omega
   have e3:ts.length - 1 - j=(ts.length - 1 - (j+1))+1:=by omega
   generalize hk:ts.length - 1 - (j+1)=k at e2 e3
   have hk1:k+1<ts.length:=by omega
   have h1:(((k+1:Nat):Int)>0):=by omega
   have t1:=ht ts[k+1] (List.getElem_mem hk1)
   have t2:=ht ts[k] (List.getElem_mem (by omega))
   have hc:=gM t1.2 t2.2 (by rw[t1.1,t2.1])
   have g1:ts.getD (k+1) []=ts[k+1]:=by simp[hk1]
   have g2:ts.getD k []=ts[k]:=by simp[show k<ts.length by omega]
   simp only[e1,e2,e3,h1,decide_true,cond_true,aJ hk1,Option.bind_some,upB,g1,g2]
   rw[wrap64 (by omega),show(((k+1:Nat):Int) - 1)=(k:Int) by omega,aJ (show k<ts.length by omega)]
   simp only[Option.bind_some,hH]
   by_cases hlt:ltL ts[k+1] ts[k]=true
   · right
     simp[hc.2 hlt,hlt]
   · left
     have hlt':ltL ts[k+1] ts[k]=false:=by simpa using hlt
     have hc':¬cmpB ts[k+1] ts[k]<0:=fun h=>hlt (hc.1 h)
     simp[hc',hlt']
 · have e1:(ts.length:Int) - 1 - ((ts.length - 1:Nat):Int)=0:=by omega
   simp[e1,upB]
 · simp
end Go.Proofs.YtdkfkpbijdimkaaGreat
