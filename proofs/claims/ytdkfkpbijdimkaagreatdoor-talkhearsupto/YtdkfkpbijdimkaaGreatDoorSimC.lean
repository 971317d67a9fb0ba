import Derived.Test.YtdkfkpbijdimkaaGreatDoorSimB
import Derived.Laws.StructEq
import Derived.Lib.ConvBytes
import Derived.Laws.BytesString
import Derived.ClaimOpenTies
import Derived.Leaving
import Derived.Laws.IdiomRangeMap
import Derived.Laws.Strings
set_option linter.unusedVariables false
set_option linter.unusedSimpArgs false
namespace Go.Sim
open Go
section
variable {P:Program} {ops:Array Oper} {Q:Exit→Act→World→Prop} {rest:List Oper} {F0:Fz} {n:Nat} {E:List (Nat×SV)} {L:List Res}
variable {d:Nat} {op:Op} {ty:TypeId} {pos:String} {aft:Array Edge} {s:SV}
def srcT (P:Program) (u:TypeId):Bool:=match P.underlying u with
 |some (.slice _)|some .string=>true
 |_=>false
theorem lD {u:TypeId} (h:srcT P u=true):(∃e,P.underlying u=some (.slice e))∨P.underlying u=some .string:=by
 unfold srcT at h
 split at h
 · rename_i e he;exact .inl ⟨_,he⟩
 · rename_i he;exact .inr he
 · cases h
theorem mf {t u e:TypeId} {i:TypeInfo} {z:Value} (ht:P.underlying t=some (.slice e)) (hu:srcT P u=true) (hi:P.info? e=some i) (hz:i.zero=some z) {w:World} {b:Addr} {sLen sCap:Nat} {olds:List Value} (hlo:olds.length=sLen*i.size)
  (holds:∀j v,olds[j]? =some v→w.cell? (b.add j)=some v) {v:Value} {m:Nat} {news:List Value} (hv:SrcV P w i.size v m news)
  (hg:sCap<sLen+m) (h63:((sLen+m:Nat):Int)≤9223372036854775807) (hfit:Builtin.nextslicecap (sLen+m) sCap*i.bytes≤281474976710656):
  (Builtin.append_ #[t,u] ty #[.slice (some b) sLen sCap,v]).run P w= .ok (.slice (some ⟨w.heap.size,0,none⟩) (sLen+m) (grownCap w (sLen+m) sCap e))
    (w.drew.alloc (.cells (olds.toArray++news.toArray++Builtin.zeroCells z.cells (grownCap w (sLen+m) sCap e - (sLen+m))) e)):=by
 have hn:¬(sLen+m≤sCap):=by omega
 have h63':¬(9223372036854775807<((sLen:Int)+(m:Int))):=by omega
 have h48':¬(281474976710656<Builtin.nextslicecap (sLen+m) sCap*i.bytes):=by omega
 have hf:=hv.cells w.drew rfl m (Nat.le_refl _)
 rw[←hv.nl,List.take_length] at hf
 have hlen:=hv.len w
 have hfo:=run_firstCells_some (P:=P) w.drew i.size sLen b sLen sCap olds hlo (by simpa using holds)
 rcases lD hu with⟨e',hu⟩|hu<;>
  (simp[Builtin.append_,run_underlying ht,run_underlying hu,sizeOf,typeInfo,zeroValue,hi,hz,hlen,hn,h63',h48',Question.forced,hf,hfo,newRow,grownCap]
   congr 2
   apply Array.ext'
   simp[List.append_assoc])
def OkX (P:Program) (f:FuncId) (args:List SV) (L:List Res) {C:Type} (s:C→SV) (L':C→List Res):Prop:=
 ∀F w vs,SV.oks F vs args→St F w L→Calls P f vs.toArray w fun e w'=>∃y G v,e= .returned v∧F≤G∧St G w' (L' y)∧(s y).ok G v
theorem Under.callX {f:FuncId} {X:Operand} {xs:List Operand} {tys:Array TypeId} {l:List SV} {C:Type} {s:C→SV} {L':C→List Res} (hc:∀args w,(callFunc f args).run P w= .ok (.enter f args) w) (hX:ev E X=some (.raw (.func (.func f) #[] #[]))) (hx:evs E xs=some l) (ho:OkX P f l L s L')
  (hd:Nat.blt d n=true) (k:∀y,Under F0 n ((d,s y)::E) (L' y) (wpList P ops Q rest)):Under F0 n E L (wpList P ops Q (⟨some d,.call ⟨.value X,xs.toArray,tys⟩,ty,pos,aft,none⟩::rest)):=
 Under.exec rfl fun F a w h0 hE hS=>by
  have hv:=Env.evals hE hx
  have h1:=ho F w _ hv hS
  unfold Oper.wp
  simp only[execOp,resolve,hE.raw hX,Deferred.ofValue,invoke,List.map_toArray,Sem.run_bind,Sem.run_pure,Result.andThen_ok,Array.empty_append,Array.append_empty]
  rw[hc]
  exact h1.mono fun e w' ⟨y,G,v,he,hg,hS',hok⟩=>by
   subst he
   exact k y G _ _ (Fz.tr h0 hg) ((hE.mono hg).put hd hok) hS'
theorem OkX.intro {f:FuncId} {fn:Func} {c:Code} {args:List SV} {C:Type} {s:C→SV} {L':C→List Res} (m:Nat) (E0:List (Nat×SV)) (hf:P.funcs[f]? =some fn) (hb:fn.body=some c) (hn:fn.ntmps=m) (hl:Nat.ble args.length m=true) (hE:argE 0 args=E0)
  (k:∀F0,Under F0 m E0 L (c.wp P (bodyPost P fn fun e w'=>∃y G v,e= .returned v∧F0≤G∧St G w' (L' y)∧(s y).ok G v))):OkX P f args L s L':=fun F w vs hv hS=>by
 refine calls_of_wp hf hb ?_
 have hl':=eh hv
 have hle:=Nat.le_of_ble_eq_true hl
 have he:fn.ntmps - vs.toArray.size=m - args.length:=by simp[hn,hl']
 rw[he]
 have h2:args.length+(m - args.length)=m:=by omega
 have hst:=Env.start hv (m - args.length)
 rw[h2,hE] at hst
 exact k F F _ w (Fz.rf F) hst hS
inductive RetV (P:Program) (E:List (Nat×SV)):List ResultVar→List SV→Prop where
 |nil:RetV P E [] []
 |tm {u:Nat} {s:SV} {l:List ResultVar} {ss:List SV} (h:look E u=some s) (r:RetV P E l ss):RetV P E (.tmp u::l) (s::ss)
 |ce {α:Type} {K:Kd α} {u T:Nat} {x:α} {l:List ResultVar} {ss:List SV} (h:look E u=some (.ptr K x)) (hT:KT P T K) (r:RetV P E l ss):RetV P E (.cell u T::l) (.val K x::ss)
def jz:List SV→SV
 |[s]=>s
 |l=> .tup l
def resF (a:Act):ResultVar→Sem Value
 | .tmp t=>pure (a.tmps.getD t undef)
 | .cell b t=>do loadVar t (←asAddr (a.tmps.getD b undef))
theorem RetV.run {F:Fz} {a:Act} {w:World} (hE:Env F a n E) (hS:F.on w):∀{l:List ResultVar} {ss:List SV},RetV P E l ss→∃vs:List Value,(l.mapM (resF a)).run P w= .ok vs w∧SV.oks F vs ss
 |_,_,.nil=>⟨[],by simp,by simp only[SV.oks]⟩
 |_,_,.tm h r=>by
  obtain⟨v,h1,h2⟩:=hE.at_ _ _ h
  obtain⟨vs,h3,h4⟩:=RetV.run hE hS r
  refine⟨v::vs,?_,by simp only[SV.oks];exact⟨h2,h4⟩⟩
  have e:∀u,a.tmps[u]? =some v→(resF a (.tmp u)).run P w= .ok v w:=fun u hu=>by simp[resF,Array.getD_eq_getD_getElem?,hu]
  simp only[List.mapM_cons,Sem.run_bind,Sem.run_pure,e _ h1,Result.andThen_ok,h3]
 |_,_,.ce h hT r=>by
  obtain⟨v,h1,h2⟩:=hE.at_ _ _ h
  obtain⟨vs,h3,h4⟩:=RetV.run hE hS r
  simp only[SV.ok] at h2
  obtain⟨p,rfl,hp⟩:=h2
  obtain⟨u,hu,hk⟩:=mY hT hS hp
  refine⟨u::vs,?_,by simp only[SV.oks,SV.ok];exact⟨hk,h4⟩⟩
  have e:∀u' T,a.tmps[u']? =some (.pointer (some p))→(loadVar T p).run P w= .ok u w→(resF a (.cell u' T)).run P w= .ok u w:=fun u' T hu' hl=>by simp[resF,Array.getD_eq_getD_getElem?,hu',asAddr,hl]
  simp only[List.mapM_cons,Sem.run_bind,Sem.run_pure,e _ _ h1 hu,Result.andThen_ok,h3]
theorem RetV.results {F:Fz} {a:Act} {w:World} {fn:Func} {l:List ResultVar} {ss:List SV} (hr:fn.results=l.toArray) (hE:Env F a n E) (hS:F.on w) (h:RetV P E l ss):∃v,(Go.results fn a.tmps).run P w= .ok v w∧(jz ss).ok F v:=by
 obtain⟨vs,h1,h2⟩:=RetV.run hE hS h
 have hl:=eh h2
 have he:Go.results fn a.tmps=(do let vs←fn.results.mapM (resF a);pure (if h:vs.size=1 then vs[0] else .tuple vs)):=by
  unfold Go.results
  congr 1
 have h3:(fn.results.mapM (resF a)).run P w= .ok vs.toArray w:=by
  rw[hr,List.mapM_toArray,Sem.run_map,h1];rfl
 refine⟨if h:vs.toArray.size=1 then vs.toArray[0] else .tuple vs.toArray,by rw[he];simp only[Sem.run_bind,h3,Result.andThen_ok,Sem.run_pure],?_⟩
 match vs,ss,h2 with
 |[],[],_=>simp only[jz,SV.ok];exact⟨[],by simp,by simp only[SV.oks]⟩
 |[v],[s],h2=>simp only[jz];simp only[SV.oks] at h2;simpa using h2.1
 |v::u::vs,s::t::ss,h2=>simp only[jz,SV.ok];exact⟨v::u::vs,by simp,h2⟩
 |[],_::_,h2=>simp only[SV.oks] at h2
 |_::_,[],h2=>simp only[SV.oks] at h2
 |[_],_::_::_,h2=>simp only[SV.oks] at h2;exact absurd h2.2 (by simp[SV.oks])
 |_::_::_,[_],h2=>simp only[SV.oks] at h2;exact absurd h2.2 (by simp[SV.oks])
theorem Under.rets {fn:Func} {l:List ResultVar} {ss:List SV} {L':List Res} (hr:fn.results=l.toArray) (h:RetV P E l ss) (he:jz ss=s) (hL:L=L'):Under F0 n E L (bodyPost P fn (fun e w'=>∃G v,e= .returned v∧F0≤G∧St G w' L'∧s.ok G v) .ret):=fun F a w h0 hE hS=>by
 subst he;subst hL
 obtain⟨v,h1,h2⟩:=h.results hr hE hS.on
 exact⟨hE.defers,v,h1,F,v,rfl,h0,hS,h2⟩
theorem Under.retsX {fn:Func} {l:List ResultVar} {ss:List SV} {C:Type} {s:C→SV} {L':C→List Res} (y:C) (hr:fn.results=l.toArray) (h:RetV P E l ss) (he:jz ss=s y) (hL:L=L' y):
  Under F0 n E L (bodyPost P fn (fun e w'=>∃y G v,e= .returned v∧F0≤G∧St G w' (L' y)∧(s y).ok G v) .ret):=fun F a w h0 hE hS=>by
 obtain⟨v,h1,h2⟩:=h.results hr hE hS.on
 exact⟨hE.defers,v,h1,y,F,v,rfl,h0,hL▸hS,he▸h2⟩
theorem Under.condT {X:Operand} {x y:Code} (hX:ev E X=some (.raw (.bool true))) (k:Under F0 n E L (x.wp P Q)):Under F0 n E L ((Code.cond X x y).wp P Q):=Under.conde hX (fun _=>k) (fun h=>by cases h)
theorem nS {m d:Nat} {s:SV} {J E:List (Nat×SV)} (hj:iJ J [(d,s)] E=true):∀t v,look ((d,s)::E) t=some v→look ((d,s)::J++E) t=some v:=by
 intro t v h
 rw[aP] at h
 rw[List.cons_append,aP]
 split at h
 · rename_i hk;rw[if_pos hk];exact h
 · rename_i hk
   rw[if_neg hk,fF]
   have:look [(d,s)] t=none:=by rw[aP,if_neg hk];rfl
   rw[iK hj this h];exact h
theorem Under.rfin (m:Nat) {d:Nat} {s s':SV} {E1:List (Nat×SV)} {X:Act→World→Prop} (he:s'=s) (hj:iJ (E1.take m) [(d,s)] (E1.drop m)=true) (k:Under F0 n ((d,s)::E1.drop m) L X):Under F0 n ((d,s')::E1) L X:=by
 subst he
 refine Under.env (fun t v h=>?_) k
 have:=nS (m:=m) hj t v h
 rwa [List.cons_append,List.take_append_drop] at this
end
end Go.Sim
namespace Go.Sim
open Go
section
variable {P:Program} {ops:Array Oper} {Q:Exit→Act→World→Prop} {rest:List Oper} {F0:Fz} {n:Nat} {E:List (Nat×SV)} {L:List Res}
variable {d:Nat} {op:Op} {ty:TypeId} {pos:String} {aft:Array Edge} {s:SV}
theorem OpV.rawc {o:Oper} {v:Value} (h:∀F a,Env F a n E→∀w G,F≤G→St G w L→(execOp a.eval o).run P w= .ok (.value v) w):OpV P n E L o (.raw v):=fun F a hE=>
 ⟨v,by simp only[SV.ok],fun w ⟨G,hg,hS⟩=>by unfold Oper.quietAt;rw[h F a hE w G hg hS];exact⟨rfl,rfl⟩⟩
theorem OpV.ixP {α β:Type} {r:Res} {R:β→Res} {K0:Kd β} {K:Kd α} {b off m:Nat} {x:β} {xs:List α} {up:List α→β} {z:α} {T e:TypeId} {X I:Operand} {q:IntKind} {i:Int} (hb:Blk1 r R b K0 x) (p:At K0 x off (kArr m K) xs up)
  (hi:idx xs i=some z) (hT:P.underlying T=some (.array m e)) (hs:(P.info? e).map (·.size)=some K.n) (hX:ev E X=some (.raw (.pointer (some ⟨b,off,none⟩)))) (hI:ev E I=some (.raw (.int q i))):
  OpV P n E (r::L) ⟨some d,.indexAddr T X I,ty,pos,aft,none⟩ (.raw (.pointer (some ⟨b,off+i.toNat*K.n,none⟩))):=OpV.rawc fun F a hE w G hg hS=>by
 obtain⟨h,hh,hon⟩:=hS.head
 obtain⟨cs,post,e,rfl,hrd,_⟩:=hb.out hh
 obtain⟨_,hm,_⟩:=p.get hrd
 obtain⟨h0,h1,_⟩:=du hi
 simp[execOp,hE.raw hX,hE.raw hI,fD hT hs h0 (by omega) (p:=⟨b,off,none⟩) rfl w]
theorem OpV.ixO {α:Type} {K:Kd α} {T e e':TypeId} {X I:Operand} {v:Value} {xs:List α} {x:α} {q:IntKind} {i:Int} (hx:idx xs i=some x) (hT:P.underlying T=some (.slice e)) (hs:(P.info? e).map (·.size)=some K.n)
   (hX:ev E X=some (.raw v)) (hI:ev E I=some (.raw (.int q i))):OpV P n E (.own K v e' xs::L) ⟨some d,.indexAddr T X I,ty,pos,aft,none⟩ (.raw (.pointer (some ⟨na v,0+i.toNat*K.n,none⟩))):=OpV.rawc fun F a hE w G hg hS=>by
 obtain⟨h0',h1,_⟩:=du hx
 obtain⟨f,hf,_⟩:=hS
 have hv:=hE.raw hX
 rcases hf with⟨rfl,rfl,_⟩|⟨g,cap,cur,rfl,_⟩
 · simp at h1;omega
 · have hr:=fC (P:=P) hT hs (p:=⟨g,0,none⟩) (m:=xs.length) (c:=cap) (q:=q) h0' h1 rfl w
   simp[execOp,hv,hE.raw hI,hr,na]
theorem OpV.lenO {α:Type} {K:Kd α} {v:Value} {e e' t:TypeId} {xs:List α} {X:Operand} (ht:P.underlying t=some (.slice e)) (hX:ev E X=some (.raw v)):
  OpV P n E (.own K v e' xs::L) ⟨some d,.call ⟨.builtin .len,#[X],#[t]⟩,ty,pos,aft,none⟩ (.raw (.int .i64 xs.length)):=OpV.rawc fun F a hE w G hg hS=>by
 obtain⟨f,hf,_⟩:=hS
 have hv:=hE.raw hX
 rcases hf with⟨rfl,rfl,_⟩|⟨g,cap,cur,rfl,_⟩<;>simp[execOp,resolve,invoke,builtin,Builtin.len_,run_underlying ht,hv,goInt]
theorem OpV.ptrNil {b:BinOp} {T u T':TypeId} {X:Operand} {p:Option Addr} (hg:P.underlying T=some (.pointer T')) (hb:b= .eql∨b= .neq) (hX:ev E X=some (.raw (.pointer p))):
   OpV P n E L ⟨some d,.binOp b T X (.const (.pointer none)) u,ty,pos,aft,none⟩ (.raw (.bool (if b= .eql then p.isNone else p.isSome))):=OpV.rawv fun F a hE w=>by
 have h2:a.eval (.const (.pointer none))= .pointer none:=rfl
 have hg':P.underlying T=some (.pointer (P.pointee T)):=by simp[Program.pointee,hg]
 rw[execOp];simp only[hE.raw hX,h2,eqGuard]
 rcases hb with rfl|rfl
 · simp[run_eql_pointer_nil w T p hg']
 · cases p<;>simp[run_neq_pointer_nil w T _ hg']
def CvS (F:Fz) {β γ:Type} (x:β) (x':Value→γ):List (Fld β)→List (Fld γ)→Prop
 |[],[]=>True
 |f::fs,f'::fs'=>(∀v cs,f.K.rd F cs (f.get x)→f'.K.rd F cs (f'.get (x' v)))∧CvS F x x' fs fs'
 |_,_=>False
def CvE (F:Fz) {β γ:Type} (x:β) (x':Value→γ):List (Fld β)→List (Fld γ)→Nat→Prop
 |[],_,_=>False
 |_,[],_=>False
 |f::fs,f'::fs',0=>(∀cs,f.K.rd F cs (f.get x)→∃v:Value,f'.K.rd F cs (f'.get (x' v))∧v.oneCell'=true)∧CvS F x x' fs fs'
 |f::fs,f'::fs',i+1=>(∀v cs,f.K.rd F cs (f.get x)→f'.K.rd F cs (f'.get (x' v)))∧CvE F x x' fs fs' i
theorem CvS.rd {F:Fz} {β γ:Type} {x:β} {x':Value→γ} {v:Value}:∀{fs:List (Fld β)} {fs':List (Fld γ)} {cs:List Value},CvS F x x' fs fs'→rdF F fs cs x→rdF F fs' cs (x' v)
 |[],[],_,_,h=>h
 |f::fs,f'::fs',_,⟨h1,h2⟩,⟨c,d,e,a,b⟩=>⟨c,d,e,h1 v c a,CvS.rd h2 b⟩
 |[],_::_,_,h,_=>h.elim
 |_::_,[],_,h,_=>h.elim
theorem CvE.rd {F:Fz} {β γ:Type} {x:β} {x':Value→γ}:∀{fs:List (Fld β)} {fs':List (Fld γ)} {i:Nat} {cs:List Value},CvE F x x' fs fs' i→rdF F fs cs x→∃v:Value,rdF F fs' cs (x' v)∧v.oneCell'=true
 |[],_,_,_,h,_=>h.elim
 |_::_,[],_,_,h,_=>h.elim
 |f::fs,f'::fs',0,_,⟨h1,h2⟩,⟨c,d,e,a,b⟩=>by
  obtain⟨v,h3,h4⟩:=h1 c a
  exact⟨v,⟨c,d,e,h3,CvS.rd h2 b⟩,h4⟩
 |f::fs,f'::fs',i+1,_,⟨h1,h2⟩,⟨c,d,e,a,b⟩=>by
  obtain⟨v,h3,h4⟩:=CvE.rd h2 b
  exact⟨v,⟨c,d,e,h1 v c a,h3⟩,h4⟩
theorem rdS {s:ByteArray} {x:List Int} (h:s.data.toList.map (fun b=>(b.toNat:Int))=x):rdOf (.raw (.string s)) kStr x:=fun F v hv=>by
 simp only[SV.ok] at hv;subst hv;exact⟨[.string s],⟨s,rfl,h.symm⟩,rfl⟩
theorem gp {F:Fz} {v:Value} {x:List Int} (h:kStr.val F v x):∃s:ByteArray,v= .string s∧x=s.data.toList.map (fun b=>(b.toNat:Int)):=by
 obtain⟨cs,⟨s,rfl,hx⟩,e⟩:=h;exact⟨s,e,hx⟩
theorem lE {a b:ByteArray} (h:a.data.toList.map (fun b=>(b.toNat:Int))=b.data.toList.map (fun b=>(b.toNat:Int))):a=b:=by
 have key:∀l m:List UInt8,l.map (fun b=>(b.toNat:Int))=m.map (fun b=>(b.toNat:Int))→l=m:=by
  intro l;induction l with
  |nil=>intro m h;cases m with
   |nil=>rfl
   |cons _ _=>cases h
  |cons x l ih=>intro m h;cases m with
   |nil=>cases h
   |cons y m=>
    simp only[List.map_cons,List.cons.injEq] at h
    rw[ih m h.2,UInt8.toNat_inj.1 (by omega:x.toNat=y.toNat)]
 have:=key _ _ h
 cases a;cases b;simp only[ByteArray.mk.injEq] at*;exact Array.toList_inj.1 this
theorem OpV.eqS {b:BinOp} {T u:TypeId} {X Y:Operand} {s1 s2:SV} {x y:List Int} (hT:P.underlying T=some .string) (hX:ev E X=some s1) (h1:rdOf s1 kStr x) (hY:ev E Y=some s2) (h2:rdOf s2 kStr y) (hb:b= .eql∨b= .neq):
   OpV P n E L ⟨some d,.binOp b T X Y u,ty,pos,aft,none⟩ (.raw (.bool (if b= .eql then x==y else x != y))):=OpV.rawv fun F a hE w=>by
 obtain⟨s1',e1,rfl⟩:=gp (h1 F _ (hE.eval hX))
 obtain⟨s2',e2,rfl⟩:=gp (h2 F _ (hE.eval hY))
 have hq:((s1'.data.toList.map fun b=>(b.toNat:Int))==(s2'.data.toList.map fun b=>(b.toNat:Int)))=(s1'.toList==s2'.toList):=by
   rw[Bool.eq_iff_iff,ByteArray.toList_eq,ByteArray.toList_eq];simp only[beq_iff_eq];exact⟨fun h=>by rw[lE h],fun h=>by rw[h]⟩
 rcases hb with rfl|rfl
 · simp only[if_true,hq]
   rw[execOp];simp only[e1,e2,eqGuard]
   simp[binOp_string_eql]
 · simp only[reduceCtorEq,if_false,bne,hq]
   rw[execOp];simp only[e1,e2,eqGuard]
   simp[binOp_string_neq]
end
end Go.Sim
namespace Go.Sim
open Go
def dI:List Oper→List SV→List (Nat×SV)→List (Nat×SV)
 |o::l,s::sv,E=>match o.dst with
  |some d=>dI l sv ((d,s)::E)
  |none=>dI l sv E
 |_,_,E=>E
def n6 (R:List (List Nat)) (g:List Nat) (lg:List Oper) (k t:Nat):Bool:=
 (List.range g.length).all fun q=>match lg[q]? with
  |some o=>(match o.dst with
   |some d=> !(Nat.beq d t)||(cond (Nat.blt q k) (memN (g.getD q 0) (R.getD (g.getD k 0) [])) (cond (Nat.beq q k) true (memN (g.getD k 0) (R.getD (g.getD q 0) []))))
   |none=>true)
  |none=>true
def ig (l:List Oper) (D g:List Nat) (p:List (List Nat)):Bool:=
 g.all (fun i=>Nat.blt i l.length)&&g.all (fun i=> !memN i D)&&fI g&&fI ((pick l g).filterMap (·.dst))&&
 (List.range l.length).all (fun j=>memN j D||memN j g||g.all (fun i=>memN i ((d6 l []).getD j [])))&&
 (List.range g.length).all fun k=>match(pick l g)[k]?,p[k]? with
  |some o,some us=> !m6 o.op&&(afters o).all (fun e=>Nat.blt e l.length&&(memN e D||memN e (g.take k)))&&us.all (fun t=>n6 (d6 l []) g (pick l g) k t)
  |_,_=>false
section
variable {P:Program} {ops:Array Oper} {Q:Exit→Act→World→Prop} {rest:List Oper} {F0:Fz} {n:Nat} {E:List (Nat×SV)} {L:List Res}
variable {d:Nat} {op:Op} {ty:TypeId} {pos:String} {aft:Array Edge} {s:SV} {Lf:List Res→List Res}
theorem jU {l:List Oper} {D g:List Nat} {p:List (List Nat)} (h:ig l D g p=true):GB l D g p:=by
 simp only[ig,Bool.and_eq_true,List.all_eq_true] at h
 obtain⟨⟨⟨⟨⟨h1,h2⟩,h3⟩,h4⟩,h5⟩,h6⟩:=h
 have hlt:∀i∈g,i<l.length:=fun i hi=>by simpa[Nat.blt_eq] using h1 i hi
 refine⟨hlt,fun i hi hm=>?_,dM h3,dM h4,fun j hj=>?_,fun k i hk=>?_⟩
 · have:=h2 i hi;rw[aF.2 hm] at this;cases this
 · have:=h5 j (List.mem_range.2 hj)
   simp only[Bool.or_eq_true,List.all_eq_true] at this
   rcases this with(h|h)|h
   · exact .inl (aF.1 h)
   · exact .inr (.inl (aF.1 h))
   · exact .inr (.inr fun i hi=>by have:=aF.1 (h i hi);simpa[List.getD] using this)
 · have hkl:k<g.length:=(List.getElem?_eq_some_iff.1 hk).1
   have hil:i<l.length:=hlt i (List.mem_of_getElem? hk)
   have hpk:=dX hlt k i hk
   have ho:l[i]? =some l[i]:=by simp[hil]
   have h7:=h6 k (List.mem_range.2 hkl)
   rw[hpk,ho] at h7
   cases hp:p[k]? with
   |none=>rw[hp] at h7;cases h7
   | some us =>
     rw[hp] at h7
     simp only[Bool.and_eq_true,List.all_eq_true,Bool.not_eq_true'] at h7
     refine⟨l[i],us,ho,by rw[hpk,ho],rfl,h7.1.1,fun e he=>?_,fun t ht q j o' hq hj hd=>?_⟩
     · have:=h7.1.2 e he
       simp only[Bool.and_eq_true,Bool.or_eq_true,Nat.blt_eq] at this
       exact⟨this.1,this.2.imp aF.1 aF.1⟩
     · have h8:=h7.2 t ht
       simp only[n6,List.all_eq_true] at h8
       have hql:q<g.length:=(List.getElem?_eq_some_iff.1 hq).1
       have h9:=h8 q (List.mem_range.2 hql)
       rw[dX hlt q j hq,hj] at h9
       have gk:g.getD k 0=i:=by simp[List.getD,hk]
       have gq:g.getD q 0=j:=by simp[List.getD,hq]
       simp only[hd,Nat.beq_refl,Bool.not_true,Bool.false_or,gk,gq] at h9
       constructor
       · intro hlt2
         have:Nat.blt q k=true:=by simpa[Nat.blt_eq] using hlt2
         rw[this,cond_true] at h9
         simpa[List.getD] using aF.1 h9
       · intro hlt2
         have hb:Nat.blt q k=false:=by
          cases hb:Nat.blt q k with
          |false=>rfl
          | true => have : q < k := by simpa [Nat.blt_eq] using hb
                    omega
         have hne:Nat.beq q k=false:=by
          cases hb:Nat.beq q k with
          |false=>rfl
          |true=>have:=Nat.eq_of_beq_eq_true hb;omega
         rw[hb,cond_false,hne,cond_false] at h9
         simpa[List.getD] using aF.1 h9
theorem eP {t:Nat}:∀{l:List Oper} {sv:List SV} {E:List (Nat×SV)},(∀o∈l,o.dst≠some t)→look (dI l sv E) t=look E t
 |[],sv,E,_=>by simp[dI]
 |o::l,[],E,_=>by simp[dI]
 |o::l,s::sv,E,h=>by
  have ih:=fun E'=>eP (t:=t) (l:=l) (sv:=sv) (E:=E') (fun q hq=>h q (by simp[hq]))
  have ho:=h o (by simp)
  rw[dI]
  cases hd:o.dst with
  |none=>exact ih E
  |some d=>
   simp only[]
   rw[ih,aP,if_neg]
   intro e;rw[hd] at ho;exact ho (by rw[e])
theorem iU {t:Nat} {s:SV}:∀{l:List Oper} {sv:List SV} {E:List (Nat×SV)} {j:Nat} {o:Oper},(l.filterMap (·.dst)).Nodup→l[j]? =some o→o.dst=some t→sv[j]? =some s→look (dI l sv E) t=some s
 |[],sv,E,j,o,_,hj,_,_=>by simp at hj
 |q::l,[],E,j,o,_,_,_,hs=>by simp at hs
 |q::l,s0::sv,E,j,o,hn,hj,ht,hs=>by
  cases j with
  |zero=>
   simp at hj hs;subst hj;subst hs
   rw[List.filterMap_cons_some ht,List.nodup_cons] at hn
   rw[dI,ht]
   simp only[]
   rw[eP (fun x hx e=>hn.1 (List.mem_filterMap.2 ⟨x,hx,e⟩)),aP];simp
  |succ j=>
   have hn2:(l.filterMap (·.dst)).Nodup:=hn.sublist ((List.sublist_cons_self q l).filterMap _)
   rw[dI]
   cases hd:q.dst<;>exact iU hn2 (by simpa using hj) ht (by simpa using hs)
theorem fm (hLf:∀r T,(r::Lf T).Perm (Lf (r::T))):∀(X:List Res) (T:List Res),(X++Lf T).Perm (Lf (X++T))
 |[],T=>List.Perm.refl _
 |r::X,T=>(List.Perm.cons r (fm hLf X T)).trans (hLf r _)
theorem om (hLf:∀r T,(r::Lf T).Perm (Lf (r::T))) {X Y:List Res} (h:X.Perm Y) (T:List Res):(Lf (X++T)).Perm (Lf (Y++T)):=(fm hLf X T).symm.trans ((h.append_right _).trans (fm hLf Y T))
def vblk:Value→Nat
 | .pointer (some p)=>p.block
 |_=>0
theorem lf0:∀r T,(r::(fun T:List Res=>T) T).Perm ((fun T:List Res=>T) (r::T)):=fun _ _=>List.Perm.refl _
theorem lf1 {r1:Res}:∀r T,(r::(fun T:List Res=>r1::T) T).Perm ((fun T:List Res=>r1::T) (r::T)):=fun _ _=>List.Perm.swap _ _ _
end
end Go.Sim
namespace Go.Sim
open Go
section
variable {P:Program} {ops:Array Oper} {Q:Exit→Act→World→Prop} {rest:List Oper} {F0:Fz} {n:Nat} {E:List (Nat×SV)} {L:List Res}
variable {d:Nat} {op:Op} {ty:TypeId} {pos:String} {aft:Array Edge} {s:SV}
theorem EqK.up {α:Type} [BEq α] {T:TypeId} {K:Kd α} {dep D:Nat} (h:EqK P T K dep) (hle:Nat.ble dep D=true):EqK P T K D:=⟨fun{d F v u x y w} h1 h2=>by
 have:=Nat.le_of_ble_eq_true hle
 have e:d+D=(d+(D - dep))+dep:=by omega
 rw[e];exact h.eq h1 h2⟩
theorem EqK.str {T:TypeId} (hT:P.underlying T=some .string):EqK P T kStr 1:=⟨fun{d F v u x y w} h1 h2=>by
 obtain⟨s1,e1,rfl⟩:=gp h1
 obtain⟨s2,e2,rfl⟩:=gp h2
 subst e1;subst e2
 have hq:((s1.data.toList.map fun b=>(b.toNat:Int))==(s2.data.toList.map fun b=>(b.toNat:Int)))=(s1.toList==s2.toList):=by
  rw[Bool.eq_iff_iff,ByteArray.toList_eq,ByteArray.toList_eq];simp only[beq_iff_eq];exact⟨fun h=>by rw[lE h],fun h=>by rw[h]⟩
 rw[hq];exact run_equalIn_string w d T s1 s2 hT⟩
def EqFs (P:Program) (D:Nat) {β:Type}:List Field→List (Fld β)→Nat→(β→β→Bool)→Prop
 |[],[],_,q=>∀x y,q x y=true
 | f :: ff, k :: fs, o, q => f.name ≠ "_" ∧ f.offset = o ∧ KT P f.type k.K ∧ ∃ (i : BEq k.α), EqK P f.type k.K D ∧ ∃ q', (∀ x y, q x y = (k.get x == k.get y && q' x y)) ∧ EqFs P D ff fs (o + k.K.n) q'
 |_,_,_,_=>False
theorem ky {β:Type} {D d:Nat} {F:Fz} {w:World} {cs ds:List Value} {x y:β}:∀{ff:List Field} {fs:List (Fld β)} {o:Nat} {q:β→β→Bool},EqFs P D ff fs o q→o+nF fs=cs.length→o+nF fs=ds.length→rdF F fs (cs.drop o) x→rdF F fs (ds.drop o) y→
  (Op.eqFields (d+D) cs.toArray ds.toArray ff).run P w= .ok (q x y) w
 |[],[],o,q,h,_,_,_,_=>by simp[Op.eqFields,h x y]
 |f::ff,k::fs,o,q,⟨h1,h2,h3,i,h4,q',h5,h6⟩,l1,l2,⟨c1,d1,e1,a1,b1⟩,⟨c2,d2,e2,a2,b2⟩=>by
  subst h2
  simp only[nF] at l1 l2
  have p1:=fH h3 cs.toArray f.offset (by simp;omega) w
  have p2:=fH h3 ds.toArray f.offset (by simp;omega) w
  have t1:(cs.drop f.offset).take k.K.n=c1:=by rw[e1,←k.K.len a1,List.take_left]
  have t2:(ds.drop f.offset).take k.K.n=c2:=by rw[e2,←k.K.len a2,List.take_left]
  simp only[t1,t2] at p1 p2
  have hq:=h4.eq (d:=d) (w:=w) ⟨c1,a1,rfl⟩ ⟨c2,a2,rfl⟩
  have e3:cs.drop (f.offset+k.K.n)=d1:=by rw[←List.drop_drop,e1,←k.K.len a1,List.drop_left]
  have e4:ds.drop (f.offset+k.K.n)=d2:=by rw[←List.drop_drop,e2,←k.K.len a2,List.drop_left]
  have ih:=ky (cs:=cs) (ds:=ds) h6 (by omega) (by omega) (by rw[e3];exact b1) (by rw[e4];exact b2) (d:=d) (w:=w)
  rw[h5]
  simp only[Op.eqFields,if_pos h1,Sem.run_bind,p1,p2,hq,Result.andThen_ok]
  cases hxy:(k.get x==k.get y) with
  |false=>simp
  |true=>simp only[Bool.not_true,Bool.false_eq_true,if_false,Bool.true_and];exact ih
 |[],_::_,_,_,h,_,_,_,_=>h.elim
 |_::_,[],_,_,h,_,_,_,_=>h.elim
theorem EqK.st {β:Type} [BEq β] {T:TypeId} {fs:List (Fld β)} {ff:Array Field} {D:Nat} (hT:P.underlying T=some (.struct ff)) (hp:P.stoodInHeld T=false) (h:EqFs P D ff.toList fs 0 (fun x y=>x==y)):EqK P T (kSt fs) (D+1):=⟨fun{d F v u x y w} h1 h2=>by
 obtain⟨e1,r1⟩:=ei h1 rfl
 obtain⟨e2,r2⟩:=ei h2 rfl
 have hf:P.fieldsOf T=ff:=by simp[Program.fieldsOf,hT]
 rw[e1,e2,show d+(D+1)=(d+D)+1 by omega,run_equalIn_struct w (d+D) T _ _ (by rw[hf];exact hT) hp,hf]
 exact ky h (by rw[Nat.zero_add];exact((kSt fs).len r1).symm) (by rw[Nat.zero_add];exact((kSt fs).len r2).symm) (by rw[List.drop_zero];exact r1) (by rw[List.drop_zero];exact r2)⟩
inductive CvL:List SV→List SV→Prop where
 |nil:CvL [] []
 |sm {x:SV} {l l':List SV} (r:CvL l l'):CvL (x::l) (x::l')
 |rd {α:Type} {K:Kd α} {x:α} {s0:SV} {l l':List SV} (h:rdOf s0 K x) (r:CvL l l'):CvL (s0::l) (.val K x::l')
theorem CvL.oks {F:Fz}:∀{l l':List SV} {vs:List Value},CvL l l'→SV.oks F vs l→SV.oks F vs l'
 |_,_,[],.nil,h=>h
 |_,_,_::_,.nil,h=>by simp only[SV.oks] at h
 |_,_,[],.sm r,h=>by simp only[SV.oks] at h
 |_,_,_::_,.sm r,h=>by simp only[SV.oks] at h⊢;exact⟨h.1,CvL.oks r h.2⟩
 |_,_,[],.rd q r,h=>by simp only[SV.oks] at h
 |_,_,_::_,.rd q r,h=>by simp only[SV.oks] at h⊢;exact⟨by simp only[SV.ok];exact q _ _ h.1,CvL.oks r h.2⟩
theorem Ok.cv {f:FuncId} {l l':List SV} {L L':List Res} (c:CvL l l') (h:Ok P f l' L s L'):Ok P f l L s L':=fun F w vs hv hS=>h F w vs (c.oks hv) hS
end
end Go.Sim
namespace Go.Sim
open Go
section
variable {P:Program} {ops:Array Oper} {Q:Exit→Act→World→Prop} {rest:List Oper} {F0:Fz} {n:Nat} {E:List (Nat×SV)} {L:List Res}
variable {d:Nat} {op:Op} {ty:TypeId} {pos:String} {aft:Array Edge} {s:SV}
def strB (xs:List Int):List Int:=xs.map fun n=>((UInt8.ofNat n.toNat).toNat:Int)
theorem jA:∀(xs:List Int) (s:ByteArray),((xs.foldl (fun r n=>r.push (UInt8.ofNat n.toNat)) s).data.toList.map fun b=>(b.toNat:Int))=(s.data.toList.map fun b=>(b.toNat:Int))++strB xs
 |[],s=>by simp[strB]
 |x::xs,s=>by
  simp only[List.foldl_cons]
  rw[jA xs]
  simp[strB,ByteArray.push]
theorem nT {F:Fz} {w:World} {v:Value} {xs:List Int} (hv:(kSl (kInt .u8)).val F v xs) (hw:∀b o,F.blk b=some o→w.heap[b]? =some o):
  (Conv.bytesToString v).run P w= .ok (.string (xs.foldl (fun r n=>r.push (UInt8.ofNat n.toNat)) ByteArray.empty)) w:=by
 obtain⟨cs,⟨a,cap,rfl,hcap,r⟩,rfl⟩:=hv
 cases a with
 |none=>
  have:xs=[]:=by
    rcases r with r|⟨p,_,_,_,h,_⟩
    · exact List.eq_nil_of_length_eq_zero r
    · cases h
  subst this
  simp[pack,kSl,Conv.bytesToString]
 |some p=>
  refine run_bytesToString w p xs.length cap xs ?_
  have:=run_loadCells_list (P:=P) w p (xs.map (Value.int .u8)) fun j v hj=>?_
  · simpa using this
  · rw[List.getElem?_map] at hj
    obtain⟨x,hx,rfl⟩:=Option.map_eq_some_iff.1 hj
    rcases r with r|⟨q,c,e,fr,hq,hp,hb,hle,hrd⟩
    · have:=List.eq_nil_of_length_eq_zero r;subst this;simp at hx
    · cases hq
      obtain⟨b,o,sp⟩:=p;simp only at hp hb hle;subst hp
      rw[Addr.add_mid,cell_of_row w b (o+j) c e fr (hw _ _ hb)]
      have h1:=kv hrd hx
      have hjl:j<xs.length*(kInt .u8).n:=by have:=(List.getElem?_eq_some_iff.1 hx).1;simp[kInt];omega
      rw[List.getElem?_take_of_lt hjl,List.getElem?_drop] at h1
      simpa using h1
theorem OpV.b2s {T U e:TypeId} {X:Operand} {xs:List Int} (hT:P.underlying T=some (.slice e)) (he:P.underlying e=some (.int .u8)) (hU:P.underlying U=some .string) (hX:ev E X=some s) (hr:rdOf s (kSl (kInt .u8)) xs):
  OpV P n E L ⟨some d,.convert T U X,ty,pos,aft,none⟩ (.val kStr (strB xs)):=fun F a hE=>by
 have hv:=hr F _ (hE.eval hX)
 refine⟨.string (xs.foldl (fun r n=>r.push (UInt8.ofNat n.toNat)) ByteArray.empty),by simp only[SV.ok];exact⟨[_],⟨_,rfl,by rw[jA];rfl⟩,rfl⟩,fun w ⟨G,hg,hS⟩=>?_⟩
 have hrun:=nT (P:=P) (hv.mono hg) hS.on.blk
 obtain⟨cs,⟨ad,cap,rfl,_⟩,hval⟩:=hv
 have hval:a.eval X= .slice ad xs.length cap:=hval
 unfold Oper.quietAt
 rw[hval] at hrun
 have hc:(convert T U (.slice ad xs.length cap)).run P w= .ok (.string (xs.foldl (fun r n=>r.push (UInt8.ofNat n.toNat)) ByteArray.empty)) w:=by
  rw[run_convert_bytes_string w T U e ad _ cap hT he hU,hrun]
 simp[execOp,hval,hc,Oper.quietUpon]
theorem nb {w:World} {g:Nat} {c:Array Value} {e:TypeId} (hb:w.heap[g]? =some (.cells c e (0,0))) (o:Nat):∃w',(markStringish ⟨g,o,none⟩).run P w= .ok () w'∧w'.heap[g]? =some (.cells c e (c.size,c.size+1))∧Chg w w' (Frag.one g (.cells c e (0,0))):=by
 have hlt:=dJ hb
 have hsh:w.shape? g=some (e,c.size):=by simp[World.shape?,hb]
 refine⟨w.freeze ⟨g,c.size,none⟩ 1,by simp[markStringish,hsh],?_,⟨rfl,rfl,rfl,fun k hk hn=>?_⟩⟩
 · simp[World.freeze,Array.getElem?_modify,hb]
 · have hne:g≠k:=fun h=>by subst h;rw[Frag.one_at] at hn;cases hn
   simp[World.freeze,Array.getElem?_modify,hne]
theorem Under.cvS {α:Type} {K:Kd α} {v:Value} {T e e':TypeId} {X:Operand} {xs:List α} (hT:P.underlying T=some (.slice e)) (he:P.underlying e=some (.int .u8)) (h0:0<xs.length) (hX:ev E X=some (.raw v)) (hd:Nat.blt d n=true)
  (k:Under F0 n ((d,.val (kSl K) xs)::E) L (wpList P ops Q rest)):Under F0 n E (.own K v e' xs::L) (wpList P ops Q (⟨some d,.convert T T X,ty,pos,aft,none⟩::rest)):=
 Under.exec rfl fun F a w hF0 hE hS=>by
  have hv:=hE.raw hX
  obtain⟨h,hh,hon⟩:=hS.head
  rcases hh with⟨rfl,rfl,_⟩|⟨g,cap,cur,rfl,rfl,h3,h4,h5,h6⟩
  · simp at h0
  · have hb:=hon g _ (Frag.one_at _ _)
    obtain⟨w',hrun,hb',hc⟩:=nb (P:=P) hb 0
    let o':Obj:= .cells cur e' (cur.size,cur.size+1)
    have hap:F.blk g=none:=by
      obtain⟨h2,hh2,hap2,hs2⟩:=hS
      have h2g:h2 g≠none:=by
        rcases hh2 with⟨q,_⟩|⟨g',cap',cur',q,rfl,_⟩
        · cases q
        · simp only[Value.slice.injEq,Option.some.injEq,Addr.mk.injEq,and_true,true_and] at q
          obtain⟨rfl,_⟩:=q
          rw[Frag.one_at];simp
      exact hap2 g h2g
    have hS1:St F w' (.any (fun q=>q=Frag.one g o')::L):=hS.turn fun h2 hh2 hon2=>by
      rcases hh2 with⟨q,_⟩|⟨g',cap',cur',q,rfl,_⟩
      · cases q
      · simp only[Value.slice.injEq,Option.some.injEq,Addr.mk.injEq,and_true,true_and] at q
        obtain⟨rfl,rfl⟩:=q
        have hb2:=hon2 g _ (Frag.one_at _ _)
        rw[hb] at hb2
        have hq:=Option.some.inj hb2
        simp only[Obj.cells.injEq,and_true,true_and] at hq
        subst hq
        refine⟨Frag.one g o',rfl,hc,fun k hk=> .inl ?_,fun k o eo=>?_⟩
        · by_cases hkb:k=g
          · subst hkb;rw[Frag.one_at];simp
          · exact absurd (Frag.one_ne _ hkb) hk
        · obtain⟨rfl,rfl⟩:=Frag.one_some eo;exact hb'
    obtain⟨f,hf,hap1,hle,hS2⟩:=hS1.freeze
    have hf:f=Frag.one g o':=hf
    subst hf
    have hconv:(convert T T (.slice (some ⟨g,0,none⟩) xs.length cap)).run P w= .ok (.slice (some ⟨g,0,none⟩) xs.length cap) w':=by
      simp[convert,run_underlying hT,run_underlying he,hrun]
    unfold Oper.wp
    simp only[execOp,hv,Sem.run_bind,hconv,Result.andThen_ok,Sem.run_pure,Oper.upon]
    refine k _ _ _ (Fz.tr hF0 hle) ((hE.mono hle).put hd ?_) hS2
    simp only[SV.ok]
    refine⟨[.slice (some ⟨g,0,none⟩) xs.length cap],⟨_,cap,rfl,h3,.inr ⟨⟨g,0,none⟩,cur,e',(cur.size,cur.size+1),rfl,rfl,?_,?_,by simpa using h6.mono hle⟩⟩,rfl⟩
    · simp only[Fz.add,hap];exact Frag.one_at _ _
    · have:xs.length*K.n≤cap*K.n:=Nat.mul_le_mul_right _ h3
      simp only;omega
end
end Go.Sim
namespace Go.Sim
open Go
theorem gJ {P:Program} (m:Machine) (w:World) (t:Trace) (h:aloneAtReturn P m w t):leavingAtReturn P m w t:=⟨h.2.1,onlyLeaving_of_quiet h.1,h.2.2⟩
def unleave (c:OpenClaim):OpenClaim:={c with leaving:=false}
theorem jb {p:Pinned} {s:OpenSpec} {c:OpenClaim} (hag:c.again=false) (hst:c.start= .entering) (hs:c.stops=[]) (hl:c.leaving=true) (h:(unleave c).holds p s):c.holds p s:=by
 obtain⟨h1,h2,h3,h4,h5,h6,h7,h8,f,fn,a1,a2,a3,a4,a5,a6,a7,a8,a9,b1,b2,b3,b4,b5,b6,b7,b8,b9,b10,b11,b12,L,c1,c2⟩:=h
 refine⟨?_,h2,h3,h4,h5,h6,h7,h8,f,fn,a1,a2,a3,a4,a5,a6,a7,a8,a9,b1,b2,b3,b4,b5,b6,b7,b8,b9,b10,b11,b12,L,c1,fun os w1 w2 H enc inj=>?_⟩
 · have:(unleave c).wf s=c.wf s:=by
    cases c;simp only at hag;subst hag;rfl
   rw[←this];exact h1
 · have h9:=c2 os w1 w2 H enc inj
   unfold OpenClaim.form at h9⊢
   have e1:(unleave c).start= .entering:=hst
   have e2:(unleave c).stops=[]:=hs
   rw[e1,e2] at h9
   rw[hst,hs]
   intro F
   refine ReturnsInOpen.mono (fun m w t h=>?_) (fun _ h=>h) (h9 F)
   have h:(unleave c).atReturn p.checked.prog m w t:=h
   unfold OpenClaim.atReturn at h⊢
   rw[hl]
   exact gJ m w t h
end Go.Sim
namespace Go.Sim
open Go
section
variable {P:Program} {ops:Array Oper} {Q:Exit→Act→World→Prop} {rest:List Oper} {F0:Fz} {n:Nat} {E:List (Nat×SV)} {L:List Res}
variable {d:Nat} {op:Op} {ty:TypeId} {pos:String} {aft:Array Edge} {s:SV}
end
end Go.Sim
namespace Go.Sim
open Go
def Free {α:Type} (K:Kd α):Prop:=∀F G cs x,K.rd F cs x→K.rd G cs x
theorem iV {α:Type} {K:Kd α} (hK:Free K) {F G:Fz}:∀{xs:List α} {cs:List Value},ay K F cs xs→ay K G cs xs
 |[],_,h=>h
 |x::xs,cs,⟨c,d,e,h,r⟩=>⟨c,d,e,hK _ _ _ _ h,iV hK r⟩
theorem Free.int {k:IntKind}:Free (kInt k):=fun _ _ _ _ h=>h
theorem Free.raw:Free kRaw:=fun _ _ _ _ h=>h
theorem Free.arr {α:Type} {K:Kd α} {m:Nat} (h:Free K):Free (kArr m K):=fun _ _ _ _ ⟨a,b⟩=>⟨a,iV h b⟩
section
variable {β γ τ:Type} (KR:Kd γ) (KT:Kd τ) (mk:β→Value→γ) (tg:β→List τ) (TE TT:TypeId)
end
section
variable {P:Program} {ops:Array Oper} {Q:Exit→Act→World→Prop} {rest:List Oper} {F0:Fz} {n:Nat} {E:List (Nat×SV)} {L:List Res}
variable {d:Nat} {op:Op} {ty:TypeId} {pos:String} {aft:Array Edge} {s:SV}
variable {β γ τ:Type} {KR:Kd γ} {KT:Kd τ} {mk:β→Value→γ} {tg:β→List τ} {TE TT:TypeId} {v:Value} {xs:List β}
end
end Go.Sim
namespace Go.Sim
open Go
section
variable {P:Program} {ops:Array Oper} {Q:Exit→Act→World→Prop} {rest:List Oper} {F0:Fz} {n:Nat} {E:List (Nat×SV)} {L:List Res}
variable {d:Nat} {op:Op} {ty:TypeId} {pos:String} {aft:Array Edge} {s:SV}
end
end Go.Sim
namespace Go.Sim
open Go
structure Tk where
 deps:List Nat
 res:(Nat→Value)→Res
 ok:∀bs bs':Nat→Value,(∀k∈deps,bs k=bs' k)→res bs=res bs'
def tk0 (r:Res):Tk:=⟨[],fun _=>r,fun _ _ _=>rfl⟩
def tk1 (k:Nat) (r:Value→Res):Tk:=⟨[k],fun bs=>r (bs k),fun _ _ h=>by rw[h k (by simp)]⟩
structure Sk where
 deps:List Nat
 sv:(Nat→Value)→SV
 ok:∀bs bs':Nat→Value,(∀k∈deps,bs k=bs' k)→sv bs=sv bs'
def sk0 (r:SV):Sk:=⟨[],fun _=>r,fun _ _ _=>rfl⟩
def sk1 (k:Nat) (r:Value→SV):Sk:=⟨[k],fun bs=>r (bs k),fun _ _ h=>by rw[h k (by simp)]⟩
structure It2 where
 val:Sk
 used:List Nat
 outs:List (Nat×Tk)
 rds:List Nat:=[]
structure Tok where
 id:Nat
 prod:Option Nat
 tk:Tk
def tabF:List It2→Nat→List Tok
 |[],_=>[]
 |it::r,j=>it.outs.map (fun x=>⟨x.1,some j,x.2⟩)++tabF r (j+1)
def tabT (ini:List (Nat×Res)) (its:List It2):List Tok:=ini.map (fun x=>⟨x.1,none,tk0 x.2⟩)++tabF its 0
def da:List Tok→Nat→Option Tok
 |[],_=>none
 |t::r,i=>cond (Nat.beq t.id i) (some t) (da r i)
def preT (tab:List Tok):List Nat→(Nat→Value)→List Res
 |[],_=>[]
 |i::r,bs=>match da tab i with
  |some t=>t.tk.res bs::preT tab r bs
  |none=>preT tab r bs
def d7 (tab:List Tok):List Nat→(Nat→Value)→List (List Res)
 |[],_=>[[]]
 |[i],bs=>[match da tab i with|some t=>[t.tk.res bs]|none=>[]]
 |i::r,bs=>(match da tab i with|some t=>[t.tk.res bs]|none=>[])::d7 tab r bs
def iW:List It2→Nat→Nat→Option Nat
 |[],_,_=>none
 |it::r,j,i=>cond (memN i it.used) (some j) (iW r (j+1) i)
def d8 (its:List It2):List Nat:=its.flatMap (·.used)
def finT:List Tok→List Nat→(Nat→Value)→List Res
 |[],_,_=>[]
 |t::r,us,bs=>cond (memN t.id us) (finT r us bs) (t.tk.res bs::finT r us bs)
def upd (bs:Nat→Value) (k:Nat) (v:Value):Nat→Value:=fun q=>cond (Nat.beq q k) v (bs q)
theorem nc (bs:Nat→Value) {k q:Nat} (v:Value) (h:q≠k):upd bs k v q=bs q:=by
 unfold upd
 cases hb:Nat.beq q k with
 |false=>rfl
 |true=>exact absurd (Nat.eq_of_beq_eq_true hb) h
def befB (l:List Oper) (g:List Nat) (k j:Nat):Bool:=Nat.blt k g.length&&memN (g.getD k 0) ((d6 l []).getD (g.getD j 0) [])
def gL (l:List Oper) (g:List Nat) (tab:List Tok) (its:List It2) (us:List Nat) (k:Nat):Bool→Option Nat→List Nat→Bool
 |_,prev,[]=>match prev with
  |some c=>befB l g k c
  |none=>true
 |first,prev,i::r=>match da tab i with
  |some t=>(cond first (match t.prod with|some q=>befB l g q k|none=>true) (match t.prod,prev with|some q,some c=>Nat.beq q c|_,_=>false))&& !memN i us&&gL l g tab its us k false (iW its 0 i) r
  |none=>false
def itB (l:List Oper) (g:List Nat) (tab:List Tok) (it:It2) (j:Nat):Bool:=
 it.used.all (fun i=>match da tab i with
  |some t=>(match t.prod with
   |some q=>befB l g q j
   |none=>true)
  |none=>false)&&
 it.outs.all (fun x=>x.2.deps.all fun k=>Nat.beq k j||befB l g k j)&&it.val.deps.all (fun k=>Nat.beq k j||befB l g k j)
def iX (l:List Oper) (g:List Nat) (tab:List Tok) (full:List It2):List It2→Nat→Bool
 |[],_=>true
 |it::r,j=>itB l g tab it j&&(match it.rds with|[]=>true|rs=>gL l g tab full it.used j true none rs)&&iX l g tab full r (j+1)
def tokB (l:List Oper) (g:List Nat) (ini:List (Nat×Res)) (its:List It2):Bool:=
 fI ((tabT ini its).map (·.id))&&fI (d8 its)&&iX l g (tabT ini its) its its 0
theorem fZ {l:List Oper} {g:List Nat} {tab:List Tok} {full:List It2}:∀{its:List It2} {j k:Nat} {it:It2},iX l g tab full its j=true→its[k]? =some it→itB l g tab it (j+k)=true∧(it.rds=[]∨gL l g tab full it.used (j+k) true none it.rds=true)
 |[],_,_,_,_,h=>by simp at h
 |it0::r,j,0,it,h,e=>by
  simp at e;subst e
  simp only[iX,Bool.and_eq_true] at h
  refine⟨h.1.1,?_⟩
  have h2:=h.1.2
  cases hr:it0.rds with
  |nil=>exact .inl rfl
  |cons x xs=>rw[hr] at h2;exact .inr h2
 |it0::r,j,k+1,it,h,e=>by
  simp only[iX,Bool.and_eq_true] at h
  have:=fZ (j:=j+1) (k:=k) h.2 (by simpa using e)
  rw[show j+(k+1)=j+1+k by omega];exact this
theorem iY {i:Nat}:∀{its:List It2} {j:Nat},iW its j i=none→∀(q:Nat) (it:It2),its[q]? =some it→i∉it.used
 |[],_,_,q,it,h=>by simp at h
 |it0::r,j,h,q,it,hq=>by
  rw[iW] at h
  cases hm:memN i it0.used with
  |true=>rw[hm] at h;cases h
  |false=>
   rw[hm,cond_false] at h
   cases q with
   |zero=>simp at hq;subst hq;exact fun hi=>by rw[aF.2 hi] at hm;cases hm
   |succ q=>exact iY h q it (by simpa using hq)
theorem iZ {i c:Nat}:∀{its:List It2} {j:Nat},iW its j i=some c→∃q it,c=j+q∧its[q]? =some it∧i∈it.used
 |[],_,h=>by cases h
 |it0::r,j,h=>by
  rw[iW] at h
  cases hm:memN i it0.used with
  |true=>rw[hm,cond_true] at h;cases h;exact⟨0,it0,by omega,by simp,aF.1 hm⟩
  |false=>
   rw[hm,cond_false] at h
   obtain⟨q,it,h1,h2,h3⟩:=iZ h
   exact⟨q+1,it,by omega,by simpa using h2,h3⟩
theorem f4 {i:Nat} {t:Tok}:∀{tab:List Tok},da tab i=some t→t∈tab∧t.id=i
 |[],h=>by cases h
 |u::r,h=>by
  rw[da] at h
  cases hb:Nat.beq u.id i with
  |true=>rw[hb,cond_true] at h;cases h;exact⟨by simp,Nat.eq_of_beq_eq_true hb⟩
  |false=>rw[hb,cond_false] at h;have:=f4 h;exact⟨by simp[this.1],this.2⟩
theorem gr {tab:List Tok} (hn:(tab.map (·.id)).Nodup) {t:Tok} (h:t∈tab):da tab t.id=some t:=by
 induction tab with
 |nil=>cases h
 |cons u r ih=>
  rw[da]
  rcases List.mem_cons.1 h with rfl|h
  · rw[Nat.beq_refl];rfl
  · have hne:u.id≠t.id:=fun e=>by
     simp only[List.map_cons,List.nodup_cons,List.mem_map] at hn
     exact hn.1 ⟨t,h,e.symm⟩
    have:Nat.beq u.id t.id=false:=by
     cases hb:Nat.beq u.id t.id with
     |false=>rfl
     |true=>exact absurd (Nat.eq_of_beq_eq_true hb) hne
    rw[this,cond_false]
    exact ih (List.nodup_cons.1 (by simpa using hn)).2 h
theorem oo {tab:List Tok} (hn:(tab.map (·.id)).Nodup) {t u:Tok} (ht:t∈tab) (hu:u∈tab) (e:t.id=u.id):t=u:=by
 have h1:=gr hn ht
 have h2:=gr hn hu
 rw[e,h2] at h1;exact(Option.some.inj h1).symm
theorem e6 {t:Tok}:∀{its:List It2} {j:Nat},t∈tabF its j↔∃k it x,its[k]? =some it∧x∈it.outs∧t=⟨x.1,some (j+k),x.2⟩
 |[],j=>by simp[tabF]
 |it::r,j=>by
  simp only[tabF,List.mem_append,List.mem_map,e6 (its:=r) (j:=j+1)]
  constructor
  · rintro(⟨x,hx,rfl⟩|⟨k,it',x,h1,h2,rfl⟩)
    · exact⟨0,it,x,by simp,hx,rfl⟩
    · exact⟨k+1,it',x,by simpa using h1,h2,by rw[show j+(k+1)=j+1+k by omega]⟩
  · rintro⟨k,it',x,h1,h2,rfl⟩
    cases k with
    |zero=>simp at h1;subst h1;exact .inl ⟨x,h2,rfl⟩
    |succ k=>exact .inr ⟨k,it',x,by simpa using h1,h2,by rw[show j+(k+1)=j+1+k by omega]⟩
theorem kz {us:List Nat} {bs:Nat→Value}:∀{tab:List Tok},finT tab us bs=(tab.filter (fun t=> !memN t.id us)).map (fun t=>t.tk.res bs)
 |[]=>rfl
 |t::r=>by
  rw[finT,List.filter_cons]
  cases memN t.id us<;>simp[kz (tab:=r)]
theorem kF {tab:List Tok} {bs:Nat→Value}:∀{us:List Nat},preT tab us bs=(us.filterMap (da tab)).map (fun t=>t.tk.res bs)
 |[]=>rfl
 |i::r=>by
  rw[preT,List.filterMap_cons]
  cases da tab i<;>simp[kF (us:=r)]
theorem fo {its:List It2} {k i:Nat} {it:It2} (h:its[k]? =some it) (hi:i∈it.used):i∈d8 its:=List.mem_flatMap.2 ⟨it,List.mem_of_getElem? h,hi⟩
theorem gO:∀{its:List It2} {j k i:Nat} {it it':It2},(d8 its).Nodup→its[j]? =some it→its[k]? =some it'→i∈it.used→i∈it'.used→j=k
 |[],_,_,_,_,_,_,h,_,_,_=>by simp at h
 |it0::r,j,k,i,it,it',hn,hj,hk,h1,h2=>by
  have hn':(it0.used++d8 r).Nodup:=by simpa[d8] using hn
  obtain⟨n1,n2,n3⟩:=List.nodup_append.1 hn'
  cases j with
  |zero=>
   simp at hj;subst hj
   cases k with
   |zero=>rfl
   |succ k=>exact absurd rfl (n3 i h1 i (fo (by simpa using hk) h2))
  |succ j=>
   cases k with
   |zero=>simp at hk;subst hk;exact absurd rfl (n3 i h2 i (fo (by simpa using hj) h1))
   |succ k=>have e:=gO (its:=r) (j:=j) (k:=k) n2 (by simpa using hj) (by simpa using hk) h1 h2;omega
theorem i8:∀{its:List It2} {k:Nat} {it:It2},(d8 its).Nodup→its[k]? =some it→it.used.Nodup
 |[],_,_,_,h=>by simp at h
 |it0::r,k,it,hn,h=>by
  have hn':(it0.used++d8 r).Nodup:=by simpa[d8] using hn
  cases k with
  |zero=>simp at h;subst h;exact(List.nodup_append.1 hn').1
  |succ k=>exact i8 (List.nodup_append.1 hn').2.1 (by simpa using h)
def g5 (G:Fz) (n:Nat) (L:List Res) (k:Nat) (bs:Nat→Value) (it:It2) (dst:Option Nat):Act→World→Prop:=fun a w=>
 ∃H v,G≤H∧(match dst with|some d=>∃u,a.tmps[d]? =some u∧(it.val.sv (upd bs k v)).ok H u|none=>True)∧St H w (it.outs.map (fun x=>x.2.res (upd bs k v))++L)∧a.defers=[]
def envT:Option Nat→SV→List (Nat×SV)→List (Nat×SV)
 |some d,s,E=>(d,s)::E
 |none,_,E=>E
def seqT (P:Program) (n:Nat) (tab:List Tok) (Lf:List Res→List Res) (ops:Array Oper) (F0:Fz) (bs:Nat→Value) (K:List (Nat×SV)→Prop):Nat→List It2→List (List Nat)→List Oper→List (Nat×SV)→Prop
 |j,it::its,us::p,o::l,E=>(∀R,R∈d7 tab it.rds bs→∀G T,F0≤G→Under G n (c5 us E) (preT tab it.used bs++(R++Lf T)) (wpList P ops (Exit.then (g5 G n (R++Lf T) j bs it o.dst) QF) [o]))∧seqT P n tab Lf ops F0 bs K (j+1) its p l (envT o.dst (it.val.sv bs) E)
 |_,[],[],[],E=>K E
 |_,_,_,_,_=>False
section
variable {P:Program} {ops:Array Oper} {Q:Exit→Act→World→Prop} {rest:List Oper} {F0:Fz} {n:Nat} {E:List (Nat×SV)} {L:List Res}
variable {d:Nat} {op:Op} {ty:TypeId} {pos:String} {aft:Array Edge} {s:SV} {Lf:List Res→List Res} {tab:List Tok}
theorem kI {bs:Nat→Value} {K:List (Nat×SV)→Prop}:∀{its:List It2} {p:List (List Nat)} {l:List Oper} {E:List (Nat×SV)} {j:Nat},seqT P n tab Lf ops F0 bs K j its p l E→
  its.length=l.length∧K (dI l (its.map (fun it=>it.val.sv bs)) E)∧
  ∀(i:Nat) o us it,l[i]? =some o→p[i]? =some us→its[i]? =some it→∀R,R∈d7 tab it.rds bs→∀G T,F0≤G→Under G n (c5 us (dI (l.take i) ((its.take i).map (fun it=>it.val.sv bs)) E)) (preT tab it.used bs++(R++Lf T)) (wpList P ops (Exit.then (g5 G n (R++Lf T) (j+i) bs it o.dst) QF) [o])
 |[],[],[],E,j,h=>⟨rfl,by simpa[dI,seqT] using h,fun i o us it hi=>by simp at hi⟩
 |it::its,us::p,o::l,E,j,h=>by
  obtain⟨h1,h2⟩:=h
  obtain⟨e1,e2,e3⟩:=kI h2
  refine⟨by simp[e1],?_,fun i q us' it' hi hp hs=>?_⟩
  · rw[List.map_cons,dI]
    cases hd:o.dst with
    |none=>rw[hd] at e2;exact e2
    |some d=>rw[hd] at e2;exact e2
  · cases i with
    |zero=>simp at hi hp hs;subst hi;subst hp;subst hs;simpa[dI] using h1
    |succ i=>
     have:=e3 i q us' it' (by simpa using hi) (by simpa using hp) (by simpa using hs)
     rw[List.take_succ_cons,List.take_succ_cons,List.map_cons,dI,show j+(i+1)=j+1+i by omega]
     cases hd:o.dst with
     |none=>rw[hd] at this;exact this
     |some d=>rw[hd] at this;exact this
 |[],_::_,_,_,_,h=>by simp[seqT] at h
 |[],[],_::_,_,_,h=>by simp[seqT] at h
 |_::_,[],_,_,_,h=>by simp[seqT] at h
 |_::_,_::_,[],_,_,h=>by simp[seqT] at h
theorem kJ {i k:Nat} {o:Oper} {a:Act} {w:World} {bs:Nat→Value} {it:It2} (hi:ops[i]? =some o) {G:Fz}
   (h:wpList P ops (Exit.then (g5 G n L k bs it o.dst) QF) [o] a w) (hlt:∀d,o.dst=some d→d<a.tmps.size) (hdef:a.defers=[]):
   wpOp P ops Q i (fun a' w'=>∃v x H,a'=a.put o.dst v∧G≤H∧(∀d,o.dst=some d→(it.val.sv (upd bs k x)).ok H v)∧St H w' (it.outs.map (fun y=>y.2.res (upd bs k x))++L)) a w:=by
 have fin:∀v w',g5 G n L k bs it o.dst (a.put o.dst v) w'→∃v' x H,a.put o.dst v=a.put o.dst v'∧G≤H∧(∀d,o.dst=some d→(it.val.sv (upd bs k x)).ok H v')∧St H w' (it.outs.map (fun y=>y.2.res (upd bs k x))++L):=fun v w' ⟨H,x,h1,h2,h3,_⟩=>by
   refine⟨v,x,H,rfl,h1,fun d hd=>?_,h3⟩
   rw[hd] at h2
   obtain⟨u,hu,ho⟩:=h2
   simp only[Act.put] at hu
   rw[Array.getElem?_setIfInBounds_self_of_lt (hlt d hd)] at hu
   cases hu;exact ho
 unfold wpOp
 simp only[hi]
 unfold wpList at h
 split
 · rename_i hw
   rw[if_pos hw] at h
   refine .inl ?_
   rcases h with h|⟨_,hlets⟩
   case inr=>exact absurd hlets (fun hl=>by simp[LetsOut,QF,Exit.then] at hl)
   unfold Oper.wp at*
   generalize (execOp a.eval o).run P w=r at*
   cases r with
   |ok nx w'=>
    cases nx<;>simp only[Oper.upon] at h⊢
    case value u=>exact fin _ _ h
    case skip=>exact fin _ _ h
    case defer dd=>
     obtain⟨H,x,h1,h2,h3,h4⟩:=h
     exfalso
     cases hd:o.dst<;>simp[Act.put,hd] at h4
    case enter f args=>
     refine Calls.mono h fun e w'' he=>?_
     cases e with
     |returned u=>exact fin _ _ he
     |panicked c=>exact he.elim
     |outgrown=>obtain⟨_,_,x⟩:=he;exact x.elim
    case row row args=>exact Rows.mono h fun u w'' he=>fin _ _ he
   |halt x w'=>
    cases x<;>simp only[Oper.upon] at h⊢<;>exact h.elim
 · rename_i hw
   rw[if_neg hw] at h
   exact fin _ _ h
def LstT (g:List Nat) (listed:Array Bool) (q:Nat):Prop:=∃i,g[q]? =some i∧listed.getD i false=true
def oK (tab:List Tok) (its:List It2) (g:List Nat) (listed:Array Bool) (t:Tok):Prop:=
 t∈tab∧(∀q,t.prod=some q→LstT g listed q)∧∀q it,its[q]? =some it→t.id∈it.used→¬LstT g listed q
structure InvT (F:Fz) (n:Nat) (tab:List Tok) (Lf:List Res→List Res) (L0:List Res) (l:List Oper) (D g:List Nat) (its:List It2) (E:List (Nat×SV)) (listed:Array Bool) (a:Act) (w:World):Prop where
 size:listed.size=l.length
 closed:∀j o,l[j]? =some o→listed.getD j false=true→∀e∈afters o,listed.getD e false=true
 dl:∀j∈D,j<l.length→listed.getD j false=true
 ex:∀j,j<l.length→listed.getD j false=true→j∈D∨j∈g
 st:∃G,∃bs:Nat→Value,∃ks:List Tok,F≤G∧St G w (Lf (ks.map (fun t=>t.tk.res bs)++L0))∧(ks.map (·.id)).Nodup∧(∀t,t∈ks↔oK tab its g listed t)∧a.defers=[]∧a.tmps.size=n∧
  (∀(k i:Nat) (o:Oper) (d:Nat) (it:It2),g[k]? =some i→l[i]? =some o→o.dst=some d→its[k]? =some it→listed.getD i false=true→∃v,a.tmps[d]? =some v∧(it.val.sv bs).ok G v)∧
  (∀(t:Nat) (s:SV),look E t=some s→(∀(i:Nat) (o:Oper),i∈g→l[i]? =some o→listed.getD i false=true→o.dst≠some t)→∃v,a.tmps[t]? =some v∧s.ok G v)
theorem dv {ks:List Tok} (h:(ks.map (·.id)).Nodup):ks.Nodup:=(List.pairwise_map.1 h).imp fun hne e=>hne (by rw[e])
set_option maxHeartbeats 1600000 in
theorem nd {l:List Oper} {D g:List Nat} {p:List (List Nat)} {its:List It2} {ini:List (Nat×Res)} {F:Fz} {L0:List Res} (hLf:∀r T,(r::Lf T).Perm (Lf (r::T))) (hB:GB l D g p) (hits:its.length=(pick l g).length) (hT:tokB l g ini its=true)
  (hn:∀o∈pick l g,∀d,o.dst=some d→d<n)
  (hop:∀(bs:Nat→Value) (k:Nat) o us it,(pick l g)[k]? =some o→p[k]? =some us→its[k]? =some it→∀R,R∈d7 (tabT ini its) it.rds bs→∀G T,F≤G→Under G n (c5 us (dI ((pick l g).take k) ((its.take k).map (fun it=>it.val.sv bs)) E)) (preT (tabT ini its) it.used bs++(R++Lf T)) (wpList P l.toArray (Exit.then (g5 G n (R++Lf T) k bs it o.dst) QF) [o]))
  (hfin:∀(bs:Nat→Value) G a w,F≤G→Env G a n (dI (pick l g) (its.map (fun it=>it.val.sv bs)) E)→St G w (Lf (finT (tabT ini its) (d8 its) bs++L0))→eO P Q l (g++D) a w):
  ∀(fuel:Nat) (listed:Array Bool) (a:Act) (w:World),cntF listed≤fuel→InvT F n (tabT ini its) Lf L0 l D g its E listed a w→wpAny P .any l.toArray Q fuel listed a w:=by
 have hlen:=kx hB.lt
 simp only[tokB,Bool.and_eq_true] at hT
 obtain⟨⟨hT1,hT2⟩,hT3⟩:=hT
 replace hT1:=dM hT1
 replace hT2:=dM hT2
 have hitB:∀{k:Nat} {it:It2},its[k]? =some it→itB l g (tabT ini its) it k=true:=fun{k it} h=>by have:=(fZ hT3 h).1;rwa [Nat.zero_add] at this
 have hrdB:∀{k:Nat} {it:It2},its[k]? =some it→it.rds=[]∨gL l g (tabT ini its) its it.used k true none it.rds=true:=fun{k it} h=>by have:=(fZ hT3 h).2;rwa [Nat.zero_add] at this
 have befS:∀{k j:Nat},befB l g k j=true→k<g.length∧g.getD k 0∈((d6 l [])[g.getD j 0]?).getD []:=fun{k j} h=>by
  simp only[befB,Bool.and_eq_true,Nat.blt_eq] at h
  exact⟨h.1,by have:=aF.1 h.2;simpa[List.getD] using this⟩
 have lfp:∀{X Y:List Res},X.Perm Y→(Lf X).Perm (Lf Y):=fun{X Y} h=>by
  have:=om hLf h []
  simpa using this
 have atEnd:∀(fuel:Nat) (listed:Array Bool) (a:Act) (w:World),cntF listed≤fuel→InvT F n (tabT ini its) Lf L0 l D g its E listed a w→(∀i∈g,listed.getD i false=true)→wpAny P .any l.toArray Q fuel listed a w:=by
  intro fuel listed a w hc inv all
  obtain⟨G,bs,ks,hg,hS,hnd,hks,hd,hsz,hA,hB'⟩:=inv.st
  have allL:∀q,q<g.length→LstT g listed q:=fun q hq=>⟨g[q],by simp[hq],all _ (List.getElem_mem hq)⟩
  have hkp:ks.Perm ((tabT ini its).filter (fun t=> !memN t.id (d8 its))):=by
    refine(List.perm_ext_iff_of_nodup (dv hnd) ((dv hT1).filter _)).2 fun t=>?_
    rw[hks,List.mem_filter]
    constructor
    · rintro⟨h1,h2,h3⟩
      refine⟨h1,?_⟩
      cases hm:memN t.id (d8 its) with
      |false=>rfl
      | true =>
        obtain⟨it,hit,hi⟩:=List.mem_flatMap.1 (aF.1 hm)
        obtain⟨q,hq⟩:=List.mem_iff_getElem?.1 hit
        have hql:=(List.getElem?_eq_some_iff.1 hq).1
        exact absurd (allL q (by omega)) (h3 q it hq hi)
    · rintro⟨h1,h2⟩
      refine⟨h1,fun q hq=>?_,fun q it hq hi=>?_⟩
      · rcases List.mem_append.1 h1 with h|h
        · obtain⟨x,_,rfl⟩:=List.mem_map.1 h;cases hq
        · obtain⟨k,it,x,h4,h5,rfl⟩:=e6.1 h
          cases hq
          have:=(List.getElem?_eq_some_iff.1 h4).1
          exact allL _ (by omega)
      · rw[aF.2 (fo hq hi)] at h2;cases h2
  have hS2:St G w (Lf (finT (tabT ini its) (d8 its) bs++L0)):=hS.perm (lfp (by rw[kz];exact(hkp.map _).append_right _))
  refine hfin bs G a w hg ⟨hd,hsz,fun t s e=>?_⟩ hS2 fuel listed hc ⟨inv.size,inv.closed,fun j hj=>⟨fun h=>?_,fun h=>?_⟩⟩
  · by_cases hw:∃o∈pick l g,o.dst=some t
    · obtain⟨o,ho,hot⟩:=hw
      obtain⟨k,hk⟩:=List.mem_iff_getElem?.1 ho
      have hkl:k<(pick l g).length:=(List.getElem?_eq_some_iff.1 hk).1
      have hkg:g[k]? =some g[k]:=by
        have:k<g.length:=by omega
        simp[this]
      have hki:k<its.length:=by omega
      have hik:its[k]? =some its[k]:=by simp[hki]
      rw[iU hB.dsts hk hot (show(its.map (fun it=>it.val.sv bs))[k]? =some (its[k].val.sv bs) by simp[hki])] at e
      cases e
      have hl:=dX hB.lt k _ hkg
      exact hA k _ o t _ hkg (by rw[←hl];exact hk) hot hik (all _ (List.mem_of_getElem? hkg))
    · rw[eP (fun o ho e=>hw ⟨o,ho,e⟩)] at e
      refine hB' t s e fun i o hi hl _ e'=>hw ⟨o,?_,e'⟩
      obtain⟨k,hk⟩:=List.mem_iff_getElem?.1 hi
      have:=dX hB.lt k i hk
      exact List.mem_of_getElem? (this.trans hl)
  · rcases inv.ex j hj h with h|h
    · exact List.mem_append_right _ h
    · exact List.mem_append_left _ h
  · rcases List.mem_append.1 h with h|h
    · exact all j h
    · exact inv.dl j h hj
 intro fuel
 induction fuel with
 |zero=>
  intro listed a w hc inv
  refine atEnd 0 listed a w hc inv fun i hi=>?_
  cases hl:listed.getD i false with
  |true=>rfl
  | false =>
    exfalso
    have hlt:i<listed.size:=by have:=hB.lt i hi;have:=inv.size;omega
    have hun:listed.getD i true=false:=by simp[hlt] at hl⊢;exact hl
    have:=gn hun;omega
 |succ fuel ih=>
  intro listed a w hc inv
  by_cases hall:∀i∈g,listed.getD i false=true
  · exact atEnd _ listed a w hc inv hall
  · have hex:∃k:Nat,∃i,g[k]? =some i∧listed.getD i false=false:=by
      refine Classical.byContradiction fun hno=>hall fun i hi=>?_
      obtain⟨k,hk⟩:=List.mem_iff_getElem?.1 hi
      cases hl:listed.getD i false with
      |true=>rfl
      |false=>exact absurd ⟨k,i,hk,hl⟩ hno
    have hready:∃i,i∈Region.ready .any l.toArray listed:=by
      obtain⟨k,i,hk,hl⟩:=hex
      induction k using Nat.strongRecOn generalizing i with
      | _ k ihk =>
        by_cases hbef:∃q,q<k∧∃j,g[q]? =some j∧listed.getD j false=false
        · obtain⟨q,hq,j,hj,hlj⟩:=hbef
          exact ihk q hq j hj hlj
        · obtain⟨o,us,ho,_,_,_,haf,_⟩:=hB.op k i hk
          have hil:i<l.length:=hB.lt i (List.mem_of_getElem? hk)
          have hlt:i<listed.size:=by have:=inv.size;omega
          refine⟨i,mem_ready.2 ⟨by simp[hlt] at hl⊢;exact hl,o,by simpa using ho,gY fun e he=>?_⟩⟩
          obtain⟨h1,h2|h2⟩:=haf e he
          · exact inv.dl e h2 h1
          · obtain⟨q,hq⟩:=List.mem_iff_getElem?.1 h2
            have hqk:q<k:=by have:=(List.getElem?_eq_some_iff.1 hq).1;simp at this;omega
            rw[List.getElem?_take_of_lt hqk] at hq
            cases hle:listed.getD e false with
            |true=>rfl
            |false=>exact absurd ⟨q,hqk,e,hq,hle⟩ hbef
    refine⟨fun h0=>(by obtain⟨i,hi⟩:=hready;rw[h0] at hi;cases hi),fun i hi=>?_⟩
    obtain⟨hun,o,ho,haft⟩:=mem_ready.1 hi
    have ho':l[i]? =some o:=by simpa using ho
    have hil:i<l.length:=(List.getElem?_eq_some_iff.1 ho').1
    have hlist:=iN haft
    have hlt:i<listed.size:=by have:=inv.size;omega
    have hunf:listed.getD i false=false:=by simp[hlt] at hun⊢;exact hun
    have hiD:i∉D:=fun h=>by rw[inv.dl i h hil] at hunf;cases hunf
    have hig:i∈g:=by
      rcases hB.others i hil with h|h|h
      · exact absurd h hiD
      · exact h
      · exact absurd (fun j hj=>dL (fun j=>listed.getD j false=true) inv.closed ho' hlist j (h j hj)) hall
    obtain⟨k,hk⟩:=List.mem_iff_getElem?.1 hig
    obtain⟨o2,us,ho2,hpk,hus,hsel,haf,hwr⟩:=hB.op k i hk
    rw[ho'] at ho2;cases ho2
    have hkl:k<(pick l g).length:=(List.getElem?_eq_some_iff.1 hpk).1
    have hki:k<its.length:=by omega
    have hit:its[k]? =some its[k]:=by simp[hki]
    obtain⟨G,bs,ks,hg,hS,hnd,hks,hdf,hsz,hA,hB'⟩:=inv.st
    have hgk:g.getD k 0=i:=by simp[List.getD,hk]
    have uniq:∀q,g[q]? =some i→q=k:=fun q hq=>by
      have e1:=(List.getElem?_eq_some_iff.1 hq).2
      have e2:=(List.getElem?_eq_some_iff.1 hk).2
      exact(List.getElem_inj hB.nodup).1 (e1.trans e2.symm)
    have hkun:¬LstT g listed k:=fun⟨j,h1,h2⟩=>by rw[hk] at h1;cases h1;rw[hunf] at h2;cases h2
    have bef_lst:∀{q:Nat},befB l g q k=true→LstT g listed q:=fun{q} h=>by
      obtain⟨h1,h2⟩:=befS h
      rw[hgk] at h2
      exact⟨g.getD q 0,by simp[List.getD,h1],dL (fun j=>listed.getD j false=true) inv.closed ho' hlist _ h2⟩
    -- what hangs on a listed operation's tellings does not hang on this one
    have dep_lst:∀{q j:Nat},befB l g q j=true→LstT g listed j→LstT g listed q:=fun{q j} h ⟨j1,hj1,hl1⟩=>by
      obtain⟨h1,h2⟩:=befS h
      obtain⟨o3,_,ho3,_⟩:=hB.op j _ hj1
      have hgq:g.getD j 0=j1:=by simp[List.getD,hj1]
      rw[hgq] at h2
      exact⟨g.getD q 0,by simp[List.getD,h1],dL (fun j=>listed.getD j false=true) inv.closed ho3 (inv.closed _ o3 ho3 hl1) _ h2⟩
    have dne:∀d q j o' d',o.dst=some d→g[q]? =some j→l[j]? =some o'→o'.dst=some d'→i≠j→d≠d':=fun d q j o' d' hd hq hj hd' hji e=>by
      subst e
      have hpq:=dX hB.lt q j hq
      have:=jv hB.dsts hpk (hpq.trans hj) hd hd'
      subst this
      rw[hk] at hq;cases hq;exact hji rfl
    have hEnv:∀t s,look (c5 us (dI ((pick l g).take k) ((its.take k).map (fun it=>it.val.sv bs)) E)) t=some s→∃v,a.tmps[t]? =some v∧s.ok G v:=by
      intro t s e
      rw[iM] at e
      split at e
      · rename_i htu
        have hwt:=hwr t htu
        by_cases hw:∃q∈(pick l g).take k,q.dst=some t
        · obtain⟨o',hq,hqt⟩:=hw
          obtain⟨q,hq'⟩:=List.mem_iff_getElem?.1 hq
          have hqk:q<k:=by have:=(List.getElem?_eq_some_iff.1 hq').1;simp at this;omega
          have hpq:(pick l g)[q]? =some o':=by rw[List.getElem?_take_of_lt hqk] at hq';exact hq'
          have hgq:g[q]? =some g[q]:=by
            have:q<g.length:=by omega
            simp[this]
          have hlq:=dX hB.lt q _ hgq
          have hlo:l[g[q]]? =some o':=by rw[←hlq];exact hpq
          have hqi:q<its.length:=by omega
          have hsq:((its.take k).map (fun it=>it.val.sv bs))[q]? =some (its[q].val.sv bs):=by simp[hqi,hqk]
          have hndt:(((pick l g).take k).filterMap (·.dst)).Nodup:=hB.dsts.sublist ((List.take_sublist k _).filterMap _)
          rw[iU hndt hq' hqt hsq] at e
          cases e
          refine hA q _ o' t _ hgq hlo hqt (by simp[hqi]) ?_
          exact dL (fun j=>listed.getD j false=true) inv.closed ho' hlist _ ((hwt q _ o' hgq hlo hqt).1 hqk)
        · rw[eP (fun x hx e'=>hw ⟨x,hx,e'⟩)] at e
          refine hB' t s e fun j o' hj hlj hlisted hqt=>?_
          obtain⟨q,hq⟩:=List.mem_iff_getElem?.1 hj
          have hpq:=dX hB.lt q j hq
          have hqk:¬q<k:=fun h=>hw ⟨o',by
            have:((pick l g).take k)[q]? =some o':=by rw[List.getElem?_take_of_lt h,hpq];exact hlj
            exact List.mem_of_getElem? this,hqt⟩
          by_cases hqk2:q=k
          · subst hqk2
            rw[hk] at hq;cases hq
            rw[hunf] at hlisted;cases hlisted
          · have:=dL (fun j=>listed.getD j false=true) inv.closed hlj (inv.closed j o' hlj hlisted) i ((hwt q j o' hq hlj hqt).2 (by omega))
            rw[hunf] at this;cases this
      · cases e
    -- the tokens that it takes
    have hib:=hitB hit
    simp only[itB,Bool.and_eq_true,List.all_eq_true] at hib
    obtain⟨⟨hib1,hib2⟩,hib3⟩:=hib
    have husedlive:∀x∈its[k].used,∃t,da (tabT ini its) x=some t∧t∈ks∧t.id=x:=fun x hx=>by
      have h1:=hib1 x hx
      cases hf:da (tabT ini its) x with
      |none=>rw[hf] at h1;cases h1
      | some t =>
        rw[hf] at h1
        obtain⟨h2,h3⟩:=f4 hf
        refine⟨t,rfl,(hks t).2 ⟨h2,fun q hq=>?_,fun q it hq hi hl=>?_⟩,h3⟩
        · simp only[hq] at h1;exact bef_lst h1
        · rw[h3] at hi
          have:=gO hT2 hq hit hi hx
          subst this
          exact hkun hl
    have hsp:ks.Perm (its[k].used.filterMap (da (tabT ini its))++ks.filter (fun t=> !memN t.id its[k].used)):=by
      have hidu:(its[k].used.filterMap (da (tabT ini its))).map (·.id)=its[k].used:=by
        have:∀us:List Nat,(∀x∈us,∃t,da (tabT ini its) x=some t∧t∈ks∧t.id=x)→(us.filterMap (da (tabT ini its))).map (·.id)=us:=by
          intro us
          induction us with
          |nil=>intro _;rfl
          | cons x us ih =>
            intro h
            obtain⟨t,h1,_,h3⟩:=h x (by simp)
            rw[List.filterMap_cons,h1]
            simp only[List.map_cons,h3,ih fun y hy=>h y (by simp[hy])]
        exact this _ husedlive
      have hndu:(its[k].used.filterMap (da (tabT ini its))).Nodup:=dv (by rw[hidu];exact i8 hT2 hit)
      refine(List.perm_ext_iff_of_nodup (dv hnd) (List.nodup_append.2 ⟨hndu,(dv hnd).filter _,fun x hx y hy e=>?_⟩)).2 fun t=>?_
      · subst e
        have h1:x.id∈its[k].used:=by rw[←hidu];exact List.mem_map_of_mem hx
        have:=(List.mem_filter.1 hy).2
        rw[aF.2 h1] at this;cases this
      · rw[List.mem_append,List.mem_filter,List.mem_filterMap]
        constructor
        · intro h
          cases hm:memN t.id its[k].used with
          |false=>exact .inr ⟨h,by simp⟩
          |true=>exact .inl ⟨t.id,aF.1 hm,gr hT1 ((hks t).1 h).1⟩
        · rintro(⟨x,hx,hf⟩|⟨h,_⟩)
          · obtain⟨t',h1,h2,_⟩:=husedlive x hx
            rw[hf] at h1;cases h1;exact h2
          · exact h
    -- what it looks at
    have hread:∃rl:List Tok,rl.map (fun t=>t.tk.res bs)∈d7 (tabT ini its) its[k].rds bs∧∃rest,(ks.filter (fun t=> !memN t.id its[k].used)).Perm (rl++rest):=by
      rcases hrdB hit with h0|h0
      · exact⟨[],by rw[h0];simp[d7],_,List.Perm.refl _⟩
      · have key:∀(rs:List Nat) (first:Bool) (prev:Option Nat),gL l g (tabT ini its) its its[k].used k first prev rs=true→(first=true→rs≠[])→(first=false→∃c,prev=some c∧LstT g listed c)→
            ∃t∈ks,memN t.id its[k].used=false∧[t.tk.res bs]∈d7 (tabT ini its) rs bs:=by
          intro rs
          induction rs with
          | nil =>
            intro first prev h h1 h2
            cases first with
            |true=>exact absurd rfl (h1 rfl)
            | false =>
              obtain⟨c,rfl,hc⟩:=h2 rfl
              exact absurd (dep_lst h hc) hkun
          | cons i r ih =>
            intro first prev h h1 h2
            rw[gL] at h
            cases hf:da (tabT ini its) i with
            |none=>rw[hf] at h;cases h
            | some t =>
              rw[hf] at h
              simp only[Bool.and_eq_true,Bool.not_eq_true'] at h
              obtain⟨⟨ha,hb⟩,hc⟩:=h
              obtain⟨f1,f2⟩:=f4 hf
              have hin:[t.tk.res bs]∈d7 (tabT ini its) (i::r) bs:=by
                cases r with
                |nil=>simp[d7,hf]
                |cons x xs=>simp[d7,hf]
              have hprod:∀q,t.prod=some q→LstT g listed q:=fun q hq=>by
                cases first with
                |true=>rw[hq] at ha;exact bef_lst ha
                |false=>
                 obtain⟨c,rfl,hcl⟩:=h2 rfl
                 rw[hq] at ha
                 rw[Nat.eq_of_beq_eq_true (show Nat.beq q c=true from ha)];exact hcl
              by_cases hlive:∀q it,its[q]? =some it→t.id∈it.used→¬LstT g listed q
              · exact⟨t,(hks t).2 ⟨f1,hprod,hlive⟩,by rw[f2];exact hb,hin⟩
              · obtain⟨q,hq⟩:=Classical.not_forall.1 hlive
                obtain⟨it,hq⟩:=Classical.not_forall.1 hq
                obtain⟨hq1,hq⟩:=Classical.not_imp.1 hq
                obtain⟨hq2,hq⟩:=Classical.not_imp.1 hq
                have hq:=Classical.not_not.1 hq
                cases hcons:iW its 0 i with
                |none=>exact absurd hq2 (by rw[f2];exact iY hcons q it hq1)
                |some c=>
                 obtain⟨q',it',e1,e2,e3⟩:=iZ hcons
                 rw[f2] at hq2
                 have e4:=gO hT2 hq1 e2 hq2 e3
                 rw[hcons] at hc
                 obtain⟨t',h5,h6,h7⟩:=ih false (some c) hc (fun e=>by cases e) (fun _=>⟨c,rfl,by rw[e1,Nat.zero_add,←e4];exact hq⟩)
                 refine⟨t',h5,h6,?_⟩
                 cases r with
                 |nil=>simp only[d7,List.mem_singleton] at h7;cases h7
                 |cons x xs=>
                  show _∈(match da (tabT ini its) i with|some t=>[t.tk.res bs]|none=>[])::d7 (tabT ini its) (x::xs) bs
                  exact List.mem_cons_of_mem _ h7
        have hne:its[k].rds≠[]∨its[k].rds=[]:=by cases its[k].rds<;>simp
        rcases hne with hne|hne
        · obtain⟨t,h1,h2,h3⟩:=key _ true none h0 (fun _=>hne) (fun e=>by cases e)
          have hm:t∈ks.filter (fun t=> !memN t.id its[k].used):=List.mem_filter.2 ⟨h1,by rw[h2];rfl⟩
          obtain⟨A1,A2,e⟩:=List.append_of_mem hm
          exact⟨[t],h3,A1++A2,by rw[e];exact List.perm_middle⟩
        · exact⟨[],by rw[hne];simp[d7],_,List.Perm.refl _⟩
    obtain⟨rl,hrl,restk,hrp⟩:=hread
    have hS1:St G w (preT (tabT ini its) its[k].used bs++(rl.map (fun t=>t.tk.res bs)++Lf (restk.map (fun t=>t.tk.res bs)++L0))):=by
      refine hS.perm ((lfp (((hsp.map (fun t=>t.tk.res bs)).append_right L0))).trans ?_)
      rw[List.map_append,List.append_assoc,kF]
      refine(fm hLf _ _).symm.trans (List.Perm.append_left _ ?_)
      refine(lfp ((hrp.map (fun t=>t.tk.res bs)).append_right L0)).trans ?_
      rw[List.map_append,List.append_assoc]
      exact(fm hLf _ _).symm
    have hrun:=hop bs k o us _ hpk hus hit _ hrl G _ hg G a w (Fz.rf G) ⟨hdf,hsz,hEnv⟩ hS1
    have hfr:=kJ (Q:=Q) (i:=i) (by simpa using ho') hrun (fun d hd=>by rw[hsz];exact hn o (List.mem_of_getElem? hpk) d hd) hdf
    refine wpOp_mono (fun a' w' h=>?_) hfr
    obtain⟨u,v,H,rfl,hgh,hok,hS'⟩:=h
    have lst_set:∀q,LstT g (listed.setIfInBounds i true) q↔LstT g listed q∨q=k:=fun q=>by
      constructor
      · rintro⟨j,h1,h2⟩
        by_cases hji:i=j
        · subst hji;exact .inr (uniq q h1)
        · rw[getD_set_ne false hji] at h2;exact .inl ⟨j,h1,h2⟩
      · rintro(⟨j,h1,h2⟩|rfl)
        · exact⟨j,h1,getD_set_true h2⟩
        · exact⟨i,hk,by simp[hlt]⟩
    have tk_same:∀t∈ks,t.tk.res (upd bs k v)=t.tk.res bs:=fun t ht=>by
      obtain⟨h1,h2,_⟩:=(hks t).1 ht
      refine t.tk.ok _ _ fun q hq=>nc _ _ fun e=>?_
      subst e
      rcases List.mem_append.1 h1 with h|h
      · obtain⟨x,_,rfl⟩:=List.mem_map.1 h;simp[tk0] at hq
      · obtain⟨j,it,x,h4,h5,rfl⟩:=e6.1 h
        have hj:=h2 (0+j) rfl
        rw[Nat.zero_add] at hj
        have hib:=hitB h4
        simp only[itB,Bool.and_eq_true,List.all_eq_true,Bool.or_eq_true] at hib
        rcases hib.1.2 x h5 q hq with hb|hb
        · have:=Nat.eq_of_beq_eq_true hb
          subst this;exact hkun hj
        · exact hkun (dep_lst hb hj)
    have sv_same:∀q it,its[q]? =some it→LstT g listed q→it.val.sv (upd bs k v)=it.val.sv bs:=fun q it hq hl=>by
      refine it.val.ok _ _ fun z hz=>nc _ _ fun e=>?_
      subst e
      have hib:=hitB hq
      simp only[itB,Bool.and_eq_true,List.all_eq_true,Bool.or_eq_true] at hib
      rcases hib.2 z hz with hb|hb
      · have:=Nat.eq_of_beq_eq_true hb
        subst this;exact hkun hl
      · exact hkun (dep_lst hb hl)
    have outs_tab:∀x∈its[k].outs,(⟨x.1,some k,x.2⟩:Tok)∈tabT ini its:=fun x hx=>List.mem_append_right _ (e6.2 ⟨k,_,x,hit,hx,by rw[Nat.zero_add]⟩)
    have out_notks:∀x∈its[k].outs,∀t∈ks,t.id≠x.1:=fun x hx t ht e=>by
      have h1:=(hks t).1 ht
      have:=oo hT1 h1.1 (outs_tab x hx) e
      subst this
      exact hkun (h1.2.1 k rfl)
    have hne:its[k].outs.map (·.1)|>.Nodup:=by
      have hs:(its[k].outs.map (fun x=>(⟨x.1,some k,x.2⟩:Tok))).Sublist (tabT ini its):=by
        refine List.Sublist.trans ?_ (List.sublist_append_right _ _)
        have:∀(its:List It2) (j q:Nat) (it:It2),its[q]? =some it→(it.outs.map (fun x=>(⟨x.1,some (j+q),x.2⟩:Tok))).Sublist (tabF its j):=by
          intro its
          induction its with
          |nil=>intro j q it h;simp at h
          | cons it0 r ih =>
            intro j q it h
            cases q with
            |zero=>simp at h;subst h;exact List.sublist_append_left _ _
            |succ q=>rw[show j+(q+1)=j+1+q by omega];exact(ih (j+1) q it (by simpa using h)).trans (List.sublist_append_right _ _)
        have:=this its 0 k _ hit
        rwa [Nat.zero_add] at this
      have:=hT1.sublist (hs.map (·.id))
      simpa[List.map_map,Function.comp_def] using this
    have tm:∀(t:Nat) u',a.tmps[t]? =some u'→(∀d,o.dst=some d→d≠t)→(a.put o.dst u).tmps[t]? =some u':=by
      intro t u' hu hne
      cases hd:o.dst with
      |none=>exact hu
      |some d=>simp only[Act.put];rw[Array.getElem?_setIfInBounds_ne (hne d hd)];exact hu
    refine ih _ _ _ (by have:=gn hun;omega) ⟨by simp[inv.size],fun j q hj hlj e he=>?_,fun j hj hjl=>?_,fun j hj hlj=>?_,H,upd bs k v,its[k].outs.map (fun x=>⟨x.1,some k,x.2⟩)++ks.filter (fun t=> !memN t.id its[k].used),Fz.tr hg hgh,?_,?_,fun t=>?_,?_,?_,fun q j o' d' it hq hj hd' hiq hlj=>?_,fun t s' hl hno=>?_⟩
    · by_cases hji:i=j
      · subst hji
        rw[ho'] at hj;cases hj
        exact getD_set_true (hlist e he)
      · rw[getD_set_ne false hji] at hlj
        exact getD_set_true (inv.closed j q hj hlj e he)
    · exact getD_set_true (inv.dl j hj hjl)
    · by_cases hji:i=j
      · subst hji;exact .inr hig
      · rw[getD_set_ne false hji] at hlj;exact inv.ex j hj hlj
    · have e1:(ks.filter (fun t=> !memN t.id its[k].used)).map (fun t=>t.tk.res (upd bs k v))=(ks.filter (fun t=> !memN t.id its[k].used)).map (fun t=>t.tk.res bs):=List.map_congr_left fun t ht=>tk_same t (List.mem_filter.1 ht).1
      rw[List.map_append,e1,List.map_map,List.append_assoc]
      refine hS'.perm ?_
      refine(List.Perm.append_left _ ?_).trans (fm hLf _ _)
      refine(fm hLf _ _).trans (lfp ?_)
      rw[←List.append_assoc,←List.map_append]
      exact((hrp.map _).append_right L0).symm
    · rw[List.map_append,List.map_map]
      refine List.nodup_append.2 ⟨by simpa[Function.comp_def] using hne,?_,fun x hx y hy e=>?_⟩
      · exact hnd.sublist (List.filter_sublist.map _)
      · subst e
        simp only[List.mem_map,Function.comp_def] at hx
        obtain⟨z,hz,rfl⟩:=hx
        obtain⟨t,ht,e⟩:=List.mem_map.1 hy
        exact out_notks z hz t (List.mem_filter.1 ht).1 e
    · rw[List.mem_append,List.mem_filter,List.mem_map]
      constructor
      · rintro(⟨x,hx,rfl⟩|⟨h1,h2⟩)
        · refine⟨outs_tab x hx,fun q hq=>?_,fun q it hq hi hl=>?_⟩
          · cases hq;exact(lst_set k).2 (.inr rfl)
          · -- a token is taken only behind what gives it
            have hib:=hitB hq
            simp only[itB,Bool.and_eq_true,List.all_eq_true] at hib
            have h5:=hib.1.1 _ hi
            rw[gr hT1 (outs_tab x hx)] at h5
            simp only at h5
            rcases(lst_set q).1 hl with h|rfl
            · exact hkun (dep_lst h5 h)
            · obtain⟨h6,h7⟩:=befS h5
              rw[hgk] at h7
              have:=dL (fun j=>listed.getD j false=true) inv.closed ho' hlist _ h7
              rw[hunf] at this;cases this
        · obtain⟨h3,h4,h5⟩:=(hks t).1 h1
          refine⟨h3,fun q hq=>(lst_set q).2 (.inl (h4 q hq)),fun q it hq hi hl=>?_⟩
          rcases(lst_set q).1 hl with h|rfl
          · exact h5 q it hq hi h
          · rw[hit] at hq;cases hq
            rw[aF.2 hi] at h2;cases h2
      · rintro⟨h1,h2,h3⟩
        by_cases hp:t.prod=some k
        · left
          rcases List.mem_append.1 h1 with h|h
          · obtain⟨x,_,rfl⟩:=List.mem_map.1 h;cases hp
          · obtain⟨j,it,x,h4,h5,rfl⟩:=e6.1 h
            simp only[Nat.zero_add,Option.some.injEq] at hp
            subst hp
            rw[hit] at h4;cases h4
            exact⟨x,h5,by rw[Nat.zero_add]⟩
        · refine .inr ⟨(hks t).2 ⟨h1,fun q hq=>?_,fun q it hq hi hl=>h3 q it hq hi ((lst_set q).2 (.inl hl))⟩,?_⟩
          · rcases(lst_set q).1 (h2 q hq) with h|rfl
            · exact h
            · exact absurd hq hp
          · cases hm:memN t.id its[k].used with
            |false=>rfl
            |true=>exact absurd ((lst_set k).2 (.inr rfl)) (h3 k _ hit (aF.1 hm))
    · cases o.dst<;>exact hdf
    · cases o.dst with
      |none=>exact hsz
      |some d=>simp[Act.put,hsz]
    · by_cases hji:i=j
      · subst hji
        rw[ho'] at hj;cases hj
        have:=uniq q hq
        subst this
        rw[hit] at hiq;cases hiq
        refine⟨u,?_,hok d' hd'⟩
        rw[hd']
        simp only[Act.put];rw[Array.getElem?_setIfInBounds_self_of_lt (by rw[hsz];exact hn o (List.mem_of_getElem? hpk) d' hd')]
      · rw[getD_set_ne false hji] at hlj
        obtain⟨u',hu,ho3⟩:=hA q j o' d' it hq hj hd' hiq hlj
        rw[sv_same q it hiq ⟨j,hq,hlj⟩]
        exact⟨u',tm d' u' hu fun d hd=>dne d q j o' d' hd hq hj hd' hji,SV.ok_mono hgh ho3⟩
    · obtain⟨u',hu,ho3⟩:=hB' t s' hl (fun j o' hj hlj hlisted=>hno j o' hj hlj (getD_set_true hlisted))
      refine⟨u',tm t u' hu fun d hd e=>?_,SV.ok_mono hgh ho3⟩
      subst e
      exact hno i o hig ho' (by simp[hlt]) hd
theorem Under.grpT {l:List Oper} {D:List Nat} {L0:List Res} (g:List Nat) (p:List (List Nat)) (its:List It2) (ini:List (Nat×Res)) (Lf:List Res→List Res) (hLf:∀r T,(r::Lf T).Perm (Lf (r::T))) (hL:Lf (ini.map (·.2)++L)=L0) (hB:ig l D g p=true) (hT:tokB l g ini its=true) (hn:(pick l g).all (fun o=>match o.dst with|some d=>Nat.blt d n|none=>true)=true)
   (h:∀F,F0≤F→∀bs,seqT P n (tabT ini its) Lf l.toArray F bs (fun E'=>Under F n E' (Lf (finT (tabT ini its) (d8 its) bs++L)) (eO P Q l (g++D))) 0 its p (pick l g) E):Under F0 n E L0 (eO P Q l D):=fun F a w h0 hE hS fuel listed hc inv=>by
 subst hL
 have key:=fun bs=>kI (h F h0 bs)
 have hG:=jU hB
 have nolst:∀q,¬LstT g listed q:=fun q ⟨i,h1,h2⟩=>by
   have hig:=List.mem_of_getElem? h1
   exact absurd ((inv.ex i (hG.lt i hig)).1 h2) (hG.apart i hig)
 have hT':=hT
 simp only[tokB,Bool.and_eq_true] at hT'
 have hids:=dM hT'.1.1
 refine nd hLf hG (key fun _=>undef).1 hT (fun o ho d hd=>?_) (fun bs k o us it h1 h2 h3 R hR G T hg=>by have:=(key bs).2.2 k o us it h1 h2 h3 R hR G T hg;rwa [Nat.zero_add] at this) (fun bs G a w hg hE' hS'=>(key bs).2.1 G a w hg hE' hS') fuel listed a w hc
   ⟨inv.size,inv.closed,fun j hj hjl=>(inv.ex j hjl).2 hj,fun j hj hl=> .inl ((inv.ex j hj).1 hl),F,fun _=>undef,ini.map (fun x=>⟨x.1,none,tk0 x.2⟩),Fz.rf F,?_,?_,fun t=>?_,hE.defers,hE.size,fun k i o d it hk hi _ _ hl=>absurd ⟨i,hk,hl⟩ (nolst k),fun t s hl _=>hE.at_ t s hl⟩
 · have:=List.all_eq_true.1 hn o ho
   rw[hd] at this;simpa[Nat.blt_eq] using this
 · have e:(ini.map (fun x=>(⟨x.1,none,tk0 x.2⟩:Tok))).map (fun t=>t.tk.res (fun _=>undef))=ini.map (·.2):=by
     rw[List.map_map];rfl
   rw[e];exact hS
 · exact hids.sublist ((List.sublist_append_left _ _).map _)
 · constructor
   · intro ht
     refine⟨List.mem_append_left _ ht,fun q hq=>?_,fun q it _ _=>nolst q⟩
     obtain⟨x,_,rfl⟩:=List.mem_map.1 ht;cases hq
   · rintro⟨h1,h2,_⟩
     rcases List.mem_append.1 h1 with h|h
     · exact h
     · obtain⟨j,it,x,_,_,rfl⟩:=e6.1 h
       exact absurd (h2 _ rfl) (nolst _)
theorem Tq.st {bs:Nat→Value} {K:List (Nat×SV)→Prop} {v:Sk} {u:List Nat} {os:List (Nat×Tk)} {its:List It2} {us:List Nat} {p:List (List Nat)} {l:List Oper} {j:Nat} {g:Option (Nat×Bool)} (s:SV) (X:List Res) (hX:preT tab u bs=X) (hs:v.sv bs=s)
  (h:∀G T,F0≤G→Under G n (c5 us E) (X++Lf T) (wpList P ops (Exit.then (g5 G n (Lf T) j bs ⟨v,u,os,[]⟩ (some d)) QF) [⟨some d,op,ty,pos,aft,g⟩])) (k:seqT P n tab Lf ops F0 bs K (j+1) its p l ((d,s)::E)):
  seqT P n tab Lf ops F0 bs K j (⟨v,u,os,[]⟩::its) (us::p) (⟨some d,op,ty,pos,aft,g⟩::l) E:=by
 subst hX;subst hs
 exact⟨fun R hR=>by simp only[d7,List.mem_singleton] at hR;subst hR;exact h,k⟩
theorem Tq.v {bs:Nat→Value} {K:List (Nat×SV)→Prop} {s:SV} {its:List It2} {us:List Nat} {p:List (List Nat)} {l:List Oper} {j:Nat} {g:Option (Nat×Bool)}
  (h:∀G T,F0≤G→Under G n (c5 us E) (Lf T) (wpList P ops (Exit.then (g5 G n (Lf T) j bs ⟨sk0 s,[],[],[]⟩ (some d)) QF) [⟨some d,op,ty,pos,aft,g⟩])) (k:seqT P n tab Lf ops F0 bs K (j+1) its p l ((d,s)::E)):
  seqT P n tab Lf ops F0 bs K j (⟨sk0 s,[],[],[]⟩::its) (us::p) (⟨some d,op,ty,pos,aft,g⟩::l) E:=
 ⟨fun R hR=>by simp only[d7,List.mem_singleton] at hR;subst hR;exact h,k⟩
theorem Tq.nil {bs:Nat→Value} {K:List (Nat×SV)→Prop} {j:Nat} (h:K E):seqT P n tab Lf ops F0 bs K j [] [] [] E:=h
theorem Tq.end {bs:Nat→Value} {it:It2} {k:Nat} {L':List Res} {Q':Exit→Act→World→Prop} (v:Value) (hd:look E d=some (it.val.sv (upd bs k v))) (hL:L'=it.outs.map (fun x=>x.2.res (upd bs k v))++L):
  Under F0 n E L' (wpList P ops (Exit.then (g5 F0 n L k bs it (some d)) Q') []):=by
 subst hL
 exact fun F a w h0 hE hS=>⟨F,v,h0,hE.at_ d _ hd,hS,hE.defers⟩
end
end Go.Sim
namespace Go.Sim
open Go
section
variable {P:Program} {ops:Array Oper} {Q:Exit→Act→World→Prop} {rest:List Oper} {F F0:Fz} {n:Nat} {E:List (Nat×SV)} {L:List Res} {C:World→Prop} {Qa:Act→Prop}
variable {d:Nat} {op:Op} {ty:TypeId} {pos:String} {aft:Array Edge} {s:SV} {X:Act→World→Prop}
theorem mv {x:Operand} (h:ev E x=some s) (hd:Nat.blt d n=true) (k:Under F0 n ((d,s)::E) L (wpList P ops Q rest)):Under F0 n E L (wpList P ops Q (⟨some d,.move x,ty,pos,aft,none⟩::rest)):=Under.ov (OpV.move h) hd k
theorem ag {x:Operand} (h:ev E x=some s) (hd:Nat.blt d n=true) (k:Under F0 n ((d,s)::E) L (wpList P ops Q rest)):Under F0 n E L (wpList P ops Q (⟨some d,.assign x,ty,pos,aft,none⟩::rest)):=Under.ov (OpV.asg h) hd k
theorem mvq {x:Operand} (h:ev E x=some s) (hd:Nat.blt d n=true) (k:aC F n ((d,s)::E) (wpQuiet P ops (Cl F L) Qa rest)):aC F n E (wpQuiet P ops (Cl F L) Qa (⟨some d,.move x,ty,pos,aft,none⟩::rest)):=aC.ov (OpV.move h) hd k
theorem agq {x:Operand} (h:ev E x=some s) (hd:Nat.blt d n=true) (k:aC F n ((d,s)::E) (wpQuiet P ops (Cl F L) Qa rest)):aC F n E (wpQuiet P ops (Cl F L) Qa (⟨some d,.assign x,ty,pos,aft,none⟩::rest)):=aC.ov (OpV.asg h) hd k
theorem bn {b:BinOp} {k:IntKind} {x y:Int} {X Y:Operand} {t u:TypeId} {v:Value} (hX:ev E X=some (.raw (.int k x))) (hY:ev E Y=some (.raw (.int k y))) (hv:binI b k x y=some v) (hd:Nat.blt d n=true)
 (kk:Under F0 n ((d,.raw v)::E) L (wpList P ops Q rest)):Under F0 n E L (wpList P ops Q (⟨some d,.binOp b t X Y u,ty,pos,aft,none⟩::rest)):=Under.ov (OpV.bin hX hY hv) hd kk
theorem bnq {b:BinOp} {k:IntKind} {x y:Int} {X Y:Operand} {t u:TypeId} {v:Value} (hX:ev E X=some (.raw (.int k x))) (hY:ev E Y=some (.raw (.int k y))) (hv:binI b k x y=some v) (hd:Nat.blt d n=true)
 (kk:aC F n ((d,.raw v)::E) (wpQuiet P ops (Cl F L) Qa rest)):aC F n E (wpQuiet P ops (Cl F L) Qa (⟨some d,.binOp b t X Y u,ty,pos,aft,none⟩::rest)):=aC.ov (OpV.bin hX hY hv) hd kk
theorem sr {x:Code} {id:Nat} {l:List Oper} (k:Under F0 n E L (wpList P l.toArray (Exit.then (x.wp P Q) Q) l)):Under F0 n E L ((Code.seq (Code.region id l.toArray false) x).wp P Q):=Under.seq (Under.region k)
theorem nt {K:Act→World→Prop} (k:Under F0 n E L K):Under F0 n E L (wpList P ops (Exit.then K Q) []):=Under.nil (Under.tN k)
theorem ns {x:Code} {id:Nat} {l:List Oper} (k:Under F0 n E L (wpList P l.toArray (Exit.then (x.wp P Q) Q) l)):Under F0 n E L (wpList P ops (Exit.then ((Code.seq (Code.region id l.toArray false) x).wp P Q) Q) []):=nt (sr k)
theorem ct {K:Act→World→Prop} (k:Under F0 n E L K):Under F0 n E L (Code.skip.wp P (Exit.then K Q)):=Under.code_skip (Under.tN k)
theorem rt {K:Act→World→Prop} (k:Under F0 n E L (Q .ret)):Under F0 n E L (Code.ret.wp P (Exit.then K Q)):=Under.retc (Under.tR k)
theorem pkT {c:Bool} {x y z:Operand} (hc:c=true) (h:ev E x=some (.raw (.bool c))) (h1:ev E y=some s):OpV P n E L ⟨some d,.pick x y z,ty,pos,aft,none⟩ s:=OpV.pick h (fun _=>h1) (fun e=>absurd (e.symm.trans hc) (by decide))
theorem pkF {c:Bool} {x y z:Operand} (hc:c=false) (h:ev E x=some (.raw (.bool c))) (h1:ev E z=some s):OpV P n E L ⟨some d,.pick x y z,ty,pos,aft,none⟩ s:=OpV.pick h (fun e=>absurd (e.symm.trans hc) (by decide)) (fun _=>h1)
theorem rbq {a b:Bool} (h:some a=some b):SV.raw (.bool a)=SV.raw (.bool b):=congrArg (fun b=>SV.raw (.bool b)) (Option.some.inj h)
theorem osi {α:Type} {a b:α} (h:some a=some b):a=b:=Option.some.inj h
end
theorem s1 {E:List (Nat×SV)} {k0:Nat} {u0:SV} (h0:look E k0=some u0):∀t v,look [(k0,u0)] t=some v→look E t=some v:=am h0 (fk E)
theorem s2 {E:List (Nat×SV)} {k0:Nat} {u0:SV} {k1:Nat} {u1:SV} (h0:look E k0=some u0) (h1:look E k1=some u1):∀t v,look [(k0,u0),(k1,u1)] t=some v→look E t=some v:=am h0 (am h1 (fk E))
theorem s3 {E:List (Nat×SV)} {k0:Nat} {u0:SV} {k1:Nat} {u1:SV} {k2:Nat} {u2:SV} (h0:look E k0=some u0) (h1:look E k1=some u1) (h2:look E k2=some u2):∀t v,look [(k0,u0),(k1,u1),(k2,u2)] t=some v→look E t=some v:=am h0 (am h1 (am h2 (fk E)))
theorem s8 {E:List (Nat×SV)} {k0:Nat} {u0:SV} {k1:Nat} {u1:SV} {k2:Nat} {u2:SV} {k3:Nat} {u3:SV} {k4:Nat} {u4:SV} {k5:Nat} {u5:SV} {k6:Nat} {u6:SV} {k7:Nat} {u7:SV} (h0:look E k0=some u0) (h1:look E k1=some u1) (h2:look E k2=some u2) (h3:look E k3=some u3) (h4:look E k4=some u4) (h5:look E k5=some u5) (h6:look E k6=some u6) (h7:look E k7=some u7):∀t v,look [(k0,u0),(k1,u1),(k2,u2),(k3,u3),(k4,u4),(k5,u5),(k6,u6),(k7,u7)] t=some v→look E t=some v:=am h0 (am h1 (am h2 (am h3 (am h4 (am h5 (am h6 (am h7 (fk E))))))))
theorem s16 {E:List (Nat×SV)} {k0:Nat} {u0:SV} {k1:Nat} {u1:SV} {k2:Nat} {u2:SV} {k3:Nat} {u3:SV} {k4:Nat} {u4:SV} {k5:Nat} {u5:SV} {k6:Nat} {u6:SV} {k7:Nat} {u7:SV} {k8:Nat} {u8:SV} {k9:Nat} {u9:SV} {k10:Nat} {u10:SV} {k11:Nat} {u11:SV} {k12:Nat} {u12:SV} {k13:Nat} {u13:SV} {k14:Nat} {u14:SV} {k15:Nat} {u15:SV} (h0:look E k0=some u0) (h1:look E k1=some u1) (h2:look E k2=some u2) (h3:look E k3=some u3) (h4:look E k4=some u4) (h5:look E k5=some u5) (h6:look E k6=some u6) (h7:look E k7=some u7) (h8:look E k8=some u8) (h9:look E k9=some u9) (h10:look E k10=some u10) (h11:look E k11=some u11) (h12:look E k12=some u12) (h13:look E k13=some u13) (h14:look E k14=some u14) (h15:look E k15=some u15):∀t v,look [(k0,u0),(k1,u1),(k2,u2),(k3,u3),(k4,u4),(k5,u5),(k6,u6),(k7,u7),(k8,u8),(k9,u9),(k10,u10),(k11,u11),(k12,u12),(k13,u13),(k14,u14),(k15,u15)] t=some v→look E t=some v:=am h0 (am h1 (am h2 (am h3 (am h4 (am h5 (am h6 (am h7 (am h8 (am h9 (am h10 (am h11 (am h12 (am h13 (am h14 (am h15 (fk E))))))))))))))))
theorem s24 {E:List (Nat×SV)} {k0:Nat} {u0:SV} {k1:Nat} {u1:SV} {k2:Nat} {u2:SV} {k3:Nat} {u3:SV} {k4:Nat} {u4:SV} {k5:Nat} {u5:SV} {k6:Nat} {u6:SV} {k7:Nat} {u7:SV} {k8:Nat} {u8:SV} {k9:Nat} {u9:SV} {k10:Nat} {u10:SV} {k11:Nat} {u11:SV} {k12:Nat} {u12:SV} {k13:Nat} {u13:SV} {k14:Nat} {u14:SV} {k15:Nat} {u15:SV} {k16:Nat} {u16:SV} {k17:Nat} {u17:SV} {k18:Nat} {u18:SV} {k19:Nat} {u19:SV} {k20:Nat} {u20:SV} {k21:Nat} {u21:SV} {k22:Nat} {u22:SV} {k23:Nat} {u23:SV} (h0:look E k0=some u0) (h1:look E k1=some u1) (h2:look E k2=some u2) (h3:look E k3=some u3) (h4:look E k4=some u4) (h5:look E k5=some u5) (h6:look E k6=some u6) (h7:look E k7=some u7) (h8:look E k8=some u8) (h9:look E k9=some u9) (h10:look E k10=some u10) (h11:look E k11=some u11) (h12:look E k12=some u12) (h13:look E k13=some u13) (h14:look E k14=some u14) (h15:look E k15=some u15) (h16:look E k16=some u16) (h17:look E k17=some u17) (h18:look E k18=some u18) (h19:look E k19=some u19) (h20:look E k20=some u20) (h21:look E k21=some u21) (h22:look E k22=some u22) (h23:look E k23=some u23):∀t v,look [(k0,u0),(k1,u1),(k2,u2),(k3,u3),(k4,u4),(k5,u5),(k6,u6),(k7,u7),(k8,u8),(k9,u9),(k10,u10),(k11,u11),(k12,u12),(k13,u13),(k14,u14),(k15,u15),(k16,u16),(k17,u17),(k18,u18),(k19,u19),(k20,u20),(k21,u21),(k22,u22),(k23,u23)] t=some v→look E t=some v:=am h0 (am h1 (am h2 (am h3 (am h4 (am h5 (am h6 (am h7 (am h8 (am h9 (am h10 (am h11 (am h12 (am h13 (am h14 (am h15 (am h16 (am h17 (am h18 (am h19 (am h20 (am h21 (am h22 (am h23 (fk E))))))))))))))))))))))))
abbrev sq:=@Under.seq
abbrev rg:=@Under.region
abbrev nl:=@Under.nil
abbrev tn:=@Under.tN
abbrev te:=@Under.tE
abbrev tr:=@Under.tR
abbrev rc:=@Under.retc
abbrev bk:=@Under.block
abbrev bh:=@Under.bH
abbrev bN:=@Under.bN
abbrev bm:=@Under.bM
abbrev xt:=@Under.exit
abbrev cs:=@Under.code_skip
abbrev dr:=@Under.dropr
abbrev gc:=@Under.goc
abbrev gq:=@aC.goc
abbrev sk:=@Under.skc
abbrev oq:=@aC.ov
abbrev ov:=@Under.ov
abbrev rf:=@Under.rfin
abbrev by_:=@Under.byc
abbrev dw:=@Under.draw
abbrev nlq:=@aC.nil
end Go.Sim
namespace Go.Sim
open Go
section
variable {P:Program} {ops:Array Oper} {Q:Exit→Act→World→Prop} {rest:List Oper} {F0:Fz} {n:Nat} {E:List (Nat×SV)} {L:List Res}
variable {d:Nat} {op:Op} {ty:TypeId} {pos:String} {aft:Array Edge} {s:SV}
theorem OpV.ixStr {T:TypeId} {X I:Operand} {x:List Int} {c:Int} {q:IntKind} {i:Int} {s1:SV} (hx:idx x i=some c) (hT:P.underlying T=some .string) (hX:ev E X=some s1) (h1:rdOf s1 kStr x) (hI:ev E I=some (.raw (.int q i))):
  OpV P n E L ⟨some d,.index T X I,ty,pos,aft,none⟩ (.raw (.int .u8 c)):=OpV.rawv fun F a hE w=>by
 obtain⟨st,hv,rfl⟩:=gp (h1 F _ (hE.eval hX))
 obtain⟨h0,h2,h3⟩:=du hx
 have hl:i.toNat<st.size:=by
  have:i<(st.data.toList.length:Int):=by simpa using h2
  have e:st.size=st.data.toList.length:=by rw[Array.length_toList];rfl
  omega
 have hi:0≤i∧i<st.size:=⟨h0,by omega⟩
 have hc : c = ((st[i.toNat]'hl).toNat : Int) := by
  have h4 : (st.data.toList.map fun b => (b.toNat : Int))[i.toNat]? = some ((st[i.toNat]'hl).toNat : Int) := by
   simp only[List.getElem?_map,Array.getElem?_toList]
   have : st.data[i.toNat]? = some (st[i.toNat]'hl) := by
    rw[Array.getElem?_eq_getElem (show i.toNat<st.data.size from hl)];rfl
   rw[this];rfl
  rw[h3] at h4;exact Option.some.inj h4
 simp only[execOp,hv,hE.raw hI,Sem.run_bind,Go.run_index_string w T st q i hT,hi,and_self,dif_pos,Result.andThen_ok,Sem.run_pure]
 rw[hc]
theorem OpV.sl3 {α:Type} {K:Kd α} {T e:TypeId} {X B C:Operand} {A:Option Operand} {xs ys:List α} {k k':IntKind} {l h m:Int} (hs:sub xs l h=some ys) (hm:decide (h≤m∧m≤(xs.length:Int))=true) (hT:P.underlying T=some (.slice e)) (hz:(P.info? e).map (·.size)=some K.n)
   (hX:ev E X=some s) (hr:rdOf s (kSl K) xs) (hA:evO E A 0=some l) (hB:ev E B=some (.raw (.int k h))) (hC:ev E C=some (.raw (.int k' m))):OpV P n E L ⟨some d,.slice T X A (some B) (some C),ty,pos,aft,none⟩ (.val (kSl K) ys):=OpV.pure fun F a hE=>by
 obtain⟨h0,h1,h2,rfl⟩:=eY hs
 obtain⟨m1,m2⟩:=of_decide_eq_true hm
 obtain⟨cs,⟨ad,cap,rfl,hcap,r⟩,he⟩:=hr F _ (hE.eval hX)
 have he:a.eval X= .slice ad xs.length cap:=he
 have hbnd:∀w,(Instr.sliceBounds true xs.length cap (A.map a.eval) (some (.int k h)) (some (.int k' m))).run P w= .ok (l.toNat,h.toNat,m.toNat) w:=fun w=>by
   have e1:(m.toNat:Int)=m:=by omega
   have e2:(h.toNat:Int)=h:=by omega
   rcases iS hE hA with⟨rfl,rfl⟩|⟨q,hq⟩
   · simp[Instr.sliceBounds,cU (show 0≤m by omega) (show m≤(cap:Int) by omega),cU (show 0≤h by omega) (show h≤((m.toNat:Nat):Int) by omega)]
   · simp[Instr.sliceBounds,hq,cU (show 0≤m by omega) (show m≤(cap:Int) by omega),cU (show 0≤h by omega) (show h≤((m.toNat:Nat):Int) by omega),cU h0 (show l≤((h.toNat:Nat):Int) by omega)]
 have hl:((xs.take h.toNat).drop l.toNat).length=h.toNat - l.toNat:=by simp;omega
 refine⟨.slice (if m.toNat=l.toNat then ad else ad.map (·.add (l.toNat*K.n))) (h.toNat - l.toNat) (m.toNat - l.toNat),?_,fun w=>?_⟩
 · simp only[SV.ok]
   refine⟨[_],⟨_,m.toNat - l.toNat,by rw[hl],by rw[hl];omega,?_⟩,rfl⟩
   rcases r with r|⟨p,c,e',fr,rfl,hp,hb,hle,hrd⟩
   · exact .inl (by rw[hl];omega)
   · by_cases hc:m.toNat=l.toNat
     · exact .inl (by rw[hl];omega)
     · refine .inr ⟨p.add (l.toNat*K.n),c,e',fr,by simp[hc],?_,?_,?_,?_⟩
       · obtain⟨b,o,sp⟩:=p;simp only at hp;subst hp;rw[Addr.add_mid]
       · obtain⟨b,o,sp⟩:=p;simp only at hp;subst hp;rw[Addr.add_mid];exact hb
       · obtain⟨b,o,sp⟩:=p;simp only at hp;subst hp;rw[Addr.add_mid,hl]
         have:l.toNat*K.n+(h.toNat - l.toNat)*K.n≤xs.length*K.n:=by rw[←Nat.add_mul];exact Nat.mul_le_mul_right _ (by omega)
         simp only at hle⊢;omega
       · obtain⟨b,o,sp⟩:=p;simp only at hp;subst hp;rw[Addr.add_mid,hl]
         have h3:=(hrd.take h.toNat).drop l.toNat
         simp only at h3⊢
         rw[List.take_take,Nat.min_eq_left (Nat.mul_le_mul_right _ (by omega)),List.drop_take,List.drop_drop] at h3
         rw[Nat.sub_mul];exact h3
 · simp only[execOp,Instr.sliceAt,he,Instr.slice,run_underlying hT,Option.map_some,hE.raw hB,hE.raw hC,Sem.run_bind,Result.andThen_ok,hbnd w,aJ hz,Sem.run_pure]
theorem OpV.slF {α:Type} {K:Kd α} {m:Nat} {T e:TypeId} {X:Operand} {A B:Option Operand} {xs ys:List α} {l h:Int} (hs:sub xs l h=some ys) (hT:P.underlying T=some (.array m e)) (hz:(P.info? e).map (·.size)=some K.n)
   (hX:ev E X=some (.ptr (kArr m K) xs)) (hA:evO E A 0=some l) (hB:evO E B m=some h):OpV P n E L ⟨some d,.slice T X A B none,ty,pos,aft,none⟩ (.val (kSl K) ys):=OpV.pure fun F a hE=>by
 obtain⟨h0,h1,h2,rfl⟩:=eY hs
 have:=hE.eval hX
 simp only[SV.ok] at this
 obtain⟨p,he,hp⟩:=this
 obtain⟨c,e',fr,hsp,hb,hle,hm,hrd⟩:=hp.out
 have hbnd:∀w,_:=fun w=>fY (P:=P) hE (isS:=false) (len:=m) (cap:=m) hA hB h0 h1 (by omega) w
 have hl:((xs.take h.toNat).drop l.toNat).length=h.toNat - l.toNat:=by simp;omega
 refine⟨.slice (some (if m=l.toNat then p else p.add (l.toNat*K.n))) (h.toNat - l.toNat) (m - l.toNat),?_,fun w=>?_⟩
 · simp only[SV.ok]
   refine⟨[_],⟨_,m - l.toNat,by rw[hl],by rw[hl];omega,?_⟩,rfl⟩
   by_cases hc:m=l.toNat
   · exact .inl (by rw[hl];omega)
   · refine .inr ⟨p.add (l.toNat*K.n),c,e',fr,by simp[hc],?_,?_,?_,?_⟩
     · obtain⟨b,o,sp⟩:=p;simp only at hsp;subst hsp;rw[Addr.add_mid]
     · obtain⟨b,o,sp⟩:=p;simp only at hsp;subst hsp;rw[Addr.add_mid];exact hb
     · obtain⟨b,o,sp⟩:=p;simp only at hsp;subst hsp;rw[Addr.add_mid,hl]
       have:l.toNat*K.n+(h.toNat - l.toNat)*K.n≤xs.length*K.n:=by rw[←Nat.add_mul];exact Nat.mul_le_mul_right _ (by omega)
       have h9:(kArr m K).n=m*K.n:=rfl
       rw[hm] at this
       simp only[h9] at hle⊢;omega
     · obtain⟨b,o,sp⟩:=p;simp only at hsp;subst hsp;rw[Addr.add_mid,hl]
       have h9:(kArr m K).n=m*K.n:=rfl
       have hrd':ay K F ((c.toList.drop o).take (m*K.n)) xs:=hrd
       have h3:=(hrd'.take h.toNat).drop l.toNat
       simp only at h3⊢
       rw[List.take_take,Nat.min_eq_left (Nat.mul_le_mul_right _ (by omega)),List.drop_take,List.drop_drop] at h3
       rw[Nat.sub_mul];exact h3
 · simp only[execOp,Instr.sliceAt,run_underlying hT,he,Instr.sureAddr,hbnd w,aJ hz,Sem.run_bind,Result.andThen_ok,Sem.run_pure,Option.map_none]
end
end Go.Sim
namespace Go.Sim
open Go
theorem At.sub {β α:Type} {K0:Kd β} {x:β} {o m:Nat} {K:Kd α} {xs:List α} {up:List α→β} (p:At K0 x o (kArr m K) xs up) {l k:Nat} (h:l+k≤m):
  At K0 x (o+l*K.n) (kArr k K) ((xs.drop l).take k) (fun ys=>up (xs.take l++ys++xs.drop (l+k))) where
 get:=fun{F cs} hx=>by
  obtain⟨a,hl,b⟩:=p.get hx
  have h1:(l+k)*K.n≤m*K.n:=Nat.mul_le_mul_right _ h
  rw[Nat.add_mul] at h1
  have a':o+m*K.n≤cs.length:=a
  have hkn:(kArr k K).n=k*K.n:=rfl
  refine⟨by rw[hkn];omega,by simp;omega,?_⟩
  have h2:=(b.drop l).take k
  rw[show(kArr m K).n=m*K.n from rfl,bi (by omega)] at h2
  rw[hkn];exact h2
 set:=fun{F cs c ys} hx hy=>by
  obtain⟨a,hl,b⟩:=p.get hx
  obtain⟨hy1,hy2⟩:=hy
  have h1:(l+k)*K.n≤m*K.n:=Nat.mul_le_mul_right _ h
  rw[Nat.add_mul] at h1
  have hset:ay K F ((((cs.drop o).take (kArr m K).n).take (l*K.n))++c++(((cs.drop o).take (kArr m K).n).drop (l*K.n+k*K.n))) (xs.take l++ys++xs.drop (l+k)):=by
   have h3:=b.take l
   have h4:=b.drop (l+k)
   rw[Nat.add_mul] at h4
   exact(h3.append hy2).append h4
  have:=p.set hx (c:=_) (z:=xs.take l++ys++xs.drop (l+k)) ⟨by simp;omega,hset⟩
  refine cast (congrArg (fun l=>K0.rd F l _) ?_) this
  exact splice2 (u:=l*K.n) (q:=k*K.n) (m:=m*K.n) h1
section
variable {α β:Type} [BEq α] [LawfulBEq α]
end
section
variable {P:Program} {ops:Array Oper} {Q:Exit→Act→World→Prop} {rest:List Oper} {F0:Fz} {n:Nat} {E:List (Nat×SV)} {L:List Res}
variable {d:Nat} {op:Op} {ty:TypeId} {pos:String} {aft:Array Edge} {s:SV}
variable {α β:Type} [BEq α] [LawfulBEq α]
theorem OpV.s2aP {m k lo hi sz b off:Nat} {T e:TypeId} {X:Operand} (hg:decide (0<k∧lo+k≤hi∧hi≤m)=true) (hT:P.underlying T=some (.array k e))
  (hX:ev E X=some (.raw (.slice (some (if m=lo then⟨b,off,none⟩ else⟨b,off+lo*sz,none⟩)) (hi - lo) (m - lo)))):
  OpV P n E L ⟨some d,.sliceToArrayPointer T X,ty,pos,aft,none⟩ (.raw (.pointer (some ⟨b,off+lo*sz,none⟩))):=OpV.rawv fun F a hE w=>by
 obtain⟨h0,h1,h2⟩:=of_decide_eq_true hg
 have hne:m≠lo:=by omega
 have hlt:¬hi - lo<k:=by omega
 simp[execOp,Instr.arrayAt,run_underlying hT,hE.raw hX,hne,hlt]
end
section
variable {P:Program} {ops:Array Oper} {Q:Exit→Act→World→Prop} {rest:List Oper} {F0:Fz} {n:Nat} {E:List (Nat×SV)} {L:List Res}
variable {d:Nat} {op:Op} {ty:TypeId} {pos:String} {aft:Array Edge} {s:SV}
variable {α β:Type} [BEq α]
end
end Go.Sim
namespace Go.Sim
open Go
theorem eQ {α:Type} {xs:List α} {i:Nat} (h:i<xs.length):idx xs (i:Int)=some xs[i]:=by
 unfold idx
 have h1:(0:Int)≤(i:Int):=by omega
 have h2:(i:Int)<(xs.length:Int):=by omega
 simp[h1,h2,h]
theorem wrap64 {x:Int} (h: -9223372036854775808≤x∧x≤9223372036854775807):IntKind.i64.wrap x=x:=IntWalk.i64_in _ (by omega)
theorem aV {α:Type} {xs ys:List α} (h:xs.length+ys.length≤room):app xs ys=some (xs++ys):=by
 unfold app;simp[h]
def aA (x:List Int):Prop:=∀b∈x,0≤b∧b≤255
section
variable {α β:Type} [BEq α] [LawfulBEq α]
end
section
variable {α β:Type} [BEq α] [LawfulBEq α]
end
end Go.Sim
